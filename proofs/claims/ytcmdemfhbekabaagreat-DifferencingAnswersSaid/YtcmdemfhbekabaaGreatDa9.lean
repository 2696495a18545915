/- Contracts of functions of the given program, and lemmas about plain lists and numbers: what the laws of this seat lean on. -/
import Derived.Test.YtcmdemfhbekabaaGreatDa8
namespace Go.Proofs.YtcmdemfhbekabaaGreat
open Go.Eng Go.Sol
attribute [local irreducible] opK wpList Code.wp Exit.then Exit.inBlock fnPost bodyPost Nx Calls Oper.wp Rd Rds Wr Ent Stars Blk Again Vec FnSpec wpMix QRun Stop Upto wpAt
/-! What releases tell, without where it lies -/
def canonE (p : List Int × Int) : EqR := ((none, 0, p.1), p.2)
def qsOf (l : List Int) (rs : List Rel) : List EqR := (rs.flatMap (told l)).map canonE
theorem cont_eqns {qs : List EqR} {L : List (List Int × Int)} (h : qs.map cont = L) : eqns qs = eqns (L.map canonE) := by
  subst h
  unfold eqns
  rw [List.map_map, List.map_map]
  rfl
theorem cont_valid {qs : List EqR} {L : List (List Int × Int)} (h : qs.map cont = L) (n : Int) : validB n qs = validB n (L.map canonE) := by
  subst h
  unfold validB
  rw [List.length_map, List.length_map, List.all_map, List.all_map]
  rfl
theorem cont_chk {qs : List EqR} {L : List (List Int × Int)} (h : qs.map cont = L) (n : Int) : chkQ n qs = chkQ n (L.map canonE) := by
  unfold chkQ
  rw [cont_valid h, cont_eqns h]
theorem cont_reach {qs : List EqR} {L : List (List Int × Int)} (h : qs.map cont = L) (n : Int) : reachR n qs = reachR n (L.map canonE) := by
  unfold reachR
  rw [cont_chk h, cont_eqns h]
theorem cont_pair {qs : List EqR} {L : List (List Int × Int)} (h : qs.map cont = L) (n x : Int) : pairR n qs x = pairR n (L.map canonE) x := by
  unfold pairR
  rw [cont_chk h, cont_eqns h]
theorem cont_good {N : Nat} {qs : List EqR} {L : List (List Int × Int)} (h : qs.map cont = L) (hg : ∀ q ∈ L.map canonE, GoodE N q) : ∀ q ∈ qs, GoodE N q := fun q hq => by
  have := hg (canonE (cont q)) (List.mem_map.2 ⟨cont q, by rw [← h]; exact List.mem_map.2 ⟨q, hq, rfl⟩, rfl⟩)
  exact ⟨this.ne, this.val, this.asc, this.lt⟩
/-- What right releases tell is valid. -/
theorem told_good {l : List Int} {rs : List Rel} (hs : Sizes l) (hV : RelsV l rs) : ∀ q ∈ qsOf l rs, GoodE (prod l).toNat q := fun q hq => by
  obtain ⟨p, hp, rfl⟩ := List.mem_map.1 hq
  obtain ⟨r, hr, hp⟩ := List.mem_flatMap.1 hp
  obtain ⟨i, hi, he⟩ := List.mem_iff_getElem.1 hr
  have hri : rs.getD i default = r := by rw [List.getD_eq_getElem?_getD, List.getElem?_eq_getElem hi, he]; rfl
  have h := (hV.each i hi).1
  rw [hri] at h
  unfold told at hp
  obtain ⟨j, hj, hne, rfl⟩ := mem_toldK.1 hp
  have hP := h.len
  have hvj := h.each j hj
  exact memK_good hs h.view ⟨by omega, by omega⟩ (hvj.elim (fun h => absurd h hne) id)
theorem toldK_len {l : List Int} {v : List Row} {vs : List Int} : ∀ n, (toldK l v vs n).length ≤ n
  | 0 => Nat.le_refl _
  | n + 1 => by
    have := toldK_len (l := l) (v := v) (vs := vs) n
    rw [toldK, List.length_append]
    split <;> simp <;> omega
theorem qs_len {l : List Int} : ∀ {rs : List Rel}, (∀ r ∈ rs, r.val.2.2.length ≤ 48) → (rs.flatMap (told l)).length ≤ rs.length * 48
  | [], _ => by simp
  | r :: rs, h => by
    have ih := qs_len (l := l) (rs := rs) fun x hx => h x (List.mem_cons_of_mem _ hx)
    have h1 := toldK_len (l := l) (v := r.v) (vs := r.val.2.2) r.val.2.2.length
    have h2 := h r List.mem_cons_self
    rw [List.flatMap_cons, List.length_append, List.length_cons, Nat.succ_mul]
    unfold told at ih ⊢
    omega
theorem RelsV.lens {l : List Int} {rs : List Rel} (hs : Sizes l) (hV : RelsV l rs) : ∀ r ∈ rs, r.val.2.2.length ≤ 48 := fun r hr => by
  obtain ⟨i, hi, he⟩ := List.mem_iff_getElem.1 hr
  have hri : rs.getD i default = r := by rw [List.getD_eq_getElem?_getD, List.getElem?_eq_getElem hi, he]; rfl
  have h := (hV.each i hi).1
  rw [hri] at h
  have := (h.view.sizes hs).cells
  have := h.len
  omega
theorem RelsV.qlen {l : List Int} {rs : List Rel} (hs : Sizes l) (hV : RelsV l rs) : (qsOf l rs).length ≤ 1152 := by
  have h1 := qs_len (l := l) (hV.lens hs)
  have h2 := hV.len
  unfold qsOf
  rw [List.length_map]
  omega
theorem size_ok {l : List Int} (hs : Sizes l) : 1 ≤ (prod l).toNat ∧ (prod l).toNat ≤ 48 ∧ ((prod l).toNat : Int) = prod l := by
  have h := hs.bound (k := l.length) (Nat.le_refl _)
  rw [List.take_length] at h
  have := hs.cells
  omega
theorem allC_told {l : List Int} {rs : List Rel} {qs : List EqR} (hs : Sizes l) (hV : RelsV l rs) (h : qs.map cont = rs.flatMap (told l)) : (allC qs).length ≤ 100000 := by
  have hg := cont_good (N := (prod l).toNat) h (told_good hs hV)
  have h1 := allC_good hg
  have h2 : qs.length ≤ 1152 := by
    have := hV.qlen hs
    unfold qsOf at this
    rw [List.length_map, ← h, List.length_map] at this
    exact this
  have h3 := (size_ok hs).2.1
  have h4 := Nat.mul_le_mul h2 h3
  omega
/-- The reaches from releases. -/
def rchD (l : List Int) (rs : List Rel) : List Rch × Int := if relsE l rs = 0 then reachR (prod l) (qsOf l rs) else ([], relsE l rs)
set_option maxRecDepth 10000 in
set_option maxHeartbeats 8000000 in
theorem reaches_spec (A As : Option Addr) (c cs : Nat) (l : List Int) (rs : List Rel) (I : PH) (hl : Ints I A c l) (hs : Sizes l) (hr : Rels I As cs rs) (hw : ∀ r ∈ rs, Viewed l r.v) :
    FnSpec Tryz.prog 65 [.agg #[.slice A l.length c], .slice As rs.length cs] I []
      (fun u R' => ∃ (A' : Option Addr) (c' : Nat), u = .tuple #[.slice A' (rchD l rs).1.length c', .int .i64 (rchD l rs).2] ∧ R' = [rcR A' c' (rchD l rs).1]) := by
  have hA := EAll_spec A As c cs l rs I hl hs hr hw
  have hiff := relsE_iff hs hw
  refine FnSpec.enterP Tryz.func65 rfl Tryz.ntmps65 rfl fun w F => ?_
  unfold rchD
  by_cases h0 : relsE l rs = 0
  case neg =>
    rw [if_neg h0]
    generalize relsE l rs = er at h0 hA
    repeat' first
      | ((with_reducible refine Nx.is_wp ?_); first | refine Nx.wo ?_ | refine Nx.zp (fun hc => ?_) (fun hc => ?_))
      | (refine Nx.zo ?_; first | refine Nx.opr rfl rfl ?_ | (refine Nx.call (Rpre := []) rfl rfl rfl (by kernel_rfl) rfl hA (Ent.refl _) ?_; rintro _ _ ⟨Am, cm, qs, rfl, hqs, hql, rfl⟩) | refine Nx.so ?_ | refine Nx.sb (fun bx => ?_) | refine Nx.sa (fun A2 c2 => ?_))
      | ((with_reducible refine Nx.is_at ?_); first | refine Nx.a ?_ | refine Nx.zd ?_ | refine Nx.zs (fun hc => ?_) (fun hc => ?_))
      | ((with_reducible refine Nx.is_mix ?_); first | refine Nx.m ?_ | refine Nx.zm ?_ | refine Nx.zt (fun hc => ?_) (fun hc => ?_))
      | refine Nx.zx ?_ | fail
    exact Nx.ret_fn rfl [_] ⟨none, 0, rfl, rfl⟩ ((Ent.vec_nil 42 3 _).trans (by (exact Ent.auto)))
  have hV := hiff.1 h0
  rw [if_pos h0] at hA
  rw [if_pos h0]
  rw [h0] at hA
  repeat' first
    | ((with_reducible refine Nx.is_wp ?_); first | refine Nx.p_stopr 4 rfl ?_ | refine Nx.wo ?_ | refine Nx.zp (fun hc => ?_) (fun hc => ?_))
    | (refine Nx.zo ?_; first | refine Nx.opr rfl rfl ?_ | (refine Nx.call (Rpre := []) rfl rfl rfl (by kernel_rfl) rfl hA (Ent.refl _) ?_; rintro _ _ ⟨Am, cm, qs, rfl, hqs, hql, rfl⟩) | refine Nx.so ?_ | refine Nx.sb (fun bx => ?_) | refine Nx.sa (fun A2 c2 => ?_))
    | ((with_reducible refine Nx.is_at ?_); first | refine Nx.a ?_ | refine Nx.zd ?_ | refine Nx.zs (fun hc => ?_) (fun hc => ?_))
    | ((with_reducible refine Nx.is_mix ?_); first | refine Nx.m ?_ | refine Nx.zm ?_ | refine Nx.zt (fun hc => ?_) (fun hc => ?_))
    | refine Nx.zx ?_ | fail
  refine Nx.unstop ?_
  refine Nx.freezeAt 0 rfl fun I1 m1 hI1 hm1 h1 => ?_
  refine Nx.freezeAt 0 rfl fun I2 m2 hI2 hm2 h2 => ?_
  have hq : Eqs I2 Am cm qs := ⟨(Vec.sliceN hm1 h1 fun x _ => eqC_len x).mono hI2, fun q hq => by
    obtain ⟨k, hk, he⟩ := List.mem_iff_getElem.1 hq
    obtain ⟨m3, h3le, h3⟩ := Stars.get k (r := rowR q.1) h2 (by rw [nthL_eq, List.getElem?_map, List.getElem?_eq_getElem hk, he]; rfl)
    exact Vec.sliceOf (h3le.trans hm2) h3⟩
  have hR := Reaches_spec (prod l) Am cm qs I2 hq (allC_told hs hV hqs)
  rw [show reachR (prod l) qs = reachR (prod l) (qsOf l rs) from cont_reach hqs _] at hR
  repeat' first
    | ((with_reducible refine Nx.is_wp ?_); first | refine Nx.wo ?_ | refine Nx.zp (fun hc => ?_) (fun hc => ?_))
    | (refine Nx.zo ?_; first | refine Nx.opr rfl rfl ?_ | refine Nx.callv rfl rfl rfl (by kernel_rfl) rfl (Count_spec A c l I2 (hl.mono (hI1.trans hI2)) hs) ?_ | (refine Nx.call (Rpre := []) rfl rfl rfl (by kernel_rfl) rfl hR (Ent.refl _) ?_; rintro _ _ ⟨A', c', rfl, rfl⟩) | refine Nx.so ?_ | refine Nx.sb (fun bx => ?_) | refine Nx.sa (fun A2 c2 => ?_))
    | ((with_reducible refine Nx.is_at ?_); first | refine Nx.a ?_ | refine Nx.zd ?_ | refine Nx.zs (fun hc => ?_) (fun hc => ?_))
    | ((with_reducible refine Nx.is_mix ?_); first | refine Nx.m ?_ | refine Nx.zm ?_ | refine Nx.zt (fun hc => ?_) (fun hc => ?_))
    | refine Nx.zx ?_ | fail
  exact Nx.imm_le (hI1.trans hI2) (Nx.ret_fn rfl [_] ⟨A', c', rfl, rfl⟩ (by (exact Ent.auto)))
set_option maxHeartbeats 8000000 in
set_option maxRecDepth 10000 in
/-- slices.IndexFunc, slices.ContainsFunc with what the closure holds. -/
theorem IndexFuncC_spec (f : FuncId) (cap : Value) (p : Int → Bool) (A : Option Addr) (cp : Nat) (l : List Int) (I : PH) (hl : Ints I A cp l) (hcall : callable Tryz.prog f = true)
    (hp : ∀ x, FnSpec Tryz.prog f [.int .i64 x, cap] I [] (fun v R' => v = .bool (p x) ∧ R' = [])) :
    FnSpec Tryz.prog 126 [.slice A l.length cp, .func (.func f) #[] #[cap]] I []
      (fun v R' => ∃ i : Int, v = .int .i64 i ∧ (decide (0 ≤ i) = l.any p) ∧ R' = []) := by
  refine FnSpec.enterP Tryz.func126 rfl Tryz.ntmps126 rfl fun w F => ?_
  repeat' first
    | ((with_reducible refine Nx.is_wp ?_); first | refine Nx.wo ?_ | refine Nx.zp (fun hc => ?_) (fun hc => ?_))
    | (refine Nx.zo ?_; first | refine Nx.opr rfl rfl ?_ | refine Nx.so ?_ | refine Nx.sb (fun bx => ?_) | refine Nx.sa (fun A2 c2 => ?_))
    | ((with_reducible refine Nx.is_at ?_); first | refine Nx.a ?_ | refine Nx.zd ?_ | refine Nx.zs (fun hc => ?_) (fun hc => ?_))
    | ((with_reducible refine Nx.is_mix ?_); first | refine Nx.m ?_ | refine Nx.zm ?_ | refine Nx.zt (fun hc => ?_) (fun hc => ?_))
    | refine Nx.zx ?_ | fail
  have hlen := hl.len
  refine Nx.p_loop (σ := Nat) (fun k => [(0, .slice A l.length cp), (1, .func (.func f) #[] #[cap]), (7, .int .i64 l.length), (8, .int .i64 (k : Int))])
    (fun _ => [F]) (fun k => k ≤ l.length ∧ (l.take k).any p = false) (fun k => l.length - k) 0 rfl ⟨Nat.zero_le _, by simp⟩ ⟨rfl, rfl, rfl, rfl, trivial⟩ (Ent.refl _) ?_
  rintro k ⟨hk, hnone⟩
  repeat' first
    | ((with_reducible refine Nx.is_wp ?_); first | refine Nx.wo ?_ | refine Nx.zp (fun hc => ?_) (fun hc => ?_))
    | (refine Nx.zo ?_; first | refine Nx.opr rfl rfl ?_ | refine Nx.indexAddr_nat rfl rfl rfl rfl rfl (by omega) (hl.isSome (by omega)) ?_ | refine Nx.load rfl rfl rfl (hl.rd (by omega)) ?_ | refine Nx.callv rfl rfl rfl hcall rfl (hp _) ?_ | refine Nx.so ?_ | refine Nx.sb (fun bx => ?_) | refine Nx.sa (fun A2 c2 => ?_))
    | ((with_reducible refine Nx.is_at ?_); first | refine Nx.a ?_ | refine Nx.zd ?_ | refine Nx.zs (fun hc => ?_) (fun hc => ?_))
    | ((with_reducible refine Nx.is_mix ?_); first | refine Nx.m ?_ | refine Nx.zm ?_ | refine Nx.zt (fun hc => ?_) (fun hc => ?_))
    | refine Nx.zx ?_ | fail
  · refine Nx.ret_fn rfl [] ⟨_, rfl, ?_, rfl⟩ (Ent.refl _)
    rw [show decide ((0 : Int) ≤ k) = true by simp, Eq.comm, List.any_eq_true]
    exact ⟨l.getD k default, by rw [List.getD_eq_getElem?_getD, List.getElem?_eq_getElem (by omega)]; exact List.getElem_mem _, hc⟩
  · refine Nx.again (k + 1) ⟨by omega, ?_⟩ (by omega) ⟨rfl, rfl, rfl, rfl, trivial⟩ (Ent.refl _)
    rw [List.take_succ_eq_append_getElem (by omega), List.any_append, hnone]
    have : l[k]'(by omega) = l.getD k default := by rw [List.getD_eq_getElem?_getD, List.getElem?_eq_getElem (by omega)]; rfl
    simp only [this, List.any_cons, List.any_nil, hc, Bool.or_self]
  · obtain rfl : k = l.length := by omega
    refine Nx.ret_fn rfl [] ⟨_, rfl, ?_, rfl⟩ (Ent.refl _)
    rw [List.take_length] at hnone
    rw [hnone]; rfl
set_option maxHeartbeats 8000000 in
set_option maxRecDepth 10000 in
theorem ContainsFuncC_spec (f : FuncId) (cap : Value) (p : Int → Bool) (A : Option Addr) (cp : Nat) (l : List Int) (I : PH) (hl : Ints I A cp l) (hcall : callable Tryz.prog f = true)
    (hp : ∀ x, FnSpec Tryz.prog f [.int .i64 x, cap] I [] (fun v R' => v = .bool (p x) ∧ R' = [])) :
    FnSpec Tryz.prog 98 [.slice A l.length cp, .func (.func f) #[] #[cap]] I []
      (fun v R' => v = .bool (l.any p) ∧ R' = []) := by
  refine FnSpec.enterP Tryz.func98 rfl Tryz.ntmps98 rfl fun w F => ?_
  repeat' first
    | ((with_reducible refine Nx.is_wp ?_); first | refine Nx.wo ?_ | refine Nx.zp (fun hc => ?_) (fun hc => ?_))
    | (refine Nx.zo ?_; first | refine Nx.opr rfl rfl ?_ | refine Nx.so ?_ | refine Nx.sb (fun bx => ?_) | refine Nx.sa (fun A2 c2 => ?_))
    | ((with_reducible refine Nx.is_at ?_); first | refine Nx.a ?_ | refine Nx.zd ?_ | refine Nx.zs (fun hc => ?_) (fun hc => ?_))
    | ((with_reducible refine Nx.is_mix ?_); first | refine Nx.m ?_ | refine Nx.zm ?_ | refine Nx.zt (fun hc => ?_) (fun hc => ?_))
    | refine Nx.zx ?_ | fail
  refine Nx.at_op rfl rfl ?_
  refine Nx.call rfl rfl rfl (by kernel_rfl) rfl (IndexFuncC_spec f cap p A cp l I hl hcall hp) (Ent.refl _) ?_
  rintro v R' ⟨i, rfl, hi, rfl⟩
  repeat' first
    | ((with_reducible refine Nx.is_wp ?_); first | refine Nx.wo ?_ | refine Nx.zp (fun hc => ?_) (fun hc => ?_))
    | (refine Nx.zo ?_; first | refine Nx.opr rfl rfl ?_ | refine Nx.so ?_ | refine Nx.sb (fun bx => ?_) | refine Nx.sa (fun A2 c2 => ?_))
    | ((with_reducible refine Nx.is_at ?_); first | refine Nx.a ?_ | refine Nx.zd ?_ | refine Nx.zs (fun hc => ?_) (fun hc => ?_))
    | ((with_reducible refine Nx.is_mix ?_); first | refine Nx.m ?_ | refine Nx.zm ?_ | refine Nx.zt (fun hc => ?_) (fun hc => ?_))
    | refine Nx.zx ?_ | fail
  exact Nx.ret_fn rfl [] ⟨by rw [← hi], rfl⟩ (Ent.refl _)
end Go.Proofs.YtcmdemfhbekabaaGreat
/- Contracts of functions of the given program, and lemmas about plain lists and numbers: what the laws of this seat lean on. -/
namespace Go.Proofs.YtcmdemfhbekabaaGreat
open Go.Eng Go.Sol
attribute [local irreducible] opK wpList Code.wp Exit.then Exit.inBlock fnPost bodyPost Nx Calls Oper.wp Rd Rds Wr Ent Stars Blk Again Vec FnSpec wpMix QRun Stop Upto wpAt
/-! Differencing: checks, narrow reaches -/
def outP (n k : Int) : Bool := decide (k < 0 ∨ n ≤ k)
set_option maxHeartbeats 8000000 in
set_option maxRecDepth 10000 in
theorem outP_spec (n k : Int) (b : Nat) (I : PH) (hb : ∀ (W : World) (R : List Res), Rd W I R ⟨b, 0, none⟩ (.int .i64 n)) :
    FnSpec Tryz.prog 109 [.int .i64 k, .pointer (some ⟨b, 0, none⟩)] I [] (fun v R' => v = .bool (outP n k) ∧ R' = []) := by
  unfold outP
  refine FnSpec.enterP Tryz.func109 rfl Tryz.ntmps109 rfl fun w F => ?_
  by_cases h1 : k < 0
  · rw [decide_eq_true (.inl h1)]
    repeat' first
      | ((with_reducible refine Nx.is_wp ?_); first | refine Nx.wo ?_ | refine Nx.zp (fun hc => ?_) (fun hc => ?_))
      | (refine Nx.zo ?_; first | refine Nx.opr rfl rfl ?_ | refine Nx.load rfl rfl rfl (hb _ _) ?_ | refine Nx.so ?_ | refine Nx.sb (fun bx => ?_) | refine Nx.sa (fun A2 c2 => ?_))
      | ((with_reducible refine Nx.is_at ?_); first | refine Nx.a ?_ | refine Nx.zd ?_ | refine Nx.zs (fun hc => ?_) (fun hc => ?_))
      | ((with_reducible refine Nx.is_mix ?_); first | refine Nx.m ?_ | refine Nx.zm ?_ | refine Nx.zt (fun hc => ?_) (fun hc => ?_))
      | refine Nx.zx ?_ | fail
    exact Nx.ret_fn rfl [] ⟨rfl, rfl⟩ (by (exact Ent.auto))
  by_cases h2 : n ≤ k
  · rw [decide_eq_true (.inr h2)]
    repeat' first
      | ((with_reducible refine Nx.is_wp ?_); first | refine Nx.wo ?_ | refine Nx.zp (fun hc => ?_) (fun hc => ?_))
      | (refine Nx.zo ?_; first | refine Nx.opr rfl rfl ?_ | refine Nx.load rfl rfl rfl (hb _ _) ?_ | refine Nx.so ?_ | refine Nx.sb (fun bx => ?_) | refine Nx.sa (fun A2 c2 => ?_))
      | ((with_reducible refine Nx.is_at ?_); first | refine Nx.a ?_ | refine Nx.zd ?_ | refine Nx.zs (fun hc => ?_) (fun hc => ?_))
      | ((with_reducible refine Nx.is_mix ?_); first | refine Nx.m ?_ | refine Nx.zm ?_ | refine Nx.zt (fun hc => ?_) (fun hc => ?_))
      | refine Nx.zx ?_ | fail
    exact Nx.ret_fn rfl [] ⟨by rw [decide_eq_true h2], rfl⟩ (by (exact Ent.auto))
  · rw [decide_eq_false (by omega)]
    repeat' first
      | ((with_reducible refine Nx.is_wp ?_); first | refine Nx.wo ?_ | refine Nx.zp (fun hc => ?_) (fun hc => ?_))
      | (refine Nx.zo ?_; first | refine Nx.opr rfl rfl ?_ | refine Nx.load rfl rfl rfl (hb _ _) ?_ | refine Nx.so ?_ | refine Nx.sb (fun bx => ?_) | refine Nx.sa (fun A2 c2 => ?_))
      | ((with_reducible refine Nx.is_at ?_); first | refine Nx.a ?_ | refine Nx.zd ?_ | refine Nx.zs (fun hc => ?_) (fun hc => ?_))
      | ((with_reducible refine Nx.is_mix ?_); first | refine Nx.m ?_ | refine Nx.zm ?_ | refine Nx.zt (fun hc => ?_) (fun hc => ?_))
      | refine Nx.zx ?_ | fail
    exact Nx.ret_fn rfl [] ⟨by rw [decide_eq_false h2], rfl⟩ (by (exact Ent.auto))
/-- The first error of releases, protected cells and a margin. -/
def chkD (l : List Int) (rs : List Rel) (prot : List Int) (m : Int) : Int :=
  if relsE l rs ≠ 0 then relsE l rs else if m < 1 ∨ 100 < m then 2 else if prot.any (outP (prod l)) = true then 2 else if prot.Pairwise (· < ·) then 0 else 11
theorem pairwise_adj : ∀ {p : List Int}, (∀ i, i + 1 < p.length → p.getD i default < p.getD (i + 1) default) → p.Pairwise (· < ·)
  | [], _ => List.Pairwise.nil
  | [a], _ => List.pairwise_singleton _ _
  | a :: b :: p, h => by
    have ih := pairwise_adj (p := b :: p) fun i hi => h (i + 1) (by simpa using hi)
    have hab : a < b := h 0 (by simp)
    refine List.pairwise_cons.2 ⟨fun x hx => ?_, ih⟩
    rcases List.mem_cons.1 hx with rfl | hx
    · exact hab
    · have := (List.pairwise_cons.1 ih).1 x hx; omega
theorem adj_of {p : List Int} (h : p.Pairwise (· < ·)) {i : Nat} (hi : i + 1 < p.length) : p.getD i default < p.getD (i + 1) default := by
  have := List.pairwise_iff_getElem.1 h i (i + 1) (by omega) hi (by omega)
  rw [List.getD_eq_getElem?_getD, List.getElem?_eq_getElem (by omega), List.getD_eq_getElem?_getD, List.getElem?_eq_getElem hi]
  exact this
set_option maxRecDepth 10000 in
set_option maxHeartbeats 8000000 in
theorem check_specD (A As Ap : Option Addr) (c cs cp : Nat) (l : List Int) (rs : List Rel) (prot : List Int) (m : Int) (I : PH) (hl : Ints I A c l) (hs : Sizes l) (hr : Rels I As cs rs) (hw : ∀ r ∈ rs, Viewed l r.v) (hp : Ints I Ap cp prot) :
    FnSpec Tryz.prog 67 [.agg #[.slice A l.length c], .slice As rs.length cs, .slice Ap prot.length cp, .int .i64 m] I [] (fun u R' => u = .int .i64 (chkD l rs prot m) ∧ R' = []) := by
  have hEC := ECheck_spec A As c cs l rs I hl hs hr hw
  have hpl := hp.len
  unfold chkD
  refine FnSpec.enterP Tryz.func67 rfl Tryz.ntmps67 rfl fun w F => ?_
  by_cases h0 : relsE l rs = 0
  case neg =>
    rw [if_pos h0]
    generalize relsE l rs = er at h0 hEC
    repeat' first
      | ((with_reducible refine Nx.is_wp ?_); first | refine Nx.wo ?_ | refine Nx.zp (fun hc => ?_) (fun hc => ?_))
      | (refine Nx.zo ?_; first | refine Nx.opr rfl rfl ?_ | refine Nx.callv rfl rfl rfl (by kernel_rfl) rfl hEC ?_ | refine Nx.so ?_ | refine Nx.sb (fun bx => ?_) | refine Nx.sa (fun A2 c2 => ?_))
      | ((with_reducible refine Nx.is_at ?_); first | refine Nx.a ?_ | refine Nx.zd ?_ | refine Nx.zs (fun hc => ?_) (fun hc => ?_))
      | ((with_reducible refine Nx.is_mix ?_); first | refine Nx.m ?_ | refine Nx.zm ?_ | refine Nx.zt (fun hc => ?_) (fun hc => ?_))
      | refine Nx.zx ?_ | fail
    exact Nx.ret_fn rfl [] ⟨rfl, rfl⟩ (by (exact Ent.auto))
  rw [if_neg (by omega)]
  rw [h0] at hEC
  by_cases h1 : m < 1 ∨ 100 < m
  · rw [if_pos h1]
    by_cases h2 : m < 1
    · repeat' first
        | ((with_reducible refine Nx.is_wp ?_); first | refine Nx.wo ?_ | refine Nx.zp (fun hc => ?_) (fun hc => ?_))
        | (refine Nx.zo ?_; first | refine Nx.opr rfl rfl ?_ | refine Nx.callv rfl rfl rfl (by kernel_rfl) rfl hEC ?_ | refine Nx.callv rfl rfl rfl (by kernel_rfl) rfl (Count_spec A c l I hl hs) ?_ | refine Nx.so ?_ | refine Nx.sb (fun bx => ?_) | refine Nx.sa (fun A2 c2 => ?_))
        | ((with_reducible refine Nx.is_at ?_); first | refine Nx.a ?_ | refine Nx.zd ?_ | refine Nx.zs (fun hc => ?_) (fun hc => ?_))
        | ((with_reducible refine Nx.is_mix ?_); first | refine Nx.m ?_ | refine Nx.zm ?_ | refine Nx.zt (fun hc => ?_) (fun hc => ?_))
        | refine Nx.zx ?_ | fail
      exact Nx.ret_fn rfl [] ⟨rfl, rfl⟩ (by (exact Ent.auto))
    · repeat' first
        | ((with_reducible refine Nx.is_wp ?_); first | refine Nx.wo ?_ | refine Nx.zp (fun hc => ?_) (fun hc => ?_))
        | (refine Nx.zo ?_; first | refine Nx.opr rfl rfl ?_ | refine Nx.callv rfl rfl rfl (by kernel_rfl) rfl hEC ?_ | refine Nx.callv rfl rfl rfl (by kernel_rfl) rfl (Count_spec A c l I hl hs) ?_ | refine Nx.so ?_ | refine Nx.sb (fun bx => ?_) | refine Nx.sa (fun A2 c2 => ?_))
        | ((with_reducible refine Nx.is_at ?_); first | refine Nx.a ?_ | refine Nx.zd ?_ | refine Nx.zs (fun hc => ?_) (fun hc => ?_))
        | ((with_reducible refine Nx.is_mix ?_); first | refine Nx.m ?_ | refine Nx.zm ?_ | refine Nx.zt (fun hc => ?_) (fun hc => ?_))
        | refine Nx.zx ?_ | fail
      exact Nx.ret_fn rfl [] ⟨rfl, rfl⟩ (by (exact Ent.auto))
  rw [if_neg h1]
  repeat' first
    | ((with_reducible refine Nx.is_wp ?_); first | refine Nx.p_stopr 5 rfl ?_ | refine Nx.wo ?_ | refine Nx.zp (fun hc => ?_) (fun hc => ?_))
    | (refine Nx.zo ?_; first | refine Nx.opr rfl rfl ?_ | refine Nx.callv rfl rfl rfl (by kernel_rfl) rfl hEC ?_ | refine Nx.callv rfl rfl rfl (by kernel_rfl) rfl (Count_spec A c l I hl hs) ?_ | refine Nx.so ?_ | refine Nx.sb (fun bx => ?_) | refine Nx.sa (fun A2 c2 => ?_))
    | ((with_reducible refine Nx.is_at ?_); first | refine Nx.a ?_ | refine Nx.zd ?_ | refine Nx.zs (fun hc => ?_) (fun hc => ?_))
    | ((with_reducible refine Nx.is_mix ?_); first | refine Nx.m ?_ | refine Nx.zm ?_ | refine Nx.zt (fun hc => ?_) (fun hc => ?_))
    | refine Nx.zx ?_ | fail
  refine unstopN ?_
  revert bx; intro b10
  refine Nx.freezeAt 0 rfl fun I2 m2 hI2 hm2 hb2 => ?_
  have rb : ∀ (W : World) (R : List Res), Rd W I2 R ⟨b10, 0, none⟩ (.int .i64 (prod l)) := fun W R => Rd.imm (cellH_mono hm2 (Blk.cell hb2 rfl))
  have hC := ContainsFuncC_spec 109 (.pointer (some ⟨b10, 0, none⟩)) (outP (prod l)) Ap cp prot I2 (hp.mono hI2) (by kernel_rfl) (fun x => outP_spec (prod l) x b10 I2 rb)
  replace hp := hp.mono hI2
  cases ha : prot.any (outP (prod l)) with
  | true =>
    rw [if_pos rfl]
    rw [ha] at hC
    repeat' first
      | ((with_reducible refine Nx.is_wp ?_); first | refine Nx.wo ?_ | refine Nx.zp (fun hc => ?_) (fun hc => ?_))
      | (refine Nx.zo ?_; first | refine Nx.opr rfl rfl ?_ | refine Nx.callv rfl rfl rfl (by kernel_rfl) rfl hC ?_ | refine Nx.so ?_ | refine Nx.sb (fun bx => ?_) | refine Nx.sa (fun A2 c2 => ?_))
      | ((with_reducible refine Nx.is_at ?_); first | refine Nx.a ?_ | refine Nx.zd ?_ | refine Nx.zs (fun hc => ?_) (fun hc => ?_))
      | ((with_reducible refine Nx.is_mix ?_); first | refine Nx.m ?_ | refine Nx.zm ?_ | refine Nx.zt (fun hc => ?_) (fun hc => ?_))
      | refine Nx.zx ?_ | fail
    exact Nx.imm_le hI2 (Nx.ret_fn rfl [] ⟨rfl, rfl⟩ (by (exact Ent.auto)))
  | false =>
  rw [if_neg (by decide)]
  rw [ha] at hC
  repeat' first
    | ((with_reducible refine Nx.is_wp ?_); first | refine Nx.wo ?_ | refine Nx.zp (fun hc => ?_) (fun hc => ?_))
    | (refine Nx.zo ?_; first | refine Nx.opr rfl rfl ?_ | refine Nx.callv rfl rfl rfl (by kernel_rfl) rfl hC ?_ | refine Nx.so ?_ | refine Nx.sb (fun bx => ?_) | refine Nx.sa (fun A2 c2 => ?_))
    | ((with_reducible refine Nx.is_at ?_); first | refine Nx.a ?_ | refine Nx.zd ?_ | refine Nx.zs (fun hc => ?_) (fun hc => ?_))
    | ((with_reducible refine Nx.is_mix ?_); first | refine Nx.m ?_ | refine Nx.zm ?_ | refine Nx.zt (fun hc => ?_) (fun hc => ?_))
    | refine Nx.zx ?_ | fail
  refine Nx.p_loop (σ := Nat) (fun i => [(2, .slice Ap prot.length cp), (11, .int .i64 ((i + 1 : Nat) : Int))])
    (fun _ => [F]) (fun i => i ≤ prot.length ∧ ∀ j, j < i → j + 1 < prot.length → prot.getD j default < prot.getD (j + 1) default) (fun i => prot.length - i) 0 rfl ⟨Nat.zero_le _, fun j hj => absurd hj (Nat.not_lt_zero _)⟩ ⟨rfl, rfl, trivial⟩ (by (exact Ent.auto)) ?_
  rintro i ⟨hi, hall⟩
  by_cases hlt : i + 1 < prot.length
  case neg =>
    rw [if_pos (pairwise_adj fun j hj => hall j (by omega) hj)]
    repeat' first
      | ((with_reducible refine Nx.is_wp ?_); first | refine Nx.wo ?_ | refine Nx.zp (fun hc => ?_) (fun hc => ?_))
      | (refine Nx.zo ?_; first | refine Nx.opr rfl rfl ?_ | refine Nx.so ?_ | refine Nx.sb (fun bx => ?_) | refine Nx.sa (fun A2 c2 => ?_))
      | ((with_reducible refine Nx.is_at ?_); first | refine Nx.a ?_ | refine Nx.zd ?_ | refine Nx.zs (fun hc => ?_) (fun hc => ?_))
      | ((with_reducible refine Nx.is_mix ?_); first | refine Nx.m ?_ | refine Nx.zm ?_ | refine Nx.zt (fun hc => ?_) (fun hc => ?_))
      | refine Nx.zx ?_ | fail
    exact Nx.imm_le hI2 (Nx.ret_fn rfl [] ⟨rfl, rfl⟩ (by (exact Ent.auto)))
  have hadj := fun h : prot.Pairwise (· < ·) => adj_of h hlt
  have r1 := fun (W : World) (R : List Res) => hp.rd (W := W) (R := R) (k := i) (by omega)
  have r2 := fun (W : World) (R : List Res) => hp.rd (W := W) (R := R) hlt
  have hnx : ∀ j, j < i + 1 → prot.getD i default < prot.getD (i + 1) default → j + 1 < prot.length → prot.getD j default < prot.getD (j + 1) default := fun j hj hx h => by
    rcases Nat.lt_or_ge j i with h' | h'
    · exact hall j h' h
    · rw [show j = i by omega]; exact hx
  generalize prot.getD i default = x at hadj r1 hnx
  generalize prot.getD (i + 1) default = y at hadj r2 hnx
  have hi1 : (((i + 1 : Nat) : Int) - 1).toNat = i := by omega
  have r1' : ∀ (W : World) (R : List Res), Rd W I2 R ((ad Ap).add ((((i + 1 : Nat) : Int) - 1).toNat * 1)) (.int .i64 x) := fun W R => by rw [hi1]; exact r1 W R
  by_cases hxy : x < y
  · repeat' first
      | ((with_reducible refine Nx.is_wp ?_); first | refine Nx.wo ?_ | refine Nx.p_draw (id := 10) rfl [0, 1, 2, 3, 4, 5, 6, 7, 8, 9] [] _ rfl rfl (by kernel_rfl) (by kernel_rfl) rfl (by repeat first | exact PanicOk.fn | refine PanicOk.then_ ?_ | refine PanicOk.inB ?_) (Ent.refl _) ?_ | refine Nx.zp (fun hc => ?_) (fun hc => ?_))
      | (refine Nx.zo ?_; first | refine Nx.opr rfl rfl ?_ | refine Nx.so ?_ | refine Nx.sb (fun bx => ?_) | refine Nx.sa (fun A2 c2 => ?_))
      | ((with_reducible refine Nx.is_at ?_); first | refine Nx.a ?_ | refine Nx.zd ?_ | refine Nx.zs (fun hc => ?_) (fun hc => ?_))
      | ((with_reducible refine Nx.is_mix ?_); first | refine Nx.m_quiet rfl rfl rfl rfl rfl (by first | exact QRun.opr rfl | exact QRun.idxi (A := Ap) (i := ((i + 1 : Nat) : Int) - 1) (sz := 1) rfl rfl rfl rfl (by omega) (by omega) (hp.isSome (by omega)) | exact QRun.idx (A := Ap) (i := i + 1) (sz := 1) rfl rfl rfl rfl (by omega) (hp.isSome (by omega)) | exact QRun.load rfl rfl (r1' _ _) | exact QRun.load rfl rfl (r2 _ _)) ?_ | refine Nx.m_quiet_do rfl rfl rfl rfl rfl rfl rfl (by first | exact QRun.opr rfl | exact QRun.idxi (A := Ap) (i := ((i + 1 : Nat) : Int) - 1) (sz := 1) rfl rfl rfl rfl (by omega) (by omega) (hp.isSome (by omega)) | exact QRun.idx (A := Ap) (i := i + 1) (sz := 1) rfl rfl rfl rfl (by omega) (hp.isSome (by omega)) | exact QRun.load rfl rfl (r1' _ _) | exact QRun.load rfl rfl (r2 _ _)) ?_ | refine Nx.m ?_ | refine Nx.zm ?_ | refine Nx.zt (fun hc => ?_) (fun hc => ?_))
      | refine Nx.zx ?_ | fail
    exact Nx.again (i + 1) ⟨by omega, fun j hj h => hnx j hj hxy h⟩ (by omega) ⟨rfl, rfl, trivial⟩ (by (exact Ent.auto))
  · rw [if_neg fun h => hxy (hadj h)]
    repeat' first
      | ((with_reducible refine Nx.is_wp ?_); first | refine Nx.wo ?_ | refine Nx.p_draw (id := 10) rfl [0, 1, 2, 3, 4, 5, 6, 7, 8, 9] [] _ rfl rfl (by kernel_rfl) (by kernel_rfl) rfl (by repeat first | exact PanicOk.fn | refine PanicOk.then_ ?_ | refine PanicOk.inB ?_) (Ent.refl _) ?_ | refine Nx.zp (fun hc => ?_) (fun hc => ?_))
      | (refine Nx.zo ?_; first | refine Nx.opr rfl rfl ?_ | refine Nx.so ?_ | refine Nx.sb (fun bx => ?_) | refine Nx.sa (fun A2 c2 => ?_))
      | ((with_reducible refine Nx.is_at ?_); first | refine Nx.a ?_ | refine Nx.zd ?_ | refine Nx.zs (fun hc => ?_) (fun hc => ?_))
      | ((with_reducible refine Nx.is_mix ?_); first | refine Nx.m_quiet rfl rfl rfl rfl rfl (by first | exact QRun.opr rfl | exact QRun.idxi (A := Ap) (i := ((i + 1 : Nat) : Int) - 1) (sz := 1) rfl rfl rfl rfl (by omega) (by omega) (hp.isSome (by omega)) | exact QRun.idx (A := Ap) (i := i + 1) (sz := 1) rfl rfl rfl rfl (by omega) (hp.isSome (by omega)) | exact QRun.load rfl rfl (r1' _ _) | exact QRun.load rfl rfl (r2 _ _)) ?_ | refine Nx.m_quiet_do rfl rfl rfl rfl rfl rfl rfl (by first | exact QRun.opr rfl | exact QRun.idxi (A := Ap) (i := ((i + 1 : Nat) : Int) - 1) (sz := 1) rfl rfl rfl rfl (by omega) (by omega) (hp.isSome (by omega)) | exact QRun.idx (A := Ap) (i := i + 1) (sz := 1) rfl rfl rfl rfl (by omega) (hp.isSome (by omega)) | exact QRun.load rfl rfl (r1' _ _) | exact QRun.load rfl rfl (r2 _ _)) ?_ | refine Nx.m ?_ | refine Nx.zm ?_ | refine Nx.zt (fun hc => ?_) (fun hc => ?_))
      | refine Nx.zx ?_ | fail
    exact Nx.imm_le hI2 (Nx.ret_fn rfl [] ⟨rfl, rfl⟩ (by (exact Ent.auto)))
def narrowB (x : Rch) (m : Int) : Bool := !x.2.2 && decide (x.2.1 - x.1 < m)
def rchOk (x : Rch) : Prop := (0 ≤ x.1 ∧ x.1 ≤ 1000000) ∧ (0 ≤ x.2.1 ∧ x.2.1 ≤ 1000000)
set_option maxHeartbeats 8000000 in
set_option maxRecDepth 10000 in
theorem narrow_spec (x : Rch) (m : Int) (I : PH) (hx : rchOk x) : FnSpec Tryz.prog 66 [.agg #[.int .i64 x.1, .int .i64 x.2.1, .bool x.2.2], .int .i64 m] I [] (fun v R' => v = .bool (narrowB x m) ∧ R' = []) := by
  obtain ⟨lo, hi, op⟩ := x
  unfold rchOk at hx
  unfold narrowB
  dsimp only at hx ⊢
  obtain ⟨⟨h1, h2⟩, h3, h4⟩ := hx
  refine FnSpec.enterP Tryz.func66 rfl Tryz.ntmps66 rfl fun w F => ?_
  cases op with
  | true =>
    repeat' first
      | ((with_reducible refine Nx.is_wp ?_); first | refine Nx.wo ?_ | refine Nx.zp (fun hc => ?_) (fun hc => ?_))
      | (refine Nx.zo ?_; first | refine Nx.opr rfl rfl ?_ | refine Nx.so ?_ | refine Nx.sb (fun bx => ?_) | refine Nx.sa (fun A2 c2 => ?_))
      | ((with_reducible refine Nx.is_at ?_); first | refine Nx.a ?_ | refine Nx.zd ?_ | refine Nx.zs (fun hc => ?_) (fun hc => ?_))
      | ((with_reducible refine Nx.is_mix ?_); first | refine Nx.m ?_ | refine Nx.zm ?_ | refine Nx.zt (fun hc => ?_) (fun hc => ?_))
      | refine Nx.zx ?_ | fail
    exact Nx.ret_fn rfl [] ⟨rfl, rfl⟩ (by (exact Ent.auto))
  | false =>
    repeat' first
      | ((with_reducible refine Nx.is_wp ?_); first | refine Nx.wo ?_ | refine Nx.zp (fun hc => ?_) (fun hc => ?_))
      | (refine Nx.zo ?_; first | refine Nx.opr rfl rfl ?_ | refine Nx.so ?_ | refine Nx.sb (fun bx => ?_) | refine Nx.sa (fun A2 c2 => ?_))
      | ((with_reducible refine Nx.is_at ?_); first | refine Nx.a ?_ | refine Nx.zd ?_ | refine Nx.zs (fun hc => ?_) (fun hc => ?_))
      | ((with_reducible refine Nx.is_mix ?_); first | refine Nx.m ?_ | refine Nx.zm ?_ | refine Nx.zt (fun hc => ?_) (fun hc => ?_))
      | refine Nx.zx ?_ | fail
    exact Nx.ret_fn rfl [] ⟨rfl, rfl⟩ (by (exact Ent.auto))
theorem reach_ok {N x : Nat} {qs : List EqR} (hg : ∀ q ∈ qs, GoodE N q) (hne : solsOf N (eqns qs) ≠ []) : rchOk (reachAt N (eqns qs) x) := by
  unfold rchOk reachAt
  by_cases hx : x ∈ touch N (eqns qs)
  · rw [if_pos hx]
    have hat : ∀ s ∈ solsOf N (eqns qs), 0 ≤ s.getD x 0 ∧ s.getD x 0 ≤ 1000000 := fun s hs => ((mem_sols hg).1 hs).pos x hx
    have e : ∀ down, (extOf N (eqns qs) x down).headD [] ∈ solsOf N (eqns qs) := fun down => by
      obtain ⟨a, ra, ha, _⟩ := ext_some down hg hx hne
      rw [ha]; exact (ext_head hg hx ha).1
    exact ⟨hat _ (e false), hat _ (e true)⟩
  · rw [if_neg hx]; decide
end Go.Proofs.YtcmdemfhbekabaaGreat
/- Contracts of functions of the given program, and lemmas about plain lists and numbers: what the laws of this seat lean on. -/
namespace Go.Proofs.YtcmdemfhbekabaaGreat
open Go.Eng Go.Sol
attribute [local irreducible] opK wpList Code.wp Exit.then Exit.inBlock fnPost bodyPost Nx Calls Oper.wp Rd Rds Wr Ent Stars Blk Again Vec FnSpec wpMix QRun Stop Upto wpAt
theorem range_at {α : Type} [Inhabited α] {f : Nat → α} {N x : Nat} (hx : x < N) : ((List.range N).map f).getD x default = f x := by
  rw [List.getD_eq_getElem?_getD, List.getElem?_map, List.getElem?_range hx]; rfl
end Go.Proofs.YtcmdemfhbekabaaGreat
/- Contracts of functions of the given program, and lemmas about plain lists and numbers: what the laws of this seat lean on. -/
namespace Go.Proofs.YtcmdemfhbekabaaGreat
open Go.Eng Go.Sol
attribute [local irreducible] opK wpList Code.wp Exit.then Exit.inBlock fnPost bodyPost Nx Calls Oper.wp Rd Rds Wr Ent Stars Blk Again Vec FnSpec wpMix QRun Stop Upto wpAt
/-! Exposed cells -/
abbrev Exp := Int × Rch × Int
def exC (x : Exp) : List Value := [.int .i64 x.1, .int .i64 x.2.1.1, .int .i64 x.2.1.2.1, .bool x.2.1.2.2, .int .i64 x.2.2]
theorem exC_len (x : Exp) : (exC x).length = 5 := rfl
abbrev expR (A : Option Addr) (c : Nat) (l : List Exp) : Res := Vec 99 5 A l.length c (l.flatMap exC)
theorem reachR_cases {n : Int} {qs : List EqR} (h : (reachR n qs).2 = 0) : (1 ≤ n ∧ n ≤ 48) ∧ (reachR n qs).1 = (List.range n.toNat).map (reachAt n.toNat (eqns qs)) ∧ (∀ q ∈ qs, GoodE n.toNat q) ∧ solsOf n.toNat (eqns qs) ≠ [] ∧ chkQ n qs = 0 := by
  unfold reachR at h ⊢
  split at h
  · rename_i h0
    obtain ⟨h1, _, h3, _⟩ := chk_good h0
    rw [if_pos h0]
    split at h
    · exact absurd h (by decide)
    · rename_i h4
      rw [if_neg h4]
      exact ⟨h1, rfl, h3, h4, h0⟩
  · rename_i h0; exact absurd h h0
theorem rchD_zero {l : List Int} {rs : List Rel} (h : (rchD l rs).2 = 0) : relsE l rs = 0 ∧ rchD l rs = reachR (prod l) (qsOf l rs) := by
  unfold rchD at h ⊢
  split at h
  · rename_i h0; rw [if_pos h0]; exact ⟨h0, rfl⟩
  · rename_i h0; exact absurd h h0
theorem rchD_ok {l : List Int} {rs : List Rel} (h : (rchD l rs).2 = 0) : (rchD l rs).1.length = (prod l).toNat ∧ ∀ k, k < (prod l).toNat → (rchD l rs).1.getD k default = reachAt (prod l).toNat (eqns (qsOf l rs)) k ∧ rchOk ((rchD l rs).1.getD k default) := by
  obtain ⟨_, he⟩ := rchD_zero h
  rw [he] at h ⊢
  obtain ⟨_, h2, h3, h4, _⟩ := reachR_cases h
  rw [h2]
  refine ⟨by simp, fun k hk => ?_⟩
  rw [range_at hk]
  exact ⟨rfl, reach_ok h3 h4⟩
theorem chkD_ok {l : List Int} {rs : List Rel} {prot : List Int} {m : Int} (h : chkD l rs prot m = 0) : relsE l rs = 0 ∧ (1 ≤ m ∧ m ≤ 100) ∧ (∀ k ∈ prot, 0 ≤ k ∧ k < prod l) ∧ prot.Pairwise (· < ·) := by
  unfold chkD at h
  split at h
  · rename_i h0; exact absurd h h0
  rename_i h0
  split at h
  · omega
  rename_i h1
  split at h
  · omega
  rename_i h2
  split at h
  · rename_i h3
    refine ⟨Decidable.byContradiction h0, by omega, fun k hk => ?_, h3⟩
    have : ¬ outP (prod l) k = true := fun hb => h2 (List.any_eq_true.2 ⟨k, hk, hb⟩)
    unfold outP at this
    rw [decide_eq_true_eq] at this
    omega
  · omega
def exOf (rc : List Rch) (prot : List Int) (m : Int) : List Exp := (prot.filter fun k => narrowB (rc.getD k.toNat default) m).map fun k => (k, rc.getD k.toNat default, -1)
theorem exOf_snoc (rc : List Rch) (p : List Int) (k m : Int) : exOf rc (p ++ [k]) m = exOf rc p m ++ if narrowB (rc.getD k.toNat default) m = true then [(k, rc.getD k.toNat default, -1)] else [] := by
  unfold exOf
  rw [List.filter_append, List.map_append]
  congr 1
  rw [List.filter_cons, List.filter_nil]
  split <;> rfl
theorem exOf_len (rc : List Rch) (p : List Int) (m : Int) : (exOf rc p m).length ≤ p.length := by
  unfold exOf
  rw [List.length_map]
  exact List.length_filter_le _ _
/-- The exposed cells, without the first release of each. -/
def findD (l : List Int) (rs : List Rel) (prot : List Int) (m : Int) : List Exp × Int :=
  if chkD l rs prot m ≠ 0 then ([], chkD l rs prot m) else if (rchD l rs).2 ≠ 0 then ([], (rchD l rs).2) else (exOf (rchD l rs).1 prot m, 0)
set_option maxRecDepth 10000 in
set_option maxHeartbeats 8000000 in
theorem find_spec (A As Ap : Option Addr) (c cs cp : Nat) (l : List Int) (rs : List Rel) (prot : List Int) (m : Int) (I : PH) (hl : Ints I A c l) (hs : Sizes l) (hr : Rels I As cs rs) (hw : ∀ r ∈ rs, Viewed l r.v) (hp : Ints I Ap cp prot) (hp9 : prot.length ≤ 1000000) :
    FnSpec Tryz.prog 64 [.agg #[.slice A l.length c], .slice As rs.length cs, .slice Ap prot.length cp, .int .i64 m] I []
      (fun u R' => ∃ (A' : Option Addr) (c' : Nat), u = .tuple #[.slice A' (findD l rs prot m).1.length c', .int .i64 (findD l rs prot m).2] ∧ R' = [expR A' c' (findD l rs prot m).1]) := by
  have hK := check_specD A As Ap c cs cp l rs prot m I hl hs hr hw hp
  have hR := reaches_spec A As c cs l rs I hl hs hr hw
  have hz := size_ok hs
  unfold findD
  refine FnSpec.enterP Tryz.func64 rfl Tryz.ntmps64 rfl fun w F => ?_
  by_cases h0 : chkD l rs prot m = 0
  case neg =>
    rw [if_pos h0]
    generalize chkD l rs prot m = er at h0 hK
    repeat' first
      | ((with_reducible refine Nx.is_wp ?_); first | refine Nx.wo ?_ | refine Nx.zp (fun hc => ?_) (fun hc => ?_))
      | (refine Nx.zo ?_; first | refine Nx.opr rfl rfl ?_ | refine Nx.callv rfl rfl rfl (by kernel_rfl) rfl hK ?_ | refine Nx.so ?_ | refine Nx.sb (fun bx => ?_) | refine Nx.sa (fun A2 c2 => ?_))
      | ((with_reducible refine Nx.is_at ?_); first | refine Nx.a ?_ | refine Nx.zd ?_ | refine Nx.zs (fun hc => ?_) (fun hc => ?_))
      | ((with_reducible refine Nx.is_mix ?_); first | refine Nx.m ?_ | refine Nx.zm ?_ | refine Nx.zt (fun hc => ?_) (fun hc => ?_))
      | refine Nx.zx ?_ | fail
    exact Nx.ret_fn rfl [_] ⟨none, 0, rfl, rfl⟩ ((Ent.vec_nil 99 5 _).trans (by (exact Ent.auto)))
  rw [if_neg (by omega)]
  have hck := chkD_ok h0
  rw [h0] at hK
  have hok := fun h => rchD_ok (l := l) (rs := rs) h
  generalize rchD l rs = rq at hR hok
  obtain ⟨rc, er⟩ := rq
  dsimp only at hR hok ⊢
  by_cases h1 : er = 0
  case neg =>
    rw [if_pos h1]
    repeat' first
      | ((with_reducible refine Nx.is_wp ?_); first | refine Nx.wo ?_ | refine Nx.zp (fun hc => ?_) (fun hc => ?_))
      | (refine Nx.zo ?_; first | refine Nx.opr rfl rfl ?_ | refine Nx.callv rfl rfl rfl (by kernel_rfl) rfl hK ?_ | (refine Nx.call (Rpre := []) rfl rfl rfl (by kernel_rfl) rfl hR (Ent.refl _) ?_; rintro _ _ ⟨Am, cm, rfl, rfl⟩) | refine Nx.so ?_ | refine Nx.sb (fun bx => ?_) | refine Nx.sa (fun A2 c2 => ?_))
      | ((with_reducible refine Nx.is_at ?_); first | refine Nx.a ?_ | refine Nx.zd ?_ | refine Nx.zs (fun hc => ?_) (fun hc => ?_))
      | ((with_reducible refine Nx.is_mix ?_); first | refine Nx.m ?_ | refine Nx.zm ?_ | refine Nx.zt (fun hc => ?_) (fun hc => ?_))
      | refine Nx.zx ?_ | fail
    exact Nx.ret_fn rfl [_] ⟨none, 0, rfl, rfl⟩ ((Ent.vec_nil 99 5 _).trans (by (exact Ent.auto)))
  subst h1
  obtain ⟨hrl, hrk⟩ := hok rfl
  rw [if_neg (by decide)]
  repeat' first
    | ((with_reducible refine Nx.is_wp ?_); first | refine Nx.wo ?_ | refine Nx.zp (fun hc => ?_) (fun hc => ?_))
    | (refine Nx.zo ?_; first | refine Nx.opr rfl rfl ?_ | refine Nx.callv rfl rfl rfl (by kernel_rfl) rfl hK ?_ | (refine Nx.call (Rpre := []) rfl rfl rfl (by kernel_rfl) rfl hR (Ent.refl _) ?_; rintro _ _ ⟨Am, cm, rfl, rfl⟩) | refine Nx.so ?_ | refine Nx.sb (fun bx => ?_) | refine Nx.sa (fun A2 c2 => ?_))
    | ((with_reducible refine Nx.is_at ?_); first | refine Nx.a ?_ | refine Nx.zd ?_ | refine Nx.zs (fun hc => ?_) (fun hc => ?_))
    | ((with_reducible refine Nx.is_mix ?_); first | refine Nx.m ?_ | refine Nx.zm ?_ | refine Nx.zt (fun hc => ?_) (fun hc => ?_))
    | refine Nx.zx ?_ | fail
  refine Nx.freezeAt 0 rfl fun I2 m2 hI2 hm2 h2 => ?_
  have hRc : SliceN rcC 3 I2 Am cm rc := Vec.sliceN hm2 h2 fun x _ => rcC_len x
  replace hp := hp.mono hI2
  refine Nx.p_loop (σ := Nat × Option Addr × Nat) (fun s => [(3, .int .i64 m), (11, .slice Am rc.length cm), (13, .slice s.2.1 (exOf rc (prot.take s.1) m).length s.2.2), (33, .slice Ap prot.length cp), (34, .int .i64 prot.length), (35, .int .i64 (s.1 : Int))])
    (fun s => [expR s.2.1 s.2.2 (exOf rc (prot.take s.1) m), F]) (fun s => s.1 ≤ prot.length) (fun s => prot.length - s.1) (0, none, 0) rfl (Nat.zero_le _) ⟨rfl, rfl, rfl, rfl, rfl, rfl, trivial⟩ ((Ent.vec_nil 99 5 _).trans (by (exact Ent.auto))) ?_
  rintro ⟨i, Ao, co⟩ hi
  dsimp only at hi ⊢
  by_cases hiv : i < prot.length
  case neg =>
    obtain rfl : i = prot.length := by omega
    rw [List.take_length]
    repeat' first
      | ((with_reducible refine Nx.is_wp ?_); first | refine Nx.wo ?_ | refine Nx.zp (fun hc => ?_) (fun hc => ?_))
      | (refine Nx.zo ?_; first | refine Nx.opr rfl rfl ?_ | refine Nx.so ?_ | refine Nx.sb (fun bx => ?_) | refine Nx.sa (fun A2 c2 => ?_))
      | ((with_reducible refine Nx.is_at ?_); first | refine Nx.a ?_ | refine Nx.zd ?_ | refine Nx.zs (fun hc => ?_) (fun hc => ?_))
      | ((with_reducible refine Nx.is_mix ?_); first | refine Nx.m ?_ | refine Nx.zm ?_ | refine Nx.zt (fun hc => ?_) (fun hc => ?_))
      | refine Nx.zx ?_ | fail
    exact Nx.imm_le hI2 (Nx.ret_fn rfl [_] ⟨Ao, co, rfl, rfl⟩ (by (exact Ent.auto)))
  have htk := take_snocJ hiv
  have hk2 := hck.2.2.1 _ (getD_memI hiv)
  have hrd : ∀ (W : World) (R : List Res), Rd W I2 R ((ad Ap).add (i * 1)) (.int .i64 (prot.getD i default)) := fun W R => hp.rd hiv
  generalize prot.getD i default = k at htk hk2 hrd
  obtain ⟨y, rfl⟩ : ∃ y : Nat, k = y := ⟨k.toNat, by omega⟩
  have hyl : y < rc.length := by omega
  have hsn := exOf_snoc rc (prot.take i) (y : Int) m
  rw [← htk, Int.toNat_natCast] at hsn
  have hxo := (hrk y (by omega)).2
  have hexl := exOf_len rc (prot.take i) m
  rw [List.length_take] at hexl
  have hrds : ∀ (W : World) (R : List Res), Rds W I2 R ((ad Am).add (y * 3)) (rcC (rc.getD y default)) := fun W R => hRc.rds hyl
  generalize rc.getD y default = x at hsn hxo hrds
  have hN := narrow_spec x m I2 hxo
  obtain ⟨lo, hi', op⟩ := x
  dsimp only at hN
  replace hrds : ∀ (W : World) (R : List Res), Rds W I2 R ((ad Am).add (y * 3)) [.int .i64 lo, .int .i64 hi', .bool op] := hrds
  generalize exOf rc (prot.take i) m = out at hsn hexl
  cases hb : narrowB (lo, hi', op) m with
  | false =>
    rw [hb] at hN hsn
    rw [if_neg (by decide), List.append_nil] at hsn
    repeat' first
      | ((with_reducible refine Nx.is_wp ?_); first | refine Nx.wo ?_ | refine Nx.zp (fun hc => ?_) (fun hc => ?_))
      | (refine Nx.zo ?_; first | refine Nx.opr rfl rfl ?_ | refine Nx.indexAddr_nat (A := Ap) rfl rfl rfl rfl rfl hiv (hp.isSome (by omega)) ?_ | refine Nx.load rfl rfl rfl (hrd _ _) ?_ | refine Nx.indexAddr_nat (A := Am) (i := y) (sz := 3) rfl rfl rfl rfl rfl hyl (hRc.isSome (by omega) (by omega)) ?_ | refine Nx.loads rfl rfl rfl rfl (hrds _ _) rfl ?_ | refine Nx.callv rfl rfl rfl (by kernel_rfl) rfl hN ?_ | refine Nx.so ?_ | refine Nx.sb (fun bx => ?_) | refine Nx.sa (fun A2 c2 => ?_))
      | ((with_reducible refine Nx.is_at ?_); first | refine Nx.a ?_ | refine Nx.zd ?_ | refine Nx.zs (fun hc => ?_) (fun hc => ?_))
      | ((with_reducible refine Nx.is_mix ?_); first | refine Nx.m ?_ | refine Nx.zm ?_ | refine Nx.zt (fun hc => ?_) (fun hc => ?_))
      | refine Nx.zx ?_ | fail
    exact Nx.again (i + 1, Ao, co) hiv (by dsimp only; omega) ⟨rfl, rfl, by dsimp only; rw [hsn]; rfl, rfl, rfl, rfl, trivial⟩ (by dsimp only; rw [hsn]; (exact Ent.auto))
  | true =>
    rw [hb] at hN hsn
    rw [if_pos rfl] at hsn
    repeat' first
      | ((with_reducible refine Nx.is_wp ?_); first | refine Nx.wo ?_ | refine Nx.zp (fun hc => ?_) (fun hc => ?_))
      | (refine Nx.zo ?_; first | refine Nx.opr rfl rfl ?_ | refine Nx.indexAddr_nat (A := Ap) rfl rfl rfl rfl rfl hiv (hp.isSome (by omega)) ?_ | refine Nx.load rfl rfl rfl (hrd _ _) ?_ | refine Nx.indexAddr_nat (A := Am) (i := y) (sz := 3) rfl rfl rfl rfl rfl hyl (hRc.isSome (by omega) (by omega)) ?_ | refine Nx.loads rfl rfl rfl rfl (hrds _ _) rfl ?_ | refine Nx.callv rfl rfl rfl (by kernel_rfl) rfl hN ?_ | refine Nx.so ?_ | refine Nx.sb (fun bx => ?_) | refine Nx.sa (fun A2 c2 => ?_))
      | ((with_reducible refine Nx.is_at ?_); first | refine Nx.a ?_ | refine Nx.zd ?_ | refine Nx.zs (fun hc => ?_) (fun hc => ?_))
      | ((with_reducible refine Nx.is_mix ?_); first | refine Nx.m ?_ | refine Nx.zm ?_ | refine Nx.zt (fun hc => ?_) (fun hc => ?_))
      | refine Nx.zx ?_ | fail
    exact Nx.again (i + 1, A2, c2) hiv (by dsimp only; omega) ⟨rfl, rfl, by dsimp only; rw [hsn, List.length_append]; rfl, rfl, rfl, rfl, trivial⟩ (by dsimp only; unfold expR; rw [hsn, List.length_append, List.flatMap_append, List.flatMap_cons, List.flatMap_nil, List.append_nil]; (exact Ent.auto))
end Go.Proofs.YtcmdemfhbekabaaGreat
/- Contracts of functions of the given program, and lemmas about plain lists and numbers: what the laws of this seat lean on. -/
namespace Go.Proofs.YtcmdemfhbekabaaGreat
open Go.Eng Go.Sol
attribute [local irreducible] opK wpList Code.wp Exit.then Exit.inBlock fnPost bodyPost Nx Calls Oper.wp Rd Rds Wr Ent Stars Blk Again Vec FnSpec wpMix QRun Stop Upto wpAt
/-! The first release of each exposed cell -/
def hitB (l : List Int) (rs : List Rel) (m cell : Int) (i : Nat) : Bool := decide ((rchD l (rs.take (i + 1))).2 = 0) && narrowB ((rchD l (rs.take (i + 1))).1.getD cell.toNat default) m
def firstN (l : List Int) (rs : List Rel) (m cell : Int) : Nat → Int
  | 0 => -1
  | i + 1 => if firstN l rs m cell i < 0 ∧ hitB l rs m cell i = true then (rs.getD i default).num else firstN l rs m cell i
/-- The exposed cells after i releases. -/
def expK (l : List Int) (rs : List Rel) (m : Int) (i : Nat) (e : Exp) : Exp := (e.1, e.2.1, firstN l rs m e.1 i)
def expD (l : List Int) (rs : List Rel) (prot : List Int) (m : Int) : List Exp × Int := ((findD l rs prot m).1.map (expK l rs m rs.length), (findD l rs prot m).2)
def cntN : List Exp → Int
  | [] => 0
  | e :: r => (if e.2.2 < 0 then 1 else 0) + cntN r
theorem cntN_bd : ∀ l, 0 ≤ cntN l ∧ cntN l ≤ l.length
  | [] => by simp [cntN]
  | e :: r => by
    have := cntN_bd r
    rw [cntN, List.length_cons]
    split <;> omega
theorem cntN_set : ∀ {l : List Exp} {k : Nat} (x : Exp), k < l.length → cntN (l.set k x) = cntN l - (if (l.getD k default).2.2 < 0 then 1 else 0) + (if x.2.2 < 0 then 1 else 0)
  | [], k, _, h => absurd h (Nat.not_lt_zero _)
  | e :: r, 0, x, _ => by
    rw [List.set_cons_zero, cntN, cntN]
    show _ = _ - (if e.2.2 < 0 then 1 else 0) + _
    omega
  | e :: r, k + 1, x, h => by
    have := cntN_set (l := r) (k := k) x (by simpa using h)
    rw [List.set_cons_succ, cntN, cntN, this]
    show _ = _ - (if (r.getD k default).2.2 < 0 then 1 else 0) + _
    omega
theorem cntN_zero : ∀ {l : List Exp}, cntN l = 0 → ∀ k, k < l.length → ¬ (l.getD k default).2.2 < 0
  | [], _, k, h => absurd h (Nat.not_lt_zero _)
  | e :: r, h, 0, _ => by
    have := cntN_bd r
    rw [cntN] at h
    intro he
    have he : e.2.2 < 0 := he
    rw [if_pos he] at h
    omega
  | e :: r, h, k + 1, hk => by
    have := cntN_bd r
    rw [cntN] at h
    exact cntN_zero (l := r) (by split at h <;> omega) k (by simpa using hk)
theorem cntN_neg : ∀ {l : List Exp}, (∀ e ∈ l, e.2.2 = -1) → cntN l = l.length
  | [], _ => rfl
  | e :: r, h => by
    rw [cntN, cntN_neg fun x hx => h x (List.mem_cons_of_mem _ hx), h e List.mem_cons_self, List.length_cons, if_pos (by decide)]
    omega
theorem getD_memX {l : List Exp} {k : Nat} (h : k < l.length) : l.getD k default ∈ l := by
  rw [List.getD_eq_getElem?_getD, List.getElem?_eq_getElem h]; exact List.getElem_mem _
theorem map_atX {f : Exp → Exp} {l : List Exp} {k : Nat} (h : k < l.length) : (l.map f).getD k default = f (l.getD k default) := by
  rw [List.getD_eq_getElem?_getD, List.getElem?_map, List.getD_eq_getElem?_getD, List.getElem?_eq_getElem h]; rfl
theorem RelsV.take {l : List Int} {rs : List Rel} (h : RelsV l rs) (k : Nat) : RelsV l (rs.take k) := by
  have hat : ∀ i, i < (rs.take k).length → (rs.take k).getD i default = rs.getD i default ∧ i < rs.length := fun i hi => by
    rw [List.length_take] at hi
    exact ⟨by rw [List.getD_eq_getElem?_getD, List.getD_eq_getElem?_getD, List.getElem?_take_of_lt (by omega)], by omega⟩
  refine ⟨by have := h.len; rw [List.length_take]; omega, fun i hi => ?_, fun i hi => ?_⟩
  · obtain ⟨e, hl⟩ := hat i hi
    rw [e]; exact h.each i hl
  · obtain ⟨e1, _⟩ := hat i (by omega)
    obtain ⟨e2, hl⟩ := hat (i + 1) hi
    rw [e1, e2]; exact h.asc i hl
theorem Rels.take {I : PH} {A : Option Addr} {c : Nat} {l : List Rel} (h : Rels I A c l) (k : Nat) : Rels I A c (l.take k) := by
  refine ⟨⟨fun j u hj => ?_, by have := h.outer.cap; rw [List.length_take]; omega, h.outer.max, fun x hx => h.outer.cells x (List.mem_of_mem_take hx)⟩, fun r hr => h.view r (List.mem_of_mem_take hr), fun r hr => h.val r (List.mem_of_mem_take hr)⟩
  refine h.outer.arr j u ?_
  have e : l.flatMap relC = (l.take k).flatMap relC ++ (l.drop k).flatMap relC := by rw [← List.flatMap_append, List.take_append_drop]
  rw [e, List.getElem?_append_left (List.getElem?_eq_some_iff.1 hj).1]
  exact hj
/-- Those before k are as after a further release. -/
structure Mid (l : List Int) (rs : List Rel) (m : Int) (base : List Exp) (i k : Nat) (os : List Exp) : Prop where
  len : os.length = base.length
  at_ : ∀ j, j < base.length → os.getD j default = expK l rs m (if j < k then i + 1 else i) (base.getD j default)
theorem Mid.start (l : List Int) (rs : List Rel) (m : Int) (base : List Exp) (i : Nat) : Mid l rs m base i 0 (base.map (expK l rs m i)) :=
  ⟨by rw [List.length_map], fun j hj => by rw [map_atX hj, if_neg (Nat.not_lt_zero _)]⟩
theorem ext_X {a b : List Exp} (hl : a.length = b.length) (h : ∀ j, j < a.length → a.getD j default = b.getD j default) : a = b := list_ext_d hl h
theorem Mid.done {l : List Int} {rs : List Rel} {m : Int} {base : List Exp} {i : Nat} {os : List Exp} (h : Mid l rs m base i base.length os) : os = base.map (expK l rs m (i + 1)) :=
  ext_X (by rw [h.len, List.length_map]) fun j hj => by rw [h.len] at hj; rw [h.at_ j hj, map_atX hj, if_pos hj]
theorem Mid.same {l : List Int} {rs : List Rel} {m : Int} {base : List Exp} {i k : Nat} {os : List Exp} (h : Mid l rs m base i k os) (hk : k < base.length) (he : firstN l rs m (base.getD k default).1 (i + 1) = firstN l rs m (base.getD k default).1 i) : Mid l rs m base i (k + 1) os :=
  ⟨h.len, fun j hj => by
    rw [h.at_ j hj]
    rcases Nat.lt_trichotomy j k with h1 | h1 | h1
    · rw [if_pos h1, if_pos (by omega)]
    · subst h1
      rw [if_neg (by omega), if_pos (by omega)]
      unfold expK
      rw [he]
    · rw [if_neg (by omega), if_neg (by omega)]⟩
theorem Mid.put {l : List Int} {rs : List Rel} {m : Int} {base : List Exp} {i k : Nat} {os : List Exp} (h : Mid l rs m base i k os) (hk : k < base.length) : Mid l rs m base i (k + 1) (os.set k (expK l rs m (i + 1) (base.getD k default))) :=
  ⟨by rw [List.length_set]; exact h.len, fun j hj => by
    rw [List.getD_eq_getElem?_getD]
    rcases Nat.lt_trichotomy j k with h1 | h1 | h1
    · rw [List.getElem?_set_ne (by omega), ← List.getD_eq_getElem?_getD, h.at_ j hj, if_pos h1, if_pos (by omega)]
    · subst h1
      rw [List.getElem?_set_self (by rw [h.len]; exact hj), if_pos (by omega)]; rfl
    · rw [List.getElem?_set_ne (by omega), ← List.getD_eq_getElem?_getD, h.at_ j hj, if_neg (by omega), if_neg (by omega)]⟩
theorem firstN_stays {l : List Int} {rs : List Rel} {m cell : Int} {i : Nat} (h : ¬ firstN l rs m cell i < 0) : ∀ n, i ≤ n → firstN l rs m cell n = firstN l rs m cell i
  | 0, hn => by rw [show i = 0 by omega]
  | n + 1, hn => by
    rcases Nat.lt_or_ge n i with h1 | h1
    · rw [show i = n + 1 by omega]
    · have ih := firstN_stays h n h1
      rw [firstN, ih, if_neg fun h2 => h h2.1]
set_option maxRecDepth 10000 in
set_option maxHeartbeats 16000000 in
theorem Exposed_spec (A As Ap : Option Addr) (c cs cp : Nat) (l : List Int) (rs : List Rel) (prot : List Int) (m : Int) (I : PH) (hl : Ints I A c l) (hs : Sizes l) (hr : Rels I As cs rs) (hw : ∀ r ∈ rs, Viewed l r.v) (hp : Ints I Ap cp prot) (hp9 : prot.length ≤ 1000000) :
    FnSpec Tryz.prog 20 [.agg #[.slice A l.length c], .slice As rs.length cs, .slice Ap prot.length cp, .int .i64 m] I []
      (fun u R' => ∃ (A' : Option Addr) (c' : Nat), u = .tuple #[.slice A' (expD l rs prot m).1.length c', .int .i64 (expD l rs prot m).2] ∧ R' = [expR A' c' (expD l rs prot m).1]) := by
  have hF := find_spec A As Ap c cs cp l rs prot m I hl hs hr hw hp hp9
  have hz := size_ok hs
  have hrcap := hr.outer.cap
  have hrl := hr.outer.len
  unfold expD
  have hbase : ∀ e ∈ (findD l rs prot m).1, e.2.2 = -1 ∧ (0 ≤ e.1 ∧ e.1 < prod l) ∧ rchOk e.2.1 := fun e he => by
    unfold findD at he
    split at he
    · cases he
    rename_i h0
    split at he
    · cases he
    rename_i h1
    have h1 : (rchD l rs).2 = 0 := Decidable.byContradiction h1
    have hck := (chkD_ok (Decidable.byContradiction h0)).2.2.1
    unfold exOf at he
    obtain ⟨k, hk, rfl⟩ := List.mem_map.1 he
    have hk := hck k (List.mem_filter.1 hk).1
    exact ⟨rfl, hk, ((rchD_ok h1).2 k.toNat (by omega)).2⟩
  have hfl : (findD l rs prot m).1.length ≤ 1000000 := by
    unfold findD
    split
    · simp
    split
    · simp
    · exact Nat.le_trans (exOf_len _ _ _) hp9
  have herr : (findD l rs prot m).2 ≠ 0 → (findD l rs prot m).1 = [] := fun h => by
    unfold findD at h ⊢
    split at h
    · rename_i h0; rw [if_pos h0]
    rename_i h0
    rw [if_neg h0]
    split at h
    · rename_i h1; rw [if_pos h1]
    · exact absurd rfl h
  have hgood : (findD l rs prot m).2 = 0 → RelsV l rs := fun h => by
    unfold findD at h
    split at h
    · rename_i h0; exact absurd h h0
    rename_i h0
    exact (relsE_iff hs hw).1 (chkD_ok (Decidable.byContradiction h0)).1
  generalize findD l rs prot m = fq at hF hbase hfl herr hgood
  obtain ⟨base, er⟩ := fq
  dsimp only at hF hbase hfl herr hgood ⊢
  refine FnSpec.enterP Tryz.func20 rfl Tryz.ntmps20 rfl fun w F => ?_
  by_cases h0 : er = 0
  case neg =>
    have hb := herr h0
    subst hb
    repeat' first
      | ((with_reducible refine Nx.is_wp ?_); first | refine Nx.wo ?_ | refine Nx.zp (fun hc => ?_) (fun hc => ?_))
      | (refine Nx.zo ?_; first | refine Nx.opr rfl rfl ?_ | (refine Nx.call (Rpre := []) rfl rfl rfl (by kernel_rfl) rfl hF (Ent.refl _) ?_; rintro _ _ ⟨Ao, co, rfl, rfl⟩) | refine Nx.so ?_ | refine Nx.sb (fun bx => ?_) | refine Nx.sa (fun A2 c2 => ?_))
      | ((with_reducible refine Nx.is_at ?_); first | refine Nx.a ?_ | refine Nx.zd ?_ | refine Nx.zs (fun hc => ?_) (fun hc => ?_))
      | ((with_reducible refine Nx.is_mix ?_); first | refine Nx.m ?_ | refine Nx.zm ?_ | refine Nx.zt (fun hc => ?_) (fun hc => ?_))
      | refine Nx.zx ?_ | fail
    exact Nx.ret_fn rfl [_] ⟨none, 0, rfl, rfl⟩ ((Ent.vec_nil 99 5 _).trans (by (exact Ent.auto)))
  subst h0
  have hV := hgood rfl
  have h24 := hV.len
  repeat' first
    | ((with_reducible refine Nx.is_wp ?_); first | refine Nx.wo ?_ | refine Nx.zp (fun hc => ?_) (fun hc => ?_))
    | (refine Nx.zo ?_; first | refine Nx.opr rfl rfl ?_ | (refine Nx.call (Rpre := []) rfl rfl rfl (by kernel_rfl) rfl hF (Ent.refl _) ?_; rintro _ _ ⟨Ao, co, rfl, rfl⟩) | refine Nx.so ?_ | refine Nx.sb (fun bx => ?_) | refine Nx.sa (fun A2 c2 => ?_))
    | ((with_reducible refine Nx.is_at ?_); first | refine Nx.a ?_ | refine Nx.zd ?_ | refine Nx.zs (fun hc => ?_) (fun hc => ?_))
    | ((with_reducible refine Nx.is_mix ?_); first | refine Nx.m ?_ | refine Nx.zm ?_ | refine Nx.zt (fun hc => ?_) (fun hc => ?_))
    | refine Nx.zx ?_ | fail
  revert bx; intro b4
  refine Nx.p_loop (σ := Nat) (fun i => [(1, .slice As rs.length cs), (3, .int .i64 m), (4, .pointer (some ⟨b4, 0, none⟩)), (10, .slice Ao base.length co), (12, .int .i64 (cntN (base.map (expK l rs m i)))), (31, .slice As rs.length cs), (32, .int .i64 rs.length), (33, .int .i64 (i : Int))])
    (fun i => [Blk b4 27 [.slice A l.length c], Vec 99 5 Ao base.length co ((base.map (expK l rs m i)).flatMap exC), F]) (fun i => i ≤ rs.length) (fun i => rs.length - i) 0 rfl (Nat.zero_le _) ⟨rfl, rfl, rfl, rfl, by
      rw [cntN_neg fun e he => by
        obtain ⟨x, _, rfl⟩ := List.mem_map.1 he
        rfl, List.length_map]; rfl, rfl, rfl, rfl, trivial⟩ (by
      have : base.map (expK l rs m 0) = base := by
        conv => rhs; rw [← List.map_id base]
        refine List.map_congr_left fun e he => ?_
        have := (hbase e he).1
        unfold expK firstN
        rw [← this]; rfl
      rw [this]; (exact Ent.auto)) ?_
  intro i hi
  have hi : i ≤ rs.length := hi
  dsimp only
  have hcb := cntN_bd (base.map (expK l rs m i))
  rw [List.length_map] at hcb
  by_cases hil : i < rs.length
  case neg =>
    obtain rfl : i = rs.length := by omega
    repeat' first
      | ((with_reducible refine Nx.is_wp ?_); first | refine Nx.wo ?_ | refine Nx.zp (fun hc => ?_) (fun hc => ?_))
      | (refine Nx.zo ?_; first | refine Nx.opr rfl rfl ?_ | refine Nx.so ?_ | refine Nx.sb (fun bx => ?_) | refine Nx.sa (fun A2 c2 => ?_))
      | ((with_reducible refine Nx.is_at ?_); first | refine Nx.a ?_ | refine Nx.zd ?_ | refine Nx.zs (fun hc => ?_) (fun hc => ?_))
      | ((with_reducible refine Nx.is_mix ?_); first | refine Nx.m ?_ | refine Nx.zm ?_ | refine Nx.zt (fun hc => ?_) (fun hc => ?_))
      | refine Nx.zx ?_ | fail
    exact Nx.ret_fn rfl [_] ⟨Ao, co, by rw [List.length_map], rfl⟩ (by unfold expR; rw [List.length_map]; (exact Ent.auto))
  by_cases hm0 : cntN (base.map (expK l rs m i)) = 0
  · have hst : base.map (expK l rs m i) = base.map (expK l rs m rs.length) := by
      have hz := cntN_zero hm0
      refine ext_X (by rw [List.length_map, List.length_map]) fun j hj => ?_
      have hz := hz j hj
      rw [List.length_map] at hj
      rw [map_atX hj] at hz ⊢
      rw [map_atX hj]
      unfold expK at hz ⊢
      rw [firstN_stays hz rs.length hi]
    rw [hm0]
    repeat' first
      | ((with_reducible refine Nx.is_wp ?_); first | refine Nx.wo ?_ | refine Nx.zp (fun hc => ?_) (fun hc => ?_))
      | (refine Nx.zo ?_; first | refine Nx.opr rfl rfl ?_ | refine Nx.so ?_ | refine Nx.sb (fun bx => ?_) | refine Nx.sa (fun A2 c2 => ?_))
      | ((with_reducible refine Nx.is_at ?_); first | refine Nx.a ?_ | refine Nx.zd ?_ | refine Nx.zs (fun hc => ?_) (fun hc => ?_))
      | ((with_reducible refine Nx.is_mix ?_); first | refine Nx.m ?_ | refine Nx.zm ?_ | refine Nx.zt (fun hc => ?_) (fun hc => ?_))
      | refine Nx.zx ?_ | fail
    exact Nx.ret_fn rfl [_] ⟨Ao, co, by rw [List.length_map], rfl⟩ (by unfold expR; rw [List.length_map, ← hst]; (exact Ent.auto))
  have hti : (rs.take (i + 1)).length = i + 1 := by rw [List.length_take]; omega
  have hR := reaches_spec A As c cs l (rs.take (i + 1)) I hl hs (Rels.take hr (i + 1)) fun r hr' => hw r (List.mem_of_mem_take hr')
  rw [hti] at hR
  have hok := fun h => rchD_ok (l := l) (rs := rs.take (i + 1)) h
  have hhit : ∀ cell, hitB l rs m cell i = (decide ((rchD l (rs.take (i + 1))).2 = 0) && narrowB ((rchD l (rs.take (i + 1))).1.getD cell.toNat default) m) := fun _ => rfl
  generalize rchD l (rs.take (i + 1)) = rq at hR hok hhit
  obtain ⟨rc, e2⟩ := rq
  dsimp only at hR hok hhit
  generalize hcn : cntN (base.map (expK l rs m i)) = cn at hcb hm0
  repeat' first
    | ((with_reducible refine Nx.is_wp ?_); first | refine Nx.wo ?_ | refine Nx.p_draw (id := 9) rfl [0, 1, 2, 3, 4, 5, 6, 7, 8, 9, 10] [5] _ rfl rfl (by kernel_rfl) (by kernel_rfl) rfl (by repeat first | exact PanicOk.fn | refine PanicOk.then_ ?_ | refine PanicOk.inB ?_) (Ent.refl _) ?_ | refine Nx.zp (fun hc => ?_) (fun hc => ?_))
    | (refine Nx.zo ?_; first | refine Nx.opr rfl rfl ?_ | (refine Nx.call (Rpre := []) rfl rfl rfl (by kernel_rfl) rfl hR (Ent.refl _) ?_; rintro _ _ ⟨Am, cm, rfl, rfl⟩) | refine Nx.so ?_ | refine Nx.sb (fun bx => ?_) | refine Nx.sa (fun A2 c2 => ?_))
    | ((with_reducible refine Nx.is_at ?_); first | refine Nx.a ?_ | refine Nx.zd ?_ | refine Nx.zs (fun hc => ?_) (fun hc => ?_))
    | ((with_reducible refine Nx.is_mix ?_); first | refine Nx.m_quiet rfl rfl rfl rfl rfl (by first | exact QRun.opr rfl | exact QRun.slice_hi (h := i + 1) rfl rfl rfl rfl (by omega)) ?_ | refine Nx.m_quiet_do rfl rfl rfl rfl rfl rfl rfl (by first | exact QRun.opr rfl | exact QRun.slice_hi (h := i + 1) rfl rfl rfl rfl (by omega)) ?_ | refine Nx.m ?_ | refine Nx.zm ?_ | refine Nx.zt (fun hc => ?_) (fun hc => ?_))
    | refine Nx.zx ?_ | fail
  refine Nx.freezeAt 0 rfl fun I3 m3 hI3 hm3 h3 => ?_
  have hRc : SliceN rcC 3 I3 Am cm rc := Vec.sliceN hm3 h3 fun x _ => rcC_len x
  have hr3 := hr.mono hI3
  refine Nx.p_loop (σ := Nat × List Exp) (fun s => [(1, .slice As rs.length cs), (3, .int .i64 m), (4, .pointer (some ⟨b4, 0, none⟩)), (10, .slice Ao base.length co), (12, .int .i64 (cntN s.2)), (13, .int .i64 (i : Int)), (14, .slice Am rc.length cm), (15, .int .i64 e2), (31, .slice As rs.length cs), (32, .int .i64 rs.length), (33, .int .i64 (i : Int)), (47, .slice Ao base.length co), (48, .int .i64 base.length), (49, .int .i64 (s.1 : Int))])
    (fun s => [Blk b4 27 [.slice A l.length c], Vec 99 5 Ao base.length co (s.2.flatMap exC), F]) (fun s => s.1 ≤ base.length ∧ Mid l rs m base i s.1 s.2) (fun s => base.length - s.1) (0, base.map (expK l rs m i)) rfl ⟨Nat.zero_le _, Mid.start l rs m base i⟩ ⟨rfl, rfl, rfl, rfl, by dsimp only; rw [hcn]; rfl, rfl, rfl, rfl, rfl, rfl, rfl, rfl, rfl, rfl, trivial⟩ (by (exact Ent.auto)) ?_
  rintro ⟨k, os⟩ ⟨hk, hM⟩
  dsimp only at hk hM ⊢
  by_cases hkl : k < base.length
  case neg =>
    obtain rfl : k = base.length := by omega
    have hd := hM.done
    subst hd
    repeat' first
      | ((with_reducible refine Nx.is_wp ?_); first | refine Nx.wo ?_ | refine Nx.zp (fun hc => ?_) (fun hc => ?_))
      | (refine Nx.zo ?_; first | refine Nx.opr rfl rfl ?_ | refine Nx.so ?_ | refine Nx.sb (fun bx => ?_) | refine Nx.sa (fun A2 c2 => ?_))
      | ((with_reducible refine Nx.is_at ?_); first | refine Nx.a ?_ | refine Nx.zd ?_ | refine Nx.zs (fun hc => ?_) (fun hc => ?_))
      | ((with_reducible refine Nx.is_mix ?_); first | refine Nx.m ?_ | refine Nx.zm ?_ | refine Nx.zt (fun hc => ?_) (fun hc => ?_))
      | refine Nx.zx ?_ | fail
    exact Nx.imm_le hI3 (Nx.again (i + 1) hil (by omega) ⟨rfl, rfl, rfl, rfl, rfl, rfl, rfl, rfl, trivial⟩ (by (exact Ent.auto)))
  have hosl := hM.len
  have hek := hM.at_ k hkl
  rw [if_neg (Nat.lt_irrefl k)] at hek
  obtain ⟨_, hcell, _⟩ := hbase _ (getD_memX hkl)
  have hMs := hM.same hkl
  have hMp := hM.put hkl
  have hst : firstN l rs m (base.getD k default).1 (i + 1) = if firstN l rs m (base.getD k default).1 i < 0 ∧ hitB l rs m (base.getD k default).1 i = true then (rs.getD i default).num else firstN l rs m (base.getD k default).1 i := rfl
  rw [hhit] at hst
  have hcs := fun x => cntN_set (l := os) (k := k) x (by omega)
  have hcb2 := cntN_bd os
  have hnum : ∀ (W : World) (R : List Res), Rd W I3 R (((ad As).add (i * 3)).add 0) (.int .i64 (rs.getD i default).num) := fun W R => SliceN.fld hr3.outer hil 0 rfl
  have hn0 := (hV.each i hil).2.1
  generalize (rs.getD i default).num = nu at hst hnum hn0
  have hx5 : exC (os.getD k default) = [.int .i64 (base.getD k default).1, .int .i64 (base.getD k default).2.1.1, .int .i64 (base.getD k default).2.1.2.1, .bool (base.getD k default).2.1.2.2, .int .i64 (firstN l rs m (base.getD k default).1 i)] := by rw [hek]; rfl
  have hfs : (os.getD k default).2.2 = firstN l rs m (base.getD k default).1 i := by rw [hek]; rfl
  have hput : exC (expK l rs m (i + 1) (base.getD k default)) = [.int .i64 (base.getD k default).1, .int .i64 (base.getD k default).2.1.1, .int .i64 (base.getD k default).2.1.2.1, .bool (base.getD k default).2.1.2.2, .int .i64 (firstN l rs m (base.getD k default).1 (i + 1))] := rfl
  have hp22 : (expK l rs m (i + 1) (base.getD k default)).2.2 = firstN l rs m (base.getD k default).1 (i + 1) := rfl
  generalize expK l rs m (i + 1) (base.getD k default) = xp at hMp hput hp22
  generalize base.getD k default = x0 at hcell hMs hst hx5 hfs hput hp22
  obtain ⟨cell, ⟨lo, hi', op⟩, f0⟩ := x0
  dsimp only at hcell hMs hst hx5 hfs hput hp22
  obtain ⟨y, rfl⟩ : ∃ y : Nat, cell = y := ⟨cell.toNat, by omega⟩
  rw [Int.toNat_natCast] at hst
  generalize firstN l rs m (y : Int) i = fi at hMs hst hx5 hfs
  generalize firstN l rs m (y : Int) (i + 1) = fj at hMs hst hput hp22
  refine Nx.ent (R' := [Vec 99 5 Ao base.length co (os.flatMap exC), Blk b4 27 [.slice A l.length c], F]) (by (exact Ent.auto)) ?_
  refine Nx.vec_fact fun _ _ _ hAo => ?_
  by_cases he2 : e2 = 0
  case neg =>
    rw [decide_eq_false he2, Bool.false_and, if_neg (by rintro ⟨_, h⟩; cases h)] at hst
    repeat' first
      | ((with_reducible refine Nx.is_wp ?_); first | refine Nx.wo ?_ | refine Nx.zp (fun hc => ?_) (fun hc => ?_))
      | (refine Nx.zo ?_; first | refine Nx.opr rfl rfl ?_ | refine Nx.indexAddr_nat (A := Ao) (i := k) (sz := 5) rfl rfl rfl rfl rfl hkl (hAo (by omega)) ?_ | refine Nx.loads (vs := [.int .i64 (y : Int), .int .i64 lo, .int .i64 hi', .bool op, .int .i64 fi]) rfl rfl rfl rfl (by rw [← hx5]; first | exact Rds.vecN 0 exC_len rfl (by omega) | exact Rds.vecN 1 exC_len rfl (by omega)) rfl ?_ | refine Nx.so ?_ | refine Nx.sb (fun bx => ?_) | refine Nx.sa (fun A2 c2 => ?_))
      | ((with_reducible refine Nx.is_at ?_); first | refine Nx.a ?_ | refine Nx.zd ?_ | refine Nx.zs (fun hc => ?_) (fun hc => ?_))
      | ((with_reducible refine Nx.is_mix ?_); first | refine Nx.m ?_ | refine Nx.zm ?_ | refine Nx.zt (fun hc => ?_) (fun hc => ?_))
      | refine Nx.zx ?_ | fail
    exact Nx.again (k + 1, os) ⟨hkl, hMs hst⟩ (by dsimp only; omega) ⟨rfl, rfl, rfl, rfl, rfl, rfl, rfl, rfl, rfl, rfl, rfl, rfl, rfl, rfl, trivial⟩ (by (exact Ent.auto))
  subst he2
  rw [decide_eq_true rfl, Bool.true_and] at hst
  obtain ⟨hrcl, hrck⟩ := hok rfl
  by_cases hfi : fi < 0
  case neg =>
    rw [if_neg (by rintro ⟨h, _⟩; exact hfi h)] at hst
    repeat' first
      | ((with_reducible refine Nx.is_wp ?_); first | refine Nx.wo ?_ | refine Nx.zp (fun hc => ?_) (fun hc => ?_))
      | (refine Nx.zo ?_; first | refine Nx.opr rfl rfl ?_ | refine Nx.indexAddr_nat (A := Ao) (i := k) (sz := 5) rfl rfl rfl rfl rfl hkl (hAo (by omega)) ?_ | refine Nx.loads (vs := [.int .i64 (y : Int), .int .i64 lo, .int .i64 hi', .bool op, .int .i64 fi]) rfl rfl rfl rfl (by rw [← hx5]; first | exact Rds.vecN 0 exC_len rfl (by omega) | exact Rds.vecN 1 exC_len rfl (by omega)) rfl ?_ | refine Nx.so ?_ | refine Nx.sb (fun bx => ?_) | refine Nx.sa (fun A2 c2 => ?_))
      | ((with_reducible refine Nx.is_at ?_); first | refine Nx.a ?_ | refine Nx.zd ?_ | refine Nx.zs (fun hc => ?_) (fun hc => ?_))
      | ((with_reducible refine Nx.is_mix ?_); first | refine Nx.m ?_ | refine Nx.zm ?_ | refine Nx.zt (fun hc => ?_) (fun hc => ?_))
      | refine Nx.zx ?_ | fail
    exact Nx.again (k + 1, os) ⟨hkl, hMs hst⟩ (by dsimp only; omega) ⟨rfl, rfl, rfl, rfl, rfl, rfl, rfl, rfl, rfl, rfl, rfl, rfl, rfl, rfl, trivial⟩ (by (exact Ent.auto))
  have hyl : y < rc.length := by omega
  have hxo := (hrck y (by omega)).2
  have hrds : ∀ (W : World) (R : List Res), Rds W I3 R ((ad Am).add (y * 3)) (rcC (rc.getD y default)) := fun W R => hRc.rds hyl
  generalize rc.getD y default = x at hst hxo hrds
  have hN := narrow_spec x m I3 hxo
  obtain ⟨lo2, hi2, op2⟩ := x
  dsimp only at hN
  replace hrds : ∀ (W : World) (R : List Res), Rds W I3 R ((ad Am).add (y * 3)) [.int .i64 lo2, .int .i64 hi2, .bool op2] := hrds
  cases hnb : narrowB (lo2, hi2, op2) m with
  | false =>
    rw [hnb] at hN hst
    rw [if_neg (by rintro ⟨_, h⟩; cases h)] at hst
    repeat' first
      | ((with_reducible refine Nx.is_wp ?_); first | refine Nx.wo ?_ | refine Nx.zp (fun hc => ?_) (fun hc => ?_))
      | (refine Nx.zo ?_; first | refine Nx.opr rfl rfl ?_ | refine Nx.indexAddr_nat (A := Ao) (i := k) (sz := 5) rfl rfl rfl rfl rfl hkl (hAo (by omega)) ?_ | refine Nx.loads (vs := [.int .i64 (y : Int), .int .i64 lo, .int .i64 hi', .bool op, .int .i64 fi]) rfl rfl rfl rfl (by rw [← hx5]; first | exact Rds.vecN 0 exC_len rfl (by omega) | exact Rds.vecN 1 exC_len rfl (by omega)) rfl ?_ | refine Nx.indexAddr_nat (A := Am) (i := y) (sz := 3) rfl rfl rfl rfl rfl hyl (hRc.isSome (by omega) (by omega)) ?_ | refine Nx.loads rfl rfl rfl rfl (hrds _ _) rfl ?_ | refine Nx.callv rfl rfl rfl (by kernel_rfl) rfl hN ?_ | refine Nx.so ?_ | refine Nx.sb (fun bx => ?_) | refine Nx.sa (fun A2 c2 => ?_))
      | ((with_reducible refine Nx.is_at ?_); first | refine Nx.a ?_ | refine Nx.zd ?_ | refine Nx.zs (fun hc => ?_) (fun hc => ?_))
      | ((with_reducible refine Nx.is_mix ?_); first | refine Nx.m ?_ | refine Nx.zm ?_ | refine Nx.zt (fun hc => ?_) (fun hc => ?_))
      | refine Nx.zx ?_ | fail
    exact Nx.again (k + 1, os) ⟨hkl, hMs hst⟩ (by dsimp only; omega) ⟨rfl, rfl, rfl, rfl, rfl, rfl, rfl, rfl, rfl, rfl, rfl, rfl, rfl, rfl, trivial⟩ (by (exact Ent.auto))
  | true =>
    rw [hnb] at hN hst
    rw [if_pos ⟨hfi, rfl⟩] at hst
    have hc2 := hcs xp
    rw [hfs, if_pos hfi, hp22, hst, if_neg (by omega)] at hc2
    have hfl2 : (os.flatMap exC).set (k * 5 + 4) (.int .i64 nu) = (os.set k xp).flatMap exC := flat_set exC_len (by omega) (by decide) (by rw [hput, hx5, hst]; rfl)
    have hos1 : cntN (os.set k xp) = cntN os - 1 := by omega
    have hcn1 : 1 ≤ cntN os := by have := (cntN_bd (os.set k xp)).1; omega
    repeat' first
      | ((with_reducible refine Nx.is_wp ?_); first | refine Nx.wo ?_ | refine Nx.zp (fun hc => ?_) (fun hc => ?_))
      | (refine Nx.zo ?_; first | (refine Nx.quietly rfl rfl (QRun.fld (A := (ad As).add (i * 3)) rfl rfl) ?_) | (refine Nx.quietly rfl rfl (QRun.fld (A := (ad Ao).add (k * 5)) rfl rfl) ?_) | refine Nx.opr rfl rfl ?_ | refine Nx.indexAddr_nat (A := Ao) (i := k) (sz := 5) rfl rfl rfl rfl rfl hkl (hAo (by omega)) ?_ | refine Nx.loads (vs := [.int .i64 (y : Int), .int .i64 lo, .int .i64 hi', .bool op, .int .i64 fi]) rfl rfl rfl rfl (by rw [← hx5]; first | exact Rds.vecN 0 exC_len rfl (by omega) | exact Rds.vecN 1 exC_len rfl (by omega)) rfl ?_ | refine Nx.indexAddr_nat (A := Am) (i := y) (sz := 3) rfl rfl rfl rfl rfl hyl (hRc.isSome (by omega) (by omega)) ?_ | refine Nx.loads rfl rfl rfl rfl (hrds _ _) rfl ?_ | refine Nx.callv rfl rfl rfl (by kernel_rfl) rfl hN ?_ | refine Nx.indexAddr_nat (A := As) (i := i) (sz := 3) rfl rfl rfl rfl rfl hil (hr3.outer.isSome (by omega) (by omega)) ?_ | refine Nx.load rfl rfl rfl (hnum _ _) ?_ | (refine Nx.store_fld 1 (A := Ao) (i := k) (j := 4) rfl rfl rfl rfl rfl rfl (by omega) ?_; rw [hfl2]) | (refine Nx.store_fld 0 (A := Ao) (i := k) (j := 4) rfl rfl rfl rfl rfl rfl (by omega) ?_; rw [hfl2]) | refine Nx.so ?_ | refine Nx.sb (fun bx => ?_) | refine Nx.sa (fun A2 c2 => ?_))
      | ((with_reducible refine Nx.is_at ?_); first | refine Nx.a ?_ | refine Nx.zd ?_ | refine Nx.zs (fun hc => ?_) (fun hc => ?_))
      | ((with_reducible refine Nx.is_mix ?_); first | refine Nx.m ?_ | refine Nx.zm ?_ | refine Nx.zt (fun hc => ?_) (fun hc => ?_))
      | refine Nx.zx ?_ | fail
    exact Nx.again (k + 1, os.set k xp) ⟨hkl, hMp⟩ (by dsimp only; omega) ⟨rfl, rfl, rfl, rfl, by dsimp only; rw [hos1]; rfl, rfl, rfl, rfl, rfl, rfl, rfl, rfl, rfl, rfl, trivial⟩ (by (exact Ent.auto))
end Go.Proofs.YtcmdemfhbekabaaGreat
/- Contracts of functions of the given program, and lemmas about plain lists and numbers: what the laws of this seat lean on. -/
namespace Go.Proofs.YtcmdemfhbekabaaGreat
open Go.Eng Go.Sol
attribute [local irreducible] opK wpList Code.wp Exit.then Exit.inBlock fnPost bodyPost Nx Calls Oper.wp Rd Rds Wr Ent Stars Blk Again Vec FnSpec wpMix QRun Stop Upto wpAt
/-! Lists of exposed cells compared -/
theorem eqFields_rcD (d : Nat) (x y : Rch) (w : World) (fs : List Field) (hf : fs.map (fun f => (f.name, f.type, f.offset)) = [("Low", 3, 0), ("High", 3, 1), ("Open", 4, 2)]) :
    (Op.eqFields (d + 1) (rcC x).toArray (rcC y).toArray fs).run Tryz.prog w = .ok (decide (x = y)) w := by
  obtain ⟨f, g, k, rfl⟩ : ∃ f g k, fs = [f, g, k] := by
    rcases fs with _ | ⟨f, _ | ⟨g, _ | ⟨k, _ | ⟨m, r⟩⟩⟩⟩
    · simp at hf
    · simp at hf
    · simp at hf
    · exact ⟨f, g, k, rfl⟩
    · simp at hf
  simp only [List.map_cons, List.map_nil, List.cons.injEq, Prod.mk.injEq, and_true] at hf
  obtain ⟨⟨h1, h2, h3⟩, ⟨h4, h5, h6⟩, h7, h8, h9⟩ := hf
  have hd : decide (x = y) = (x.1 == y.1 && (x.2.1 == y.2.1 && x.2.2 == y.2.2)) := by
    obtain ⟨a, b, c⟩ := x
    obtain ⟨a', b', c'⟩ := y
    rw [Bool.eq_iff_iff]
    simp
  rw [hd]
  simp only [Op.eqFields, h1, h2, h3, h4, h5, h6, h7, h8, h9]
  rw [if_pos (by decide), if_pos (by decide), if_pos (by decide), Sem.run_bind, part_rc0, Result.andThen_ok, Sem.run_bind, part_rc0, Result.andThen_ok, Sem.run_bind, run_equalIn_int _ d _ .i64 .i64 _ _ Tryz.underlying3, Result.andThen_ok]
  cases (x.1 == y.1)
  · rfl
  · rw [if_neg (by decide), Sem.run_bind, part_rc1, Result.andThen_ok, Sem.run_bind, part_rc1, Result.andThen_ok, Sem.run_bind, run_equalIn_int _ d _ .i64 .i64 _ _ Tryz.underlying3, Result.andThen_ok]
    cases (x.2.1 == y.2.1)
    · rfl
    · rw [if_neg (by decide), Sem.run_bind, part_rc2, Result.andThen_ok, Sem.run_bind, part_rc2, Result.andThen_ok, Sem.run_bind, run_equalIn_bool' _ d _ _ _ Tryz.underlying4, Result.andThen_ok]
      cases (x.2.2 == y.2.2) <;> rfl
theorem part_ex0 (x : Exp) (w : World) : (part 3 (exC x).toArray 0).run Tryz.prog w = .ok (.int .i64 x.1) w := run_of_pureRun (by kernel_rfl) w
theorem part_ex1 (x : Exp) (w : World) : (part 42 (exC x).toArray 1).run Tryz.prog w = .ok (.agg (rcC x.2.1).toArray) w := run_of_pureRun (by kernel_rfl) w
theorem part_ex4 (x : Exp) (w : World) : (part 3 (exC x).toArray 4).run Tryz.prog w = .ok (.int .i64 x.2.2) w := run_of_pureRun (by kernel_rfl) w
theorem eqFields_ex (x y : Exp) (w : World) (fs : List Field) (hf : fs.map (fun f => (f.name, f.type, f.offset)) = [("Cell", 3, 0), ("Reach", 42, 1), ("First", 3, 4)]) :
    (Op.eqFields 9999 (exC x).toArray (exC y).toArray fs).run Tryz.prog w = .ok (decide (x = y)) w := by
  obtain ⟨f, g, k, rfl⟩ : ∃ f g k, fs = [f, g, k] := by
    rcases fs with _ | ⟨f, _ | ⟨g, _ | ⟨k, _ | ⟨m, r⟩⟩⟩⟩
    · simp at hf
    · simp at hf
    · simp at hf
    · exact ⟨f, g, k, rfl⟩
    · simp at hf
  simp only [List.map_cons, List.map_nil, List.cons.injEq, Prod.mk.injEq, and_true] at hf
  obtain ⟨⟨h1, h2, h3⟩, ⟨h4, h5, h6⟩, h7, h8, h9⟩ := hf
  have hd : decide (x = y) = (x.1 == y.1 && (decide (x.2.1 = y.2.1) && x.2.2 == y.2.2)) := by
    obtain ⟨a, b, c⟩ := x
    obtain ⟨a', b', c'⟩ := y
    rw [Bool.eq_iff_iff]
    simp
  rw [hd]
  simp only [Op.eqFields, h1, h2, h3, h4, h5, h6, h7, h8, h9]
  rw [if_pos (by decide), if_pos (by decide), if_pos (by decide), Sem.run_bind, part_ex0, Result.andThen_ok, Sem.run_bind, part_ex0, Result.andThen_ok, Sem.run_bind, run_equalIn_int _ 9998 _ .i64 .i64 _ _ Tryz.underlying3, Result.andThen_ok]
  cases (x.1 == y.1)
  · rfl
  · rw [if_neg (by decide), Sem.run_bind, part_ex1, Result.andThen_ok, Sem.run_bind, part_ex1, Result.andThen_ok, Sem.run_bind, run_equalIn_struct _ 9998 42 _ _ (by kernel_rfl) Tryz.stoodInHeld42, eqFields_rcD 9997 _ _ w _ (by kernel_rfl), Result.andThen_ok]
    cases (decide (x.2.1 = y.2.1))
    · rfl
    · rw [if_neg (by decide), Sem.run_bind, part_ex4, Result.andThen_ok, Sem.run_bind, part_ex4, Result.andThen_ok, Sem.run_bind, run_equalIn_int _ 9998 _ .i64 .i64 _ _ Tryz.underlying3, Result.andThen_ok]
      cases (x.2.2 == y.2.2) <;> rfl
theorem neq_ex (p q : Exp) (x y : Operand) (w : World) : (do eqGuard .neq 99 x y (.agg (exC p).toArray) (.agg (exC q).toArray); binOp .neq 99 (.agg (exC p).toArray) (.agg (exC q).toArray)).run Tryz.prog w = .ok (.bool (decide (p ≠ q))) w := by
  rw [Sem.run_bind, run_eqGuard_agg _ _ _ _ _ _ _ Tryz.eqGuardType99, Result.andThen_ok, run_neq_struct, run_equalIn_struct _ 9999 99 _ _ (by kernel_rfl) Tryz.stoodInHeld99,
    eqFields_ex p q w _ (by kernel_rfl)]
  rw [decide_not]; rfl
abbrev Exps := SliceN exC 5
set_option maxRecDepth 10000 in
set_option maxHeartbeats 4000000 in
theorem SameX_spec (A B : Option Addr) (cp cq : Nat) (l r : List Exp) (I : PH) (hl : Exps I A cp l) (hr : Exps I B cq r) :
    FnSpec Tryz.prog 30 [.slice A l.length cp, .slice B r.length cq] I [] (fun v R' => v = .bool (decide (l = r)) ∧ R' = []) := by
  refine FnSpec.enterP Tryz.func30 rfl Tryz.ntmps30 rfl fun w F => ?_
  have h1 := hl.len
  repeat' first
    | ((with_reducible refine Nx.is_wp ?_); first | refine Nx.wo ?_ | refine Nx.zp (fun hc => ?_) (fun hc => ?_))
    | (refine Nx.zo ?_; first | refine Nx.opr rfl rfl ?_ | refine Nx.so ?_ | refine Nx.sb (fun bx => ?_) | refine Nx.sa (fun A2 c2 => ?_))
    | ((with_reducible refine Nx.is_at ?_); first | refine Nx.a ?_ | refine Nx.zd ?_ | refine Nx.zs (fun hc => ?_) (fun hc => ?_))
    | ((with_reducible refine Nx.is_mix ?_); first | refine Nx.m ?_ | refine Nx.zm ?_ | refine Nx.zt (fun hc => ?_) (fun hc => ?_))
    | refine Nx.zx ?_ | fail
  · exact Nx.ret_fn rfl [] ⟨by rw [decide_eq_false]; intro h; rw [h] at hc; exact hc rfl, rfl⟩ (Ent.refl _)
  have hlen : l.length = r.length := by omega
  refine Nx.p_loop (σ := Nat) (fun k => [(0, .slice A l.length cp), (1, .slice B r.length cq), (12, .int .i64 l.length), (13, .int .i64 (k : Int))])
    (fun _ => [F]) (fun k => k ≤ l.length ∧ l.take k = r.take k) (fun k => l.length - k) 0 rfl ⟨Nat.zero_le _, by simp⟩ ⟨rfl, rfl, rfl, rfl, trivial⟩ (Ent.refl _) ?_
  rintro k ⟨hk, hsame⟩
  repeat' first
    | ((with_reducible refine Nx.is_wp ?_); first | refine Nx.wo ?_ | refine Nx.p_draw (id := 6) rfl [0, 1, 2, 3, 4, 5, 6, 7, 8] [] _ rfl rfl (by kernel_rfl) (by kernel_rfl) rfl (by repeat first | exact PanicOk.fn | refine PanicOk.then_ ?_ | refine PanicOk.inB ?_) (Ent.refl _) ?_ | refine Nx.zp (fun hc => ?_) (fun hc => ?_))
    | (refine Nx.zo ?_; first | refine Nx.opr rfl rfl ?_ | refine Nx.so ?_ | refine Nx.sb (fun bx => ?_) | refine Nx.sa (fun A2 c2 => ?_))
    | ((with_reducible refine Nx.is_at ?_); first | refine Nx.a ?_ | refine Nx.zd ?_ | refine Nx.zs (fun hc => ?_) (fun hc => ?_))
    | ((with_reducible refine Nx.is_mix ?_); first | refine Nx.m_quiet rfl rfl rfl rfl rfl (by first | exact QRun.opr rfl | exact QRun.idx rfl rfl rfl rfl (by omega) (hl.isSome (by omega) (by decide)) | exact QRun.idx rfl rfl rfl rfl (by omega) (hr.isSome (by omega) (by decide)) | exact QRun.loads rfl rfl rfl (hl.rds (by omega)) rfl | exact QRun.loads rfl rfl rfl (hr.rds (by omega)) rfl | exact QRun.binr rfl rfl (neq_ex _ _ _ _)) ?_ | refine Nx.m_quiet_do rfl rfl rfl rfl rfl rfl rfl (by first | exact QRun.opr rfl | exact QRun.idx rfl rfl rfl rfl (by omega) (hl.isSome (by omega) (by decide)) | exact QRun.idx rfl rfl rfl rfl (by omega) (hr.isSome (by omega) (by decide)) | exact QRun.loads rfl rfl rfl (hl.rds (by omega)) rfl | exact QRun.loads rfl rfl rfl (hr.rds (by omega)) rfl | exact QRun.binr rfl rfl (neq_ex _ _ _ _)) ?_ | refine Nx.m ?_ | refine Nx.zm ?_ | refine Nx.zt (fun hc => ?_) (fun hc => ?_))
    | refine Nx.zx ?_ | fail
  · refine Nx.ret_fn rfl [] ⟨by rw [decide_eq_false]; intro h; exact hc (by rw [h]), rfl⟩ (Ent.refl _)
  · refine Nx.again (k + 1) ⟨by omega, ?_⟩ (by omega) ⟨rfl, rfl, rfl, rfl, trivial⟩ (Ent.refl _)
    have e : l.getD k default = r.getD k default := Decidable.not_not.1 hc
    rw [List.take_succ_eq_append_getElem (by omega), List.take_succ_eq_append_getElem (by omega), hsame]
    rw [List.getD_eq_getElem?_getD, List.getD_eq_getElem?_getD, List.getElem?_eq_getElem (by omega), List.getElem?_eq_getElem (by omega)] at e
    rw [show l[k]'(by omega) = r[k]'(by omega) from e]
  · obtain rfl : k = l.length := by omega
    rw [List.take_length, hlen, List.take_length] at hsame
    exact Nx.ret_fn rfl [] ⟨by rw [decide_eq_true hsame], rfl⟩ (Ent.refl _)
/-! Protected cells -/
set_option maxRecDepth 10000 in
set_option maxHeartbeats 4000000 in
theorem Protected_made (b : Nat) (A : Option Addr) (c : Nat) (L : List Int) (k n : Nat) (I : PH) (hL : CodesOk I A c L) (hk : k ≤ L.length) (hn : n ≤ 1000) :
    FnSpec Tryz.prog 26 [.pointer (some ⟨b, 0, none⟩), .int .i64 (n : Int)] I [CodesR b A c L k]
      (fun u R' => ∃ (B : Option Addr) (c' : Nat) (p : List Int) (k' : Nat), u = .slice B p.length c' ∧ p.length ≤ n ∧ (p.Pairwise (· < ·) ∧ ∀ x ∈ p, 0 ≤ x ∧ x < n) ∧ k' ≤ L.length ∧ R' = [iR B c' p, CodesR b A c L k']) := by
  refine FnSpec.enterP Tryz.func26 rfl Tryz.ntmps26 rfl fun w F => ?_
  repeat' first
    | ((with_reducible refine Nx.is_wp ?_); first | refine Nx.wo ?_ | refine Nx.zp (fun hc => ?_) (fun hc => ?_))
    | (refine Nx.zo ?_; first | refine Nx.opr rfl rfl ?_ | refine Nx.so ?_ | refine Nx.sb (fun bx => ?_) | refine Nx.sa (fun A2 c2 => ?_))
    | ((with_reducible refine Nx.is_at ?_); first | refine Nx.a ?_ | refine Nx.zd ?_ | refine Nx.zs (fun hc => ?_) (fun hc => ?_))
    | ((with_reducible refine Nx.is_mix ?_); first | refine Nx.m ?_ | refine Nx.zm ?_ | refine Nx.zt (fun hc => ?_) (fun hc => ?_))
    | refine Nx.zx ?_ | fail
  refine Nx.p_loop (σ := Nat × Nat × Option Addr × Nat × List Int) (fun s => [(0, .pointer (some ⟨b, 0, none⟩)), (1, .int .i64 (n : Int)), (5, .slice s.2.2.1 s.2.2.2.2.length s.2.2.2.1), (6, .int .i64 (s.1 : Int))])
    (fun s => [iR s.2.2.1 s.2.2.2.1 s.2.2.2.2, CodesR b A c L s.2.1, F]) (fun s => s.1 ≤ n ∧ s.2.1 ≤ L.length ∧ s.2.2.2.2.length ≤ s.1 ∧ s.2.2.2.2.Pairwise (· < ·) ∧ ∀ x ∈ s.2.2.2.2, 0 ≤ x ∧ x < s.1) (fun s => n - s.1) (0, k, none, 0, []) rfl ⟨Nat.zero_le _, hk, Nat.le_refl _, List.Pairwise.nil, fun x hx => nomatch hx⟩ ⟨rfl, rfl, rfl, rfl, trivial⟩ ((Ent.vec_nil 3 1 _).trans (by (exact Ent.auto))) ?_
  rintro ⟨i, kc, B, c', p⟩ ⟨hi, hkc, hpl, hpa, hpb⟩
  dsimp only at hi hkc hpl hpa hpb ⊢
  by_cases hin : i < n
  case neg =>
    repeat' first
      | ((with_reducible refine Nx.is_wp ?_); first | refine Nx.wo ?_ | refine Nx.zp (fun hc => ?_) (fun hc => ?_))
      | (refine Nx.zo ?_; first | refine Nx.opr rfl rfl ?_ | refine Nx.so ?_ | refine Nx.sb (fun bx => ?_) | refine Nx.sa (fun A2 c2 => ?_))
      | ((with_reducible refine Nx.is_at ?_); first | refine Nx.a ?_ | refine Nx.zd ?_ | refine Nx.zs (fun hc => ?_) (fun hc => ?_))
      | ((with_reducible refine Nx.is_mix ?_); first | refine Nx.m ?_ | refine Nx.zm ?_ | refine Nx.zt (fun hc => ?_) (fun hc => ?_))
      | refine Nx.zx ?_ | fail
    exact Nx.ret_fn rfl [_, _] ⟨B, c', p, kc, rfl, by omega, ⟨hpa, fun x hx => by have := hpb x hx; omega⟩, hkc, rfl⟩ (by (exact Ent.auto))
  repeat' first
    | ((with_reducible refine Nx.is_wp ?_); first | refine Nx.wo ?_ | refine Nx.zp (fun hc => ?_) (fun hc => ?_))
    | (refine Nx.zo ?_; first | refine Nx.opr rfl rfl ?_ | (refine Nx.call rfl rfl rfl (by kernel_rfl) rfl (Next_any b A c L kc 3 I hL hkc (by omega)) (by (exact Ent.auto)) ?_; rintro _ _ ⟨r, k3, rfl, hr, hk3, rfl⟩) | refine Nx.so ?_ | refine Nx.sb (fun bx => ?_) | refine Nx.sa (fun A2 c2 => ?_))
    | ((with_reducible refine Nx.is_at ?_); first | refine Nx.a ?_ | refine Nx.zd ?_ | refine Nx.zs (fun hc => ?_) (fun hc => ?_))
    | ((with_reducible refine Nx.is_mix ?_); first | refine Nx.m ?_ | refine Nx.zm ?_ | refine Nx.zt (fun hc => ?_) (fun hc => ?_))
    | refine Nx.zx ?_ | fail
  · refine Nx.again (i + 1, k3, A2, c2, p ++ [(i : Int)]) ⟨hin, hk3, by dsimp only; rw [List.length_append]; show p.length + 1 ≤ _; omega, List.pairwise_append.2 ⟨hpa, List.pairwise_singleton _ _, fun a ha b hb => by rw [List.mem_singleton.1 hb]; exact (hpb a ha).2⟩, fun x hx => by
      dsimp only at hx ⊢
      rcases List.mem_append.1 hx with hx | hx
      · have := hpb x hx; omega
      · rw [List.mem_singleton.1 hx]; omega⟩ (by dsimp only; omega) ⟨rfl, rfl, by dsimp only; rw [List.length_append]; rfl, rfl, trivial⟩ (by dsimp only; unfold iR; rw [List.length_append, List.map_append]; (exact Ent.auto))
  · exact Nx.again (i + 1, k3, B, c', p) ⟨hin, hk3, by dsimp only; omega, hpa, fun x hx => by have := hpb x hx; dsimp only; omega⟩ (by dsimp only; omega) ⟨rfl, rfl, rfl, rfl, trivial⟩ (by (exact Ent.auto))
end Go.Proofs.YtcmdemfhbekabaaGreat
/- Contracts of functions of the given program, and lemmas about plain lists and numbers: what the laws of this seat lean on. -/
namespace Go.Proofs.YtcmdemfhbekabaaGreat
open Go.Eng Go.Sol
attribute [local irreducible] opK wpList Code.wp Exit.then Exit.inBlock fnPost bodyPost Nx Calls Oper.wp Rd Rds Wr Ent Stars Blk Again Vec FnSpec wpMix QRun Stop Upto wpAt
/-! The example of the chapter -/
def exRl (v1 v2 g1 g2 x1 x2 : Nat) : List Rel := [⟨0, some ⟨v1, 0, none⟩, 1, [(some ⟨g1, 0, none⟩, 3, [0, 0, 1])], (some ⟨x1, 0, none⟩, 2, [5, 2])⟩, ⟨1, some ⟨v2, 0, none⟩, 1, [(some ⟨g2, 0, none⟩, 3, [0, 1, 1])], (some ⟨x2, 0, none⟩, 2, [4, 3])⟩]
theorem exXp (v1 v2 g1 g2 x1 x2 : Nat) : expD [3] (exRl v1 v2 g1 g2 x1 x2) [0, 1] 1 = ([(0, (4, 4, false), 1), (1, (1, 1, false), 1)], 0) := by kernel_rfl
abbrev exX : List Exp := [(0, (4, 4, false), 1), (1, (1, 1, false), 1)]
theorem exS3 : Sizes [3] := ⟨by decide, by decide, by decide⟩
theorem exV3 (g : Nat) (xs : List Int) (h : xs = [0, 0, 1] ∨ xs = [0, 1, 1]) : Viewed [3] [(some ⟨g, 0, none⟩, 3, xs)] := ⟨rfl, fun k hk => by
  obtain rfl : k = 0 := by simpa using hk
  rcases h with rfl | rfl
  · exact ⟨rfl, rfl⟩
  · exact ⟨rfl, rfl⟩⟩
set_option maxRecDepth 10000 in
set_option maxHeartbeats 8000000 in
theorem awakeD_spec (I : PH) : FnSpec Tryz.prog 18 [] I [] (fun v R' => v = .bool true ∧ R' = []) := by
  refine FnSpec.enterP Tryz.func18 rfl Tryz.ntmps18 rfl fun w F => ?_
  repeat' first
    | ((with_reducible refine Nx.is_wp ?_); first | refine Nx.p_stopr 3 rfl ?_ | refine Nx.wo ?_ | refine Nx.zp (fun hc => ?_) (fun hc => ?_))
    | (refine Nx.zo ?_; first | refine Nx.opr rfl rfl ?_ | refine Nx.so ?_ | refine Nx.sb (fun bx => ?_) | refine Nx.sa (fun A2 c2 => ?_))
    | ((with_reducible refine Nx.is_at ?_); first | refine Nx.a ?_ | refine Nx.zd ?_ | refine Nx.zs (fun hc => ?_) (fun hc => ?_))
    | ((with_reducible refine Nx.is_mix ?_); first | refine Nx.m ?_ | refine Nx.zm ?_ | refine Nx.zt (fun hc => ?_) (fun hc => ?_))
    | refine Nx.zx ?_ | fail
  refine unstopN ?_
  rename_i bsz b1 g1 v1 x1 g2 v2 x2
  revert bx; intro brl
  refine Nx.ent (R' := [Stars [Blk brl 62 [.int .i64 0, .slice (some ⟨v1, 0, none⟩) 1 1, .slice (some ⟨x1, 0, none⟩) 2 2, .int .i64 1, .slice (some ⟨v2, 0, none⟩) 1 1, .slice (some ⟨x2, 0, none⟩) 2 2], Blk x2 3 [.int .i64 4, .int .i64 3], Blk v2 25 [.slice (some ⟨g2, 0, none⟩) 3 3], Blk g2 3 [.int .i64 0, .int .i64 1, .int .i64 1], Blk x1 3 [.int .i64 5, .int .i64 2], Blk v1 25 [.slice (some ⟨g1, 0, none⟩) 3 3], Blk g1 3 [.int .i64 0, .int .i64 0, .int .i64 1], Blk bsz 3 [.int .i64 3]], Blk b1 27 [.slice (some ⟨bsz, 0, none⟩) 1 1], F])
    (Ent.trans (R' := [Blk brl 62 [.int .i64 0, .slice (some ⟨v1, 0, none⟩) 1 1, .slice (some ⟨x1, 0, none⟩) 2 2, .int .i64 1, .slice (some ⟨v2, 0, none⟩) 1 1, .slice (some ⟨x2, 0, none⟩) 2 2], Blk x2 3 [.int .i64 4, .int .i64 3], Blk v2 25 [.slice (some ⟨g2, 0, none⟩) 3 3], Blk g2 3 [.int .i64 0, .int .i64 1, .int .i64 1], Blk x1 3 [.int .i64 5, .int .i64 2], Blk v1 25 [.slice (some ⟨g1, 0, none⟩) 3 3], Blk g1 3 [.int .i64 0, .int .i64 0, .int .i64 1], Blk bsz 3 [.int .i64 3]] ++ [Blk b1 27 [.slice (some ⟨bsz, 0, none⟩) 1 1], F]) (by (exact Ent.auto)) Ent.stars) ?_
  refine Nx.freezeAt 0 rfl fun I1 m1 hI1 hm1 h1 => ?_
  obtain ⟨k0, l0, c0⟩ := Stars.get 0 h1 rfl
  obtain ⟨k1, l1, c1⟩ := Stars.get 1 h1 rfl
  obtain ⟨k2, l2, c2⟩ := Stars.get 2 h1 rfl
  obtain ⟨k3, l3, c3⟩ := Stars.get 3 h1 rfl
  obtain ⟨k4, l4, c4⟩ := Stars.get 4 h1 rfl
  obtain ⟨k5, l5, c5⟩ := Stars.get 5 h1 rfl
  obtain ⟨k6, l6, c6⟩ := Stars.get 6 h1 rfl
  obtain ⟨k7, l7, c7⟩ := Stars.get 7 h1 rfl
  have hsz : Ints I1 (some ⟨bsz, 0, none⟩) 1 [3] := Blk.sliceOf (t := 3) (l := [3]) (l7.trans hm1) c7 (by decide)
  have hG1 : Ints I1 (some ⟨g1, 0, none⟩) 3 [0, 0, 1] := Blk.sliceOf (t := 3) (l := [0, 0, 1]) (l6.trans hm1) c6 (by decide)
  have hG2 : Ints I1 (some ⟨g2, 0, none⟩) 3 [0, 1, 1] := Blk.sliceOf (t := 3) (l := [0, 1, 1]) (l3.trans hm1) c3 (by decide)
  have hR1 : RowsOf I1 (some ⟨v1, 0, none⟩) 1 [(some ⟨g1, 0, none⟩, 3, [0, 0, 1])] := ⟨Blk.sliceOf (t := 25) (l := [((some ⟨g1, 0, none⟩, 3, [0, 0, 1]) : Row)]) (l5.trans hm1) c5 (by unfold maxLen; simp), fun r hr => by rw [List.mem_singleton.1 hr]; exact hG1⟩
  have hR2 : RowsOf I1 (some ⟨v2, 0, none⟩) 1 [(some ⟨g2, 0, none⟩, 3, [0, 1, 1])] := ⟨Blk.sliceOf (t := 25) (l := [((some ⟨g2, 0, none⟩, 3, [0, 1, 1]) : Row)]) (l2.trans hm1) c2 (by unfold maxLen; simp), fun r hr => by rw [List.mem_singleton.1 hr]; exact hG2⟩
  have hX1 : Ints I1 (some ⟨x1, 0, none⟩) 2 [5, 2] := Blk.sliceOf (t := 3) (l := [5, 2]) (l4.trans hm1) c4 (by decide)
  have hX2 : Ints I1 (some ⟨x2, 0, none⟩) 2 [4, 3] := Blk.sliceOf (t := 3) (l := [4, 3]) (l1.trans hm1) c1 (by decide)
  have hRs : Rels I1 (some ⟨brl, 0, none⟩) 2 (exRl v1 v2 g1 g2 x1 x2) := ⟨Blk.sliceN (t := 62) (l := exRl v1 v2 g1 g2 x1 x2) (l0.trans hm1) c0 (fun _ _ => rfl) (by unfold maxLen exRl; simp), fun r hr => by
      simp only [exRl, List.mem_cons, List.not_mem_nil, or_false] at hr
      rcases hr with rfl | rfl
      · exact hR1
      · exact hR2, fun r hr => by
      simp only [exRl, List.mem_cons, List.not_mem_nil, or_false] at hr
      rcases hr with rfl | rfl
      · exact hX1
      · exact hX2⟩
  have hw : ∀ r ∈ exRl v1 v2 g1 g2 x1 x2, Viewed [3] r.v := fun r hr => by
      simp only [exRl, List.mem_cons, List.not_mem_nil, or_false] at hr
      rcases hr with rfl | rfl
      · exact exV3 g1 _ (.inl rfl)
      · exact exV3 g2 _ (.inr rfl)
  have hE := fun (bp : Nat) (I' : PH) (hle : PH.le I1 I') (hp : Ints I' (some ⟨bp, 0, none⟩) 2 [0, 1]) => Exposed_spec (some ⟨bsz, 0, none⟩) (some ⟨brl, 0, none⟩) (some ⟨bp, 0, none⟩) 1 2 2 [3] (exRl v1 v2 g1 g2 x1 x2) [0, 1] 1 I' (hsz.mono hle) exS3 (hRs.mono hle) hw hp (by decide)
  simp only [exXp] at hE
  change ∀ (bp : Nat) (I' : PH), _ → _ → FnSpec _ _ _ _ _ (fun u R' => ∃ A' c', u = .tuple #[.slice A' exX.length c', .int .i64 0] ∧ R' = [expR A' c' exX]) at hE
  repeat' first
    | ((with_reducible refine Nx.is_wp ?_); first | refine Nx.wo ?_ | refine Nx.zp (fun hc => ?_) (fun hc => ?_))
    | (refine Nx.zo ?_; first | refine Nx.opr rfl rfl ?_ | (refine Nx.call rfl rfl rfl (by kernel_rfl) rfl (FnSpec.keep [Blk _ 3 [.int .i64 0, .int .i64 1]] fun m I' hle hm' hv => hE _ I' hle (by obtain ⟨q1, z1, y1⟩ := Stars.get 0 hv rfl; exact Blk.sliceOf (t := 3) (l := [0, 1]) (z1.trans hm') y1 (by decide))) (by (exact Ent.auto)) ?_; rintro _ _ ⟨_, ⟨Ax, cx, rfl, rfl⟩, rfl⟩) | (refine Nx.call rfl rfl rfl (by kernel_rfl) rfl (FnSpec.keep [expR _ _ exX, Blk _ 99 (exX.flatMap exC)] fun m I' hle hm' hv => SameX_spec _ (some ⟨_, 0, none⟩) _ 2 exX exX I' (by obtain ⟨q1, z1, y1⟩ := Stars.get 0 hv rfl; exact Vec.sliceN (z1.trans hm') y1 fun x _ => exC_len x) (by obtain ⟨q1, z1, y1⟩ := Stars.get 1 hv rfl; exact Blk.sliceN (t := 99) (l := exX) (z1.trans hm') y1 (fun x _ => exC_len x) (by unfold maxLen; decide))) (by (exact Ent.auto)) ?_; rintro _ _ ⟨_, ⟨rfl, rfl⟩, rfl⟩) | refine Nx.so ?_ | refine Nx.sb (fun bx => ?_) | refine Nx.sa (fun A2 c2 => ?_))
    | ((with_reducible refine Nx.is_at ?_); first | refine Nx.a ?_ | refine Nx.zd ?_ | refine Nx.zs (fun hc => ?_) (fun hc => ?_))
    | ((with_reducible refine Nx.is_mix ?_); first | refine Nx.m ?_ | refine Nx.zm ?_ | refine Nx.zt (fun hc => ?_) (fun hc => ?_))
    | refine Nx.zx ?_ | fail
  exact Nx.imm_le hI1 (Nx.ret_fn rfl [] ⟨rfl, rfl⟩ (by (exact Ent.auto)))
end Go.Proofs.YtcmdemfhbekabaaGreat
/- Contracts of functions of the given program, and lemmas about plain lists and numbers: what the laws of this seat lean on. -/
namespace Go.Proofs.YtcmdemfhbekabaaGreat
open Go.Eng Go.Sol
attribute [local irreducible] opK wpList Code.wp Exit.then Exit.inBlock fnPost bodyPost Nx Calls Oper.wp Rd Rds Wr Ent Stars Blk Again Vec FnSpec wpMix QRun Stop Upto wpAt
/-! Fewer equations -/
theorem EqsOk.take {N : Nat} {t : List Int} {most : Int} {qs : List EqR} (h : EqsOk N t most qs) (k : Nat) : EqsOk N t most (qs.take k) :=
  ⟨h.n, h.len, h.tab, by have := h.few; rw [List.length_take]; omega, fun q hq => h.good q (List.mem_of_mem_take hq), fun q hq => h.sum q (List.mem_of_mem_take hq)⟩
theorem Eqs.take {I : PH} {A : Option Addr} {c : Nat} {l : List EqR} (h : Eqs I A c l) (k : Nat) : Eqs I A c (l.take k) := by
  refine ⟨⟨fun j u hj => ?_, by have := h.outer.cap; rw [List.length_take]; omega, h.outer.max, fun x hx => h.outer.cells x (List.mem_of_mem_take hx)⟩, fun q hq => h.inner q (List.mem_of_mem_take hq)⟩
  refine h.outer.arr j u ?_
  have e : l.flatMap eqC = (l.take k).flatMap eqC ++ (l.drop k).flatMap eqC := by rw [← List.flatMap_append, List.take_append_drop]
  rw [e, List.getElem?_append_left (List.getElem?_eq_some_iff.1 hj).1]
  exact hj
end Go.Proofs.YtcmdemfhbekabaaGreat
/- Contracts of functions of the given program, and lemmas about plain lists and numbers: what the laws of this seat lean on. -/
namespace Go.Proofs.YtcmdemfhbekabaaGreat
open Go.Eng Go.Sol
attribute [local irreducible] opK wpList Code.wp Exit.then Exit.inBlock fnPost bodyPost Nx Calls Oper.wp Rd Rds Wr Ent Stars Blk Again Vec FnSpec wpMix QRun Stop Upto wpAt
/-! Plain: a further release -/
theorem views_of {l t : List Int} {rs : List Rel} (h : RelsOk l t rs) : ∀ r ∈ rs, Viewed l r.v := fun r hr => by
  obtain ⟨i, hi, he⟩ := List.mem_iff_getElem.1 hr
  have := (h.each i hi).1.view
  rwa [List.getD_eq_getElem?_getD, List.getElem?_eq_getElem hi, show (some rs[i]).getD default = r from he] at this
end Go.Proofs.YtcmdemfhbekabaaGreat
/- Contracts of functions of the given program, and lemmas about plain lists and numbers: what the laws of this seat lean on. -/
namespace Go.Proofs.YtcmdemfhbekabaaGreat
open Go.Eng Go.Sol
attribute [local irreducible] opK wpList Code.wp Exit.then Exit.inBlock fnPost bodyPost Nx Calls Oper.wp Rd Rds Wr Ent Stars Blk Again Vec FnSpec wpMix QRun Stop Upto wpAt
attribute [local irreducible] wpFork
theorem rel_one (l : List Rel) : ∀ u ∈ l.flatMap relC, u.oneCell' = true := fun u hu => by
  obtain ⟨x, _, hx⟩ := List.mem_flatMap.1 hu
  simp only [relC, List.mem_cons, List.not_mem_nil, or_false] at hx
  rcases hx with rfl | rfl | rfl <;> rfl
end Go.Proofs.YtcmdemfhbekabaaGreat
/-
  The proof engine, part I: the end of an owned list is cleared.
-/
namespace Go.Eng
theorem setsAt_some : ∀ (vs cs : List Value) (i : Nat), i + vs.length ≤ cs.length → ∃ cs', setsAt cs i vs = some cs' ∧ cs'.length = cs.length ∧ cs'.take i = cs.take i
  | [], cs, i, _ => ⟨cs, rfl, rfl, rfl⟩
  | v :: vs, cs, i, h => by
    simp only [List.length_cons] at h
    have hset : ∀ (cs : List Value) (i : Nat), i < cs.length → setAt cs i v = some (cs.set i v) := by
      intro cs
      induction cs with
      | nil => intro i hi; simp at hi
      | cons c r ih =>
        intro i hi
        cases i with
        | zero => rfl
        | succ i =>
          simp only [setAt]
          rw [ih i (by simpa using hi)]
          rfl
    obtain ⟨cs', h1, h2, h3⟩ := setsAt_some vs (cs.set i v) (i + 1) (by rw [List.length_set]; omega)
    refine ⟨cs', ?_, by rw [h2, List.length_set], ?_⟩
    · unfold setsAt
      rw [hset cs i (by omega)]
      exact h1
    · have := congrArg (List.take i) h3
      rw [List.take_take, List.take_take, Nat.min_eq_left (by omega), List.take_set_of_le (Nat.le_refl _)] at this
      exact this
section
variable {C : Cx} {e : Env} {I : PH} {R : List Res} {K : Act → World → Prop} {Q : Exit → Act → World → Prop}
variable {ty t el : TypeId} {pos : String} {after : Array Edge} {g : Option (Nat × Bool)} {x : Operand} {A : Option Addr} {n c k : Nat}
end
end Go.Eng
/-
  The proof engine, part AR: a part of an owned list is deleted: append within the block, the spare end cleared.
-/
namespace Go.Eng
section
variable {C : Cx} {e : Env} {I : PH} {R : List Res} {K : Act → World → Prop} {Q : Exit → Act → World → Prop}
variable {d : Tmp} {ty t el : TypeId} {pos : String} {after : Array Edge} {g : Option (Nat × Bool)} {x y : Operand} {A : Option Addr} {n c : Nat}
theorem Nx.append_self {tys : Array TypeId} {i j sz : Nat} {xs : List Value} (hx : evo e x = some (.slice A i c)) (hy : evo e y = some (.slice (offA A c j sz) (n - j) (c - j))) (hty : tys = #[t, t]) (ht : C.P.underlying t = some (.slice el)) (hel : elemIs C.P el sz = true)
    (hlt : Nat.blt d C.n = true) (hij : i ≤ j) (hjn : j ≤ n) (hn : 0 < n) (h1 : ∀ u ∈ xs, u.oneCell' = true)
    (h : Nx C ((d, .slice A (i + (n - j)) c) :: e) I (Vec el sz A (i + (n - j)) c (xs.take (i * sz) ++ xs.drop (j * sz)) :: R) K) : Nx C e I (Vec el sz A n c xs :: R) (opK C.P ⟨some d, .call { callee := .builtin .append, args := #[x, y], argTypes := tys }, ty, pos, after, g⟩ K Q) := by
  subst hty
  intro a w ha hw
  obtain ⟨⟨m, ⟨m1, m2, hd, rfl, hv, h2⟩, hs⟩, hst⟩ := id hw
  rcases hv.2 with ⟨_, h0, _⟩ | ⟨b, cur, rfl, hb, hnc, hcm, hsz, htake⟩
  · omega
  have hxl := hv.1
  have hb0 : w.heap[b]? = some (.cells cur el (0, 0)) := hs.own _ _ (PH.le_or_left _ _ _ _ hb)
  obtain ⟨by_, _, i0, zv, hi, _, hsize, _, _, _⟩ := elemIs_ok hel
  obtain ⟨aB, hB⟩ : ∃ aB, offA (some (⟨b, 0, none⟩ : Addr)) c j sz = some aB := by
    unfold offA; split
    · exact ⟨_, rfl⟩
    · exact ⟨_, rfl⟩
  have hm1 : (n - j) * sz = n * sz - j * sz := Nat.sub_mul _ _ _
  have hle1 : i * sz ≤ j * sz := Nat.mul_le_mul_right _ hij
  have hle2 : j * sz ≤ n * sz := Nat.mul_le_mul_right _ hjn
  have hle3 : n * sz ≤ c * sz := Nat.mul_le_mul_right _ hnc
  have hadd : (i + (n - j)) * sz = i * sz + (n * sz - j * sz) := by rw [Nat.add_mul, hm1]
  have hnl : (xs.drop (j * sz)).length = n * sz - j * sz := by rw [List.length_drop, hxl]
  have hnews : ∀ q u, (xs.drop (j * sz))[q]? = some u → w.cell? (aB.add q) = some u := fun q u hq => by
    have hq1 : q < n * sz - j * sz := by rw [← hnl]; exact (List.getElem?_eq_some_iff.1 hq).1
    have hjc : ¬ c = j := fun he => by subst he; omega
    unfold offA at hB
    rw [if_neg hjc] at hB
    obtain rfl := Option.some.inj hB
    rw [List.getElem?_drop] at hq
    have := (Rd.vec hq : Rd C.W I (Vec el sz (some ⟨b, 0, none⟩) n c xs :: R) _ u) w hw
    rw [Addr.add_add]
    exact this
  have hcl : cur.toList.length = c * sz := by rw [Array.length_toList, hsz]
  have hr := run_append_room (P := C.P) w t ty el i0 ht hi b i c cur hb0 aB (n - j) (c - j) (xs.drop (j * sz)) (by rw [hnl, hsize, hm1]) hnews (fun u hu => h1 u (List.mem_of_mem_drop hu)) (by omega) (by rw [hsize, hnl, hsz]; omega)
  rw [← hB, hsize] at hr
  unfold opK Oper.wp
  have hrun : (execOp a.eval ⟨some d, .call { callee := .builtin .append, args := #[x, y], argTypes := #[t, t] }, ty, pos, after, g⟩).run C.P w = .ok (.value (.slice (some ⟨b, 0, none⟩) (i + (n - j)) c)) (w.setRow b (cur.toList.take (i * sz) ++ xs.drop (j * sz) ++ cur.toList.drop (i * sz + (xs.drop (j * sz)).length)).toArray) := by
    obtain ⟨cs, hcs⟩ := run_builtin (P := C.P) (w := w) (ρ := a.eval) (b := .append) (args := #[x, y]) (dst := some d) (ty := ty) (pos := pos) (after := after) (g := g) (tys := #[t, t]) (show [x, y].map a.eval = [Value.slice (some ⟨b, 0, none⟩) i c, Value.slice (offA (some ⟨b, 0, none⟩) c j sz) (n - j) (c - j)] from by simp only [List.map_cons, List.map_nil, ha.eval hx, ha.eval hy])
    rw [hcs]
    exact run_v hr
  rw [hrun]
  generalize hN : cur.toList.take (i * sz) ++ xs.drop (j * sz) ++ cur.toList.drop (i * sz + (xs.drop (j * sz)).length) = NL
  have hNl : NL.length = c * sz := by
    rw [← hN, List.length_append, List.length_append, List.length_take, List.length_drop, List.length_drop, hcl, hxl]; omega
  have hNt : NL.take ((i + (n - j)) * sz) = xs.take (i * sz) ++ xs.drop (j * sz) := by
    have htk : cur.toList.take (i * sz) = xs.take (i * sz) := by rw [← htake, List.take_take, Nat.min_eq_left (by omega)]
    rw [← hN, htk, hadd]
    refine List.take_left' ?_
    rw [List.length_append, hnl, List.length_take, hxl]; omega
  refine h _ _ (ha.put hlt _) (hw.upd (o := .cells NL.toArray el (0, 0)) (b := b) (fun mm hm => ?_) (setRow_heap w b cur _ el _ hb0) (fun k hne o' ho => (setRow_other w b k _ hne).trans ho) ⟨rfl, rfl, rfl, by simp, Nat.le_refl _⟩)
  rcases hm.2 with ⟨he, _, _⟩ | ⟨b', cur', he, hb1, _, _, _, _⟩
  · cases he
  cases he
  refine ⟨by rw [hb1]; rfl, by rw [List.length_append, List.length_take, hnl, hxl, hadd]; omega, .inr ⟨b, NL.toArray, rfl, by simp, by omega, hcm, by simp [hNl], ?_⟩⟩
  rw [List.toList_toArray]
  exact hNt
theorem Nx.clear_spare {tys : Array TypeId} {k q sz : Nat} {xs : List Value} {z : Value} (hx : evo e x = some (.slice (offA A c k sz) q (c - k))) (hty : tys = #[t]) (ht : C.P.underlying t = some (.slice el)) (hz : ∀ w, (zeroValue el).run C.P w = .ok z w)
    (h1 : ∀ v ∈ z.cells.toList, v.oneCell' = true) (hzc : z.cells.size = sz) (hk : k + q ≤ c) (h : Nx C e I (Vec el sz A k c xs :: R) K) : Nx C e I (Vec el sz A k c xs :: R) (opK C.P ⟨none, .call { callee := .builtin .clear, args := #[x], argTypes := tys }, ty, pos, after, g⟩ K Q) := by
  subst hty
  intro a w ha hw
  have hrunb : ∀ w', (Builtin.clear_ #[t] ty #[.slice (offA A c k sz) q (c - k)]).run C.P w = .ok (.tuple #[]) w' → (execOp a.eval ⟨none, .call { callee := .builtin .clear, args := #[x], argTypes := #[t] }, ty, pos, after, g⟩).run C.P w = .ok (.value (.tuple #[])) w' := fun w' hr => by
    obtain ⟨cs, hcs⟩ := run_builtin (P := C.P) (w := w) (ρ := a.eval) (b := .clear) (args := #[x]) (dst := none) (ty := ty) (pos := pos) (after := after) (g := g) (tys := #[t]) (show [x].map a.eval = [Value.slice (offA A c k sz) q (c - k)] from by simp only [List.map_cons, List.map_nil, ha.eval hx])
    rw [hcs]
    exact run_v hr
  unfold opK Oper.wp
  by_cases hq : q = 0
  · have hr : (Builtin.clear_ #[t] ty #[.slice (offA A c k sz) q (c - k)]).run C.P w = .ok (.tuple #[]) w := by
      rw [hq]
      cases hA : offA A c k sz with
      | none => simp [Builtin.clear_, run_underlying ht]
      | some ad0 => simp [Builtin.clear_, run_underlying ht]
    rw [hrunb w hr]
    exact h a w ha hw
  · obtain ⟨⟨m, ⟨m1, m2, hd, rfl, hv, h2⟩, hs⟩, hst⟩ := id hw
    rcases hv.2 with ⟨_, h0, h0'⟩ | ⟨b, cur, rfl, hb, hnc, hcm, hsz, htake⟩
    · omega
    have hb0 : w.heap[b]? = some (.cells cur el (0, 0)) := hs.own _ _ (PH.le_or_left _ _ _ _ hb)
    have hlz : (Builtin.zeroCells z.cells q).toList.length = q * sz := by rw [Array.length_toList, size_zeroCells, hzc]
    have hoz : ∀ v ∈ (Builtin.zeroCells z.cells q).toList, v.oneCell' = true := fun v hv => by
      simp only [Builtin.zeroCells, Array.toList_map, List.mem_map] at hv
      obtain ⟨i, hi, rfl⟩ := hv
      have hsz0 : 0 < z.cells.size := by
        rcases Nat.eq_zero_or_pos z.cells.size with h0 | h0
        · rw [h0] at hi; simp at hi
        · exact h0
      have : i % z.cells.size < z.cells.size := Nat.mod_lt _ hsz0
      rw [getElem!_pos z.cells (i % z.cells.size) this]
      exact h1 _ (by simp [Array.getElem_mem])
    have hkq : k * sz + q * sz ≤ c * sz := by rw [← Nat.add_mul]; exact Nat.mul_le_mul_right _ hk
    obtain ⟨cs', hs1, hs2, hs3⟩ := setsAt_some (Builtin.zeroCells z.cells q).toList cur.toList (k * sz) (by rw [hlz, Array.length_toList, hsz]; exact hkq)
    obtain ⟨w', hr, hb', hk', hst'⟩ := storeCells_from (P := C.P) (Builtin.zeroCells z.cells q).toList cur.toList cs' (k * sz) 0 w (by simpa using hb0) (by simpa using hs1) hoz
    have hoff : offA (some (⟨b, 0, none⟩ : Addr)) c k sz = some ⟨b, k * sz, none⟩ := by
      unfold offA
      rw [if_neg (by omega), Option.map_some, Addr.add_lit]
      simp
    have hrun : (Builtin.clear_ #[t] ty #[.slice (offA (some ⟨b, 0, none⟩) c k sz) q (c - k)]).run C.P w = .ok (.tuple #[]) w' := by
      rw [hoff]
      obtain ⟨m, hm⟩ : ∃ m, q = m + 1 := ⟨q - 1, by omega⟩
      rw [hm] at hr ⊢
      simp only [Builtin.clear_, List.getElem?_toArray, List.getElem?_cons_zero]
      rw [Sem.run_bind, run_underlying ht, Result.andThen_ok]
      simp only [Sem.run_bind, hz, Result.andThen_ok]
      rw [hr]
      rfl
    rw [hrunb w' hrun]
    refine h a w' ha (hw.upd (o := .cells cs'.toArray el (0, 0)) (b := b) (fun mm hm => ?_) hb' (fun i hne o' ho => (hk' i hne).trans ho) hst')
    rcases hm.2 with ⟨he, _, _⟩ | ⟨b', cur', he, hb1, _, _, _, htk'⟩
    · cases he
    cases he
    refine ⟨by rw [hb1]; rfl, hm.1, .inr ⟨b, cs'.toArray, rfl, by simp, hnc, hcm, by simp [hs2, hsz], ?_⟩⟩
    rw [List.toList_toArray, hs3, htake]
end
end Go.Eng
/-
  The proof engine, part AS: s[lo:hi:max].
-/
namespace Go.Eng
section
variable {C : Cx} {e : Env} {I : PH} {R : List Res} {K : Act → World → Prop} {Q : Exit → Act → World → Prop}
variable {d : Tmp} {ty t el : TypeId} {pos : String} {after : Array Edge} {g : Option (Nat × Bool)} {x y z u : Operand} {A : Option Addr} {n c : Nat}
theorem Nx.slice3 {k k' k'' : IntKind} {l h m sz : Nat} (hx : evo e x = some (.slice A n c)) (hy : evo e y = some (.int k (l : Int))) (hz : evo e z = some (.int k' (h : Int))) (hu : evo e u = some (.int k'' (m : Int))) (ht : C.P.underlying t = some (.slice el)) (hsz : cellsIn C.P el = some sz)
    (hlt : Nat.blt d C.n = true) (h1 : l ≤ h) (h2 : h ≤ m) (h3 : m ≤ c) (hk : Nx C ((d, .slice (offA A m l sz) (h - l) (m - l)) :: e) I R K) : Nx C e I R (opK C.P ⟨some d, .slice t x (some y) (some z) (some u), ty, pos, after, g⟩ K Q) :=
  Nx.op_run rfl hlt (fun a w ha _ => by
    simp only [execOp, ha.eval hx, ha.eval hy, ha.eval hz, ha.eval hu, Option.map_some]
    refine run_v ?_
    have hs : (sizeOf el).run C.P w = .ok sz w := cellsIn_run hsz w
    simp [Instr.sliceAt, run_underlying ht, Instr.slice, Instr.sliceBounds, run_sliceBound, h1, h2, h3, hs, offA]) hk
end
end Go.Eng
/- Contracts of functions of the given program, and lemmas about plain lists and numbers: what the laws of this seat lean on. -/
namespace Go.Proofs.YtcmdemfhbekabaaGreat
open Go.Eng Go.Sol
attribute [local irreducible] opK wpList Code.wp Exit.then Exit.inBlock fnPost bodyPost Nx Calls Oper.wp Rd Rds Wr Ent Stars Blk Again Vec FnSpec wpMix QRun Stop Upto wpAt
theorem zero_runR {t : TypeId} {z : Value} {P : Program} (h : (P.info? t).bind (·.zero) = some z) (w : World) : (zeroValue t).run P w = .ok z w := by
  cases hi : P.info? t with
  | none => rw [hi] at h; cases h
  | some i =>
    rw [hi] at h
    have h : i.zero = some z := h
    simp [zeroValue, typeInfo, hi, h]
/-! Lists of releases: cloned, one deleted -/
abbrev rlR (A : Option Addr) (c : Nat) (rs : List Rel) : Res := Vec 62 3 A rs.length c (rs.flatMap relC)
set_option maxHeartbeats 8000000 in
set_option maxRecDepth 10000 in
theorem CloneR_spec (A : Option Addr) (c : Nat) (l : List Rel) (I : PH) (hl : SliceN relC 3 I A c l) (h9 : l.length ≤ 1000000) :
    FnSpec Tryz.prog 80 [.slice A l.length c] I [] (fun v R' => ∃ A' c', v = .slice A' l.length c' ∧ R' = [rlR A' c' l]) := by
  cases A with
  | none =>
    have h0 : l = [] := by
      rcases Nat.eq_zero_or_pos l.length with h | h
      · exact List.eq_nil_of_length_eq_zero h
      · have := hl.isSome h (by decide); cases this
    subst h0
    refine FnSpec.enterP Tryz.func80 rfl Tryz.ntmps80 rfl fun w F => ?_
    repeat' first
      | ((with_reducible refine Nx.is_wp ?_); first | refine Nx.wo ?_ | refine Nx.zp (fun hc => ?_) (fun hc => ?_))
      | (refine Nx.zo ?_; first | refine Nx.opr rfl rfl ?_ | refine Nx.so ?_ | refine Nx.sb (fun bx => ?_) | refine Nx.sa (fun A2 c2 => ?_))
      | ((with_reducible refine Nx.is_at ?_); first | refine Nx.a ?_ | refine Nx.zd ?_ | refine Nx.zs (fun hc => ?_) (fun hc => ?_))
      | ((with_reducible refine Nx.is_mix ?_); first | refine Nx.m ?_ | refine Nx.zm ?_ | refine Nx.zt (fun hc => ?_) (fun hc => ?_))
      | refine Nx.zx ?_ | fail
    refine Nx.ret_fn rfl [rlR none 0 []] ⟨none, 0, rfl, rfl⟩ (Ent.vec_nil _ _ _)
  | some a =>
    refine FnSpec.enterP Tryz.func80 rfl Tryz.ntmps80 rfl fun w F => ?_
    repeat' first
      | ((with_reducible refine Nx.is_wp ?_); first | refine Nx.wo ?_ | refine Nx.zp (fun hc => ?_) (fun hc => ?_))
      | (refine Nx.zo ?_; first | refine Nx.opr rfl rfl ?_ | refine Nx.so ?_ | refine Nx.sb (fun bx => ?_) | refine Nx.sa (fun A2 c2 => ?_))
      | ((with_reducible refine Nx.is_at ?_); first | refine Nx.a ?_ | refine Nx.zd ?_ | refine Nx.zs (fun hc => ?_) (fun hc => ?_))
      | ((with_reducible refine Nx.is_mix ?_); first | refine Nx.m ?_ | refine Nx.zm ?_ | refine Nx.zt (fun hc => ?_) (fun hc => ?_))
      | refine Nx.zx ?_ | fail
    refine Nx.blk_vec 0 0 3 rfl rfl (by omega) ?_
    refine Nx.at_op rfl rfl ?_
    refine Nx.append rfl rfl rfl rfl (by kernel_rfl) rfl (Src.arr hl.arr (flat_len relC_len l) (by omega) (rel_one l)) (by omega) fun A' c' => ?_
    rw [Nat.zero_add, List.nil_append]
    repeat' first
      | ((with_reducible refine Nx.is_wp ?_); first | refine Nx.wo ?_ | refine Nx.zp (fun hc => ?_) (fun hc => ?_))
      | (refine Nx.zo ?_; first | refine Nx.opr rfl rfl ?_ | refine Nx.so ?_ | refine Nx.sb (fun bx => ?_) | refine Nx.sa (fun A2 c2 => ?_))
      | ((with_reducible refine Nx.is_at ?_); first | refine Nx.a ?_ | refine Nx.zd ?_ | refine Nx.zs (fun hc => ?_) (fun hc => ?_))
      | ((with_reducible refine Nx.is_mix ?_); first | refine Nx.m ?_ | refine Nx.zm ?_ | refine Nx.zt (fun hc => ?_) (fun hc => ?_))
      | refine Nx.zx ?_ | fail
    exact Nx.ret_fn rfl [_] ⟨A', c', rfl, rfl⟩ (by unfold rlR; (exact Ent.auto))
theorem flat_drop : ∀ {l : List Rel} {k : Nat}, (l.flatMap relC).drop (k * 3) = (l.drop k).flatMap relC
  | [], k => by simp
  | x :: l, 0 => rfl
  | x :: l, k + 1 => by
    rw [List.flatMap_cons, List.drop_succ_cons, ← flat_drop (l := l) (k := k), List.drop_append, relC_len, List.drop_eq_nil_of_le (by rw [relC_len]; omega), List.nil_append, show (k + 1) * 3 - 3 = k * 3 by omega]
theorem flat_take : ∀ {l : List Rel} {k : Nat}, (l.flatMap relC).take (k * 3) = (l.take k).flatMap relC
  | [], k => by simp
  | x :: l, 0 => by simp
  | x :: l, k + 1 => by
    rw [List.flatMap_cons, List.take_succ_cons, List.flatMap_cons, ← flat_take (l := l) (k := k), List.take_append, relC_len, List.take_of_length_le (by rw [relC_len]; omega), show (k + 1) * 3 - 3 = k * 3 by omega]
def dropR (l : List Rel) (i : Nat) : List Rel := l.take i ++ l.drop (i + 1)
theorem dropR_len {l : List Rel} {i : Nat} (h : i < l.length) : (dropR l i).length = l.length - 1 := by
  unfold dropR; rw [List.length_append, List.length_take, List.length_drop]; omega
set_option maxRecDepth 10000 in
set_option maxHeartbeats 8000000 in
theorem DeleteR_spec (A : Option Addr) (c : Nat) (l : List Rel) (i : Nat) (I : PH) (hi : i < l.length) (h9 : l.length ≤ 1000000) :
    FnSpec Tryz.prog 81 [.slice A l.length c, .int .i64 (i : Int), .int .i64 ((i : Int) + 1)] I [rlR A c l] (fun v R' => v = .slice A (dropR l i).length c ∧ R' = [rlR A c (dropR l i)]) := by
  have hdl := dropR_len hi
  have hfl : (l.flatMap relC).take (i * 3) ++ (l.flatMap relC).drop ((i + 1) * 3) = (dropR l i).flatMap relC := by
    unfold dropR; rw [flat_take, flat_drop, List.flatMap_append]
  have hle : i + (l.length - (i + 1)) = (dropR l i).length := by omega
  refine FnSpec.enterP Tryz.func81 rfl Tryz.ntmps81 rfl fun w F => ?_
  refine Nx.vec_fact fun _ hnc _ hA => ?_
  repeat' first
    | ((with_reducible refine Nx.is_wp ?_); first | refine Nx.wo ?_ | refine Nx.p_drawF (id := 5) rfl [0, 1, 2, 3, 4, 5] [] [6, 7] _ rfl rfl (by kernel_rfl) (by kernel_rfl) rfl (by repeat first | exact PanicOk.fn | refine PanicOk.then_ ?_ | refine PanicOk.inB ?_) (Ent.eraseK 0 _) ?_ | refine Nx.zp (fun hc => ?_) (fun hc => ?_))
    | (refine Nx.zo ?_; first | refine Nx.opr rfl rfl ?_ | refine Nx.slice3 (l := i) (h := i + 1) (m := l.length) rfl rfl rfl rfl rfl rfl rfl (by omega) (by omega) (by omega) ?_ | (refine Nx.append_self (i := i) (j := i + 1) (sz := 3) rfl rfl rfl rfl (by kernel_rfl) rfl (by omega) (by omega) (by omega) (rel_one l) ?_; rw [hfl, hle]) | refine Nx.slice_lohi (l := (dropR l i).length) (h := l.length) rfl rfl rfl rfl rfl rfl (by omega) (by omega) ?_ | refine Nx.clear_spare (q := l.length - (dropR l i).length) (sz := 3) (z := .agg #[.int .i64 0, .slice none 0 0, .slice none 0 0]) rfl rfl rfl (zero_runR (by kernel_rfl)) (by intro v hv; simp [Value.cells] at hv; rcases hv with rfl | rfl <;> rfl) rfl (by omega) ?_ | refine Nx.so ?_ | refine Nx.sb (fun bx => ?_) | refine Nx.sa (fun A2 c2 => ?_))
    | ((with_reducible refine Nx.is_at ?_); first | refine Nx.a ?_ | refine Nx.zd ?_ | refine Nx.zs (fun hc => ?_) (fun hc => ?_))
    | ((with_reducible refine Nx.is_mix ?_); first | refine Nx.m_quiet rfl rfl rfl rfl rfl (by first | exact QRun.opr rfl | exact QRun.slice_hi (h := i) rfl rfl rfl rfl (by omega) | exact QRun.slice_lo (l := i + 1) rfl rfl rfl rfl (by omega)) ?_ | refine Nx.m_quiet_do rfl rfl rfl rfl rfl rfl rfl (by first | exact QRun.opr rfl | exact QRun.slice_hi (h := i) rfl rfl rfl rfl (by omega) | exact QRun.slice_lo (l := i + 1) rfl rfl rfl rfl (by omega)) ?_ | refine Nx.m ?_ | refine Nx.zm ?_ | refine Nx.zt (fun hc => ?_) (fun hc => ?_))
    | refine Nx.zx ?_ | fail
  exact Nx.ret_fn rfl [_] ⟨rfl, rfl⟩ (by unfold rlR; (exact Ent.auto))
end Go.Proofs.YtcmdemfhbekabaaGreat
/- Contracts of functions of the given program, and lemmas about plain lists and numbers: what the laws of this seat lean on. -/
namespace Go.Proofs.YtcmdemfhbekabaaGreat
open Go.Eng Go.Sol
attribute [local irreducible] opK wpList Code.wp Exit.then Exit.inBlock fnPost bodyPost Nx Calls Oper.wp Rd Rds Wr Ent Stars Blk Again Vec FnSpec wpMix QRun Stop Upto wpAt
/-! The causes of an exposed cell -/
def exposesB (l : List Int) (rs : List Rel) (k : Nat) (m : Int) : Bool := decide ((rchD l rs).2 = 0) && narrowB ((rchD l rs).1.getD k default) m
set_option maxRecDepth 10000 in
set_option maxHeartbeats 8000000 in
theorem exposes_spec (A As : Option Addr) (c cs : Nat) (l : List Int) (rs : List Rel) (k : Nat) (m : Int) (I : PH) (hl : Ints I A c l) (hs : Sizes l) (hr : Rels I As cs rs) (hw : ∀ r ∈ rs, Viewed l r.v) (hk : k < (prod l).toNat) :
    FnSpec Tryz.prog 82 [.agg #[.slice A l.length c], .slice As rs.length cs, .int .i64 (k : Int), .int .i64 m] I [] (fun v R' => v = .bool (exposesB l rs k m) ∧ R' = []) := by
  have hR := reaches_spec A As c cs l rs I hl hs hr hw
  have hok := fun h => rchD_ok (l := l) (rs := rs) h
  unfold exposesB
  generalize rchD l rs = rq at hR hok
  obtain ⟨rc, er⟩ := rq
  dsimp only at hR hok ⊢
  refine FnSpec.enterP Tryz.func82 rfl Tryz.ntmps82 rfl fun w F => ?_
  by_cases h0 : er = 0
  case neg =>
    rw [decide_eq_false h0, Bool.false_and]
    repeat' first
      | ((with_reducible refine Nx.is_wp ?_); first | refine Nx.wo ?_ | refine Nx.zp (fun hc => ?_) (fun hc => ?_))
      | (refine Nx.zo ?_; first | refine Nx.opr rfl rfl ?_ | (refine Nx.call (Rpre := []) rfl rfl rfl (by kernel_rfl) rfl hR (Ent.refl _) ?_; rintro _ _ ⟨Am, cm, rfl, rfl⟩) | refine Nx.so ?_ | refine Nx.sb (fun bx => ?_) | refine Nx.sa (fun A2 c2 => ?_))
      | ((with_reducible refine Nx.is_at ?_); first | refine Nx.a ?_ | refine Nx.zd ?_ | refine Nx.zs (fun hc => ?_) (fun hc => ?_))
      | ((with_reducible refine Nx.is_mix ?_); first | refine Nx.m ?_ | refine Nx.zm ?_ | refine Nx.zt (fun hc => ?_) (fun hc => ?_))
      | refine Nx.zx ?_ | fail
    exact Nx.ret_fn rfl [] ⟨rfl, rfl⟩ (by (exact Ent.auto))
  subst h0
  obtain ⟨hrl, hrk⟩ := hok rfl
  rw [decide_eq_true rfl, Bool.true_and]
  have hkl : k < rc.length := by omega
  have hxo := (hrk k hk).2
  repeat' first
    | ((with_reducible refine Nx.is_wp ?_); first | refine Nx.p_stopr 2 rfl ?_ | refine Nx.wo ?_ | refine Nx.zp (fun hc => ?_) (fun hc => ?_))
    | (refine Nx.zo ?_; first | refine Nx.opr rfl rfl ?_ | (refine Nx.call (Rpre := []) rfl rfl rfl (by kernel_rfl) rfl hR (Ent.refl _) ?_; rintro _ _ ⟨Am, cm, rfl, rfl⟩) | refine Nx.so ?_ | refine Nx.sb (fun bx => ?_) | refine Nx.sa (fun A2 c2 => ?_))
    | ((with_reducible refine Nx.is_at ?_); first | refine Nx.a ?_ | refine Nx.zd ?_ | refine Nx.zs (fun hc => ?_) (fun hc => ?_))
    | ((with_reducible refine Nx.is_mix ?_); first | refine Nx.m ?_ | refine Nx.zm ?_ | refine Nx.zt (fun hc => ?_) (fun hc => ?_))
    | refine Nx.zx ?_ | fail
  refine unstopN ?_
  refine Nx.freezeAt 0 rfl fun I2 m2 hI2 hm2 h2 => ?_
  have hRc : SliceN rcC 3 I2 Am cm rc := Vec.sliceN hm2 h2 fun x _ => rcC_len x
  have hrds : ∀ (W : World) (R : List Res), Rds W I2 R ((ad Am).add (k * 3)) (rcC (rc.getD k default)) := fun W R => hRc.rds hkl
  have hAm := hRc.isSome (show 0 < rc.length by omega) (by omega)
  generalize rc.getD k default = x at hxo hrds
  have hN := narrow_spec x m I2 hxo
  obtain ⟨lo, hi', op⟩ := x
  dsimp only at hN
  replace hrds : ∀ (W : World) (R : List Res), Rds W I2 R ((ad Am).add (k * 3)) [.int .i64 lo, .int .i64 hi', .bool op] := hrds
  repeat' first
    | ((with_reducible refine Nx.is_wp ?_); first | refine Nx.wo ?_ | refine Nx.zp (fun hc => ?_) (fun hc => ?_))
    | (refine Nx.zo ?_; first | refine Nx.opr rfl rfl ?_ | refine Nx.indexAddr_nat (A := Am) (i := k) (sz := 3) rfl rfl rfl rfl rfl hkl hAm ?_ | refine Nx.loads rfl rfl rfl rfl (hrds _ _) rfl ?_ | refine Nx.callv rfl rfl rfl (by kernel_rfl) rfl hN ?_ | refine Nx.so ?_ | refine Nx.sb (fun bx => ?_) | refine Nx.sa (fun A2 c2 => ?_))
    | ((with_reducible refine Nx.is_at ?_); first | refine Nx.a ?_ | refine Nx.zd ?_ | refine Nx.zs (fun hc => ?_) (fun hc => ?_))
    | ((with_reducible refine Nx.is_mix ?_); first | refine Nx.m ?_ | refine Nx.zm ?_ | refine Nx.zt (fun hc => ?_) (fun hc => ?_))
    | refine Nx.zx ?_ | fail
  exact Nx.imm_le hI2 (Nx.ret_fn rfl [] ⟨rfl, rfl⟩ (by (exact Ent.auto)))
theorem dropR_sub (l : List Rel) (i : Nat) : (dropR l i).Sublist l := by
  unfold dropR
  conv => rhs; rw [← List.take_append_drop i l]
  refine List.Sublist.append (List.Sublist.refl _) ?_
  rw [show l.drop (i + 1) = (l.drop i).drop 1 by rw [List.drop_drop]]
  exact List.drop_sublist _ _
theorem exOf_oneD (rc : List Rch) (k m : Int) : exOf rc [k] m = if narrowB (rc.getD k.toNat default) m = true then [(k, rc.getD k.toNat default, -1)] else [] := by
  have := exOf_snoc rc [] k m
  simpa [exOf] using this
theorem find_exposes {l : List Int} {rs : List Rel} {k : Nat} {m : Int} (h0 : (findD l rs [(k : Int)] m).2 = 0) (h1 : (findD l rs [(k : Int)] m).1.length ≠ 0) : chkD l rs [(k : Int)] m = 0 ∧ exposesB l rs k m = true := by
  unfold findD at h0 h1
  split at h0
  · rename_i h; exact absurd h0 h
  rename_i h
  rw [if_neg h] at h1
  split at h0
  · rename_i h2; exact absurd h0 h2
  rename_i h2
  rw [if_neg h2, exOf_oneD, Int.toNat_natCast] at h1
  refine ⟨Decidable.byContradiction h, ?_⟩
  unfold exposesB
  have h2 : (rchD l rs).2 = 0 := Decidable.byContradiction h2
  rw [decide_eq_true h2, Bool.true_and]
  split at h1
  · rename_i h3; exact h3
  · exact absurd rfl h1
end Go.Proofs.YtcmdemfhbekabaaGreat
/- Contracts of functions of the given program, and lemmas about plain lists and numbers: what the laws of this seat lean on. -/
namespace Go.Proofs.YtcmdemfhbekabaaGreat
open Go.Eng Go.Sol
attribute [local irreducible] opK wpList Code.wp Exit.then Exit.inBlock fnPost bodyPost Nx Calls Oper.wp Rd Rds Wr Ent Stars Blk Again Vec FnSpec wpMix QRun Stop Upto wpAt
/-! Safe, Witness -/
def safeB (l : List Int) (rs : List Rel) (prot : List Int) (m : Int) : Bool := decide ((findD l rs prot m).2 = 0) && decide ((findD l rs prot m).1.length = 0)
set_option maxRecDepth 10000 in
set_option maxHeartbeats 4000000 in
theorem Safe_spec (A As Ap : Option Addr) (c cs cp : Nat) (l : List Int) (rs : List Rel) (prot : List Int) (m : Int) (I : PH) (hl : Ints I A c l) (hs : Sizes l) (hr : Rels I As cs rs) (hw : ∀ r ∈ rs, Viewed l r.v) (hp : Ints I Ap cp prot) (hp9 : prot.length ≤ 1000000) :
    FnSpec Tryz.prog 17 [.agg #[.slice A l.length c], .slice As rs.length cs, .slice Ap prot.length cp, .int .i64 m] I []
      (fun u R' => u = .tuple #[.bool (safeB l rs prot m), .int .i64 (findD l rs prot m).2] ∧ R' = []) := by
  have hF := find_spec A As Ap c cs cp l rs prot m I hl hs hr hw hp hp9
  unfold safeB
  generalize findD l rs prot m = fq at hF
  obtain ⟨base, er⟩ := fq
  dsimp only at hF ⊢
  refine FnSpec.enterP Tryz.func17 rfl Tryz.ntmps17 rfl fun w F => ?_
  by_cases h0 : er = 0
  · subst h0
    rw [decide_eq_true rfl, Bool.true_and]
    repeat' first
      | ((with_reducible refine Nx.is_wp ?_); first | refine Nx.wo ?_ | refine Nx.zp (fun hc => ?_) (fun hc => ?_))
      | (refine Nx.zo ?_; first | refine Nx.opr rfl rfl ?_ | (refine Nx.call (Rpre := []) rfl rfl rfl (by kernel_rfl) rfl hF (Ent.refl _) ?_; rintro _ _ ⟨Ao, co, rfl, rfl⟩) | refine Nx.so ?_ | refine Nx.sb (fun bx => ?_) | refine Nx.sa (fun A2 c2 => ?_))
      | ((with_reducible refine Nx.is_at ?_); first | refine Nx.a ?_ | refine Nx.zd ?_ | refine Nx.zs (fun hc => ?_) (fun hc => ?_))
      | ((with_reducible refine Nx.is_mix ?_); first | refine Nx.m ?_ | refine Nx.zm ?_ | refine Nx.zt (fun hc => ?_) (fun hc => ?_))
      | refine Nx.zx ?_ | fail
    exact Nx.ret_fn rfl [] ⟨by rw [show decide ((base.length : Int) = 0) = decide (base.length = 0) from decide_eq_decide.2 (by omega)], rfl⟩ (by (exact Ent.auto))
  · rw [decide_eq_false h0, Bool.false_and]
    repeat' first
      | ((with_reducible refine Nx.is_wp ?_); first | refine Nx.wo ?_ | refine Nx.zp (fun hc => ?_) (fun hc => ?_))
      | (refine Nx.zo ?_; first | refine Nx.opr rfl rfl ?_ | (refine Nx.call (Rpre := []) rfl rfl rfl (by kernel_rfl) rfl hF (Ent.refl _) ?_; rintro _ _ ⟨Ao, co, rfl, rfl⟩) | refine Nx.so ?_ | refine Nx.sb (fun bx => ?_) | refine Nx.sa (fun A2 c2 => ?_))
      | ((with_reducible refine Nx.is_at ?_); first | refine Nx.a ?_ | refine Nx.zd ?_ | refine Nx.zs (fun hc => ?_) (fun hc => ?_))
      | ((with_reducible refine Nx.is_mix ?_); first | refine Nx.m ?_ | refine Nx.zm ?_ | refine Nx.zt (fun hc => ?_) (fun hc => ?_))
      | refine Nx.zx ?_ | fail
    exact Nx.ret_fn rfl [] ⟨rfl, rfl⟩ (by (exact Ent.auto))
def witD (l : List Int) (rs : List Rel) (x : Int) : List Int × List Int × Int := if chkD l rs [x] 1 ≠ 0 then ([], [], chkD l rs [x] 1) else pairR (prod l) (qsOf l rs) x
set_option maxRecDepth 10000 in
set_option maxHeartbeats 8000000 in
theorem Witness_spec (A As : Option Addr) (c cs : Nat) (l : List Int) (rs : List Rel) (x : Int) (I : PH) (hl : Ints I A c l) (hs : Sizes l) (hr : Rels I As cs rs) (hw : ∀ r ∈ rs, Viewed l r.v) :
    FnSpec Tryz.prog 21 [.agg #[.slice A l.length c], .slice As rs.length cs, .int .i64 x] I []
      (fun u R' => ∃ (A1 : Option Addr) (c1 : Nat) (A2 : Option Addr) (c2 : Nat), u = .tuple #[.slice A1 (witD l rs x).1.length c1, .slice A2 (witD l rs x).2.1.length c2, .int .i64 (witD l rs x).2.2] ∧ R' = [iR A1 c1 (witD l rs x).1, iR A2 c2 (witD l rs x).2.1]) := by
  have hK := fun (bp : Nat) (I' : PH) (hle : PH.le I I') (hp : Ints I' (some ⟨bp, 0, none⟩) 1 [x]) => check_specD A As (some ⟨bp, 0, none⟩) c cs 1 l rs [x] 1 I' (hl.mono hle) hs (hr.mono hle) hw hp
  have hA := fun (I' : PH) (hle : PH.le I I') => EAll_spec A As c cs l rs I' (hl.mono hle) hs (hr.mono hle) hw
  unfold witD
  refine FnSpec.enterP Tryz.func21 rfl Tryz.ntmps21 rfl fun w F => ?_
  by_cases h0 : chkD l rs [x] 1 = 0
  case neg =>
    rw [if_pos h0]
    generalize chkD l rs [x] 1 = er at h0 hK
    repeat' first
      | ((with_reducible refine Nx.is_wp ?_); first | refine Nx.wo ?_ | refine Nx.zp (fun hc => ?_) (fun hc => ?_))
      | (refine Nx.zo ?_; first | refine Nx.opr rfl rfl ?_ | (refine Nx.call rfl rfl rfl (by kernel_rfl) rfl (FnSpec.keep [Blk _ 3 [.int .i64 x]] fun m I' hle hm' hv => hK _ I' hle (by obtain ⟨q1, z1, y1⟩ := Stars.get 0 hv rfl; exact Blk.sliceOf (t := 3) (l := [x]) (z1.trans hm') y1 (by unfold maxLen; simp))) (by (exact Ent.auto)) ?_; rintro _ _ ⟨_, ⟨rfl, rfl⟩, rfl⟩) | refine Nx.so ?_ | refine Nx.sb (fun bx => ?_) | refine Nx.sa (fun A2 c2 => ?_))
      | ((with_reducible refine Nx.is_at ?_); first | refine Nx.a ?_ | refine Nx.zd ?_ | refine Nx.zs (fun hc => ?_) (fun hc => ?_))
      | ((with_reducible refine Nx.is_mix ?_); first | refine Nx.m ?_ | refine Nx.zm ?_ | refine Nx.zt (fun hc => ?_) (fun hc => ?_))
      | refine Nx.zx ?_ | fail
    exact Nx.ret_fn rfl [_, _] ⟨none, 0, none, 0, rfl, rfl⟩ ((Ent.vec_nil 3 1 _).trans ((Ent.vec_nil 3 1 _).trans (by (exact Ent.auto))))
  obtain ⟨hE0, _, _, _⟩ := chkD_ok h0
  have hV := (relsE_iff hs hw).1 hE0
  rw [if_neg (by omega)]
  simp only [h0] at hK
  simp only [hE0, if_pos] at hA
  repeat' first
    | ((with_reducible refine Nx.is_wp ?_); first | refine Nx.p_stopr 7 rfl ?_ | refine Nx.wo ?_ | refine Nx.zp (fun hc => ?_) (fun hc => ?_))
    | (refine Nx.zo ?_; first | refine Nx.opr rfl rfl ?_ | (refine Nx.call rfl rfl rfl (by kernel_rfl) rfl (FnSpec.keep [Blk _ 3 [.int .i64 x]] fun m I' hle hm' hv => hK _ I' hle (by obtain ⟨q1, z1, y1⟩ := Stars.get 0 hv rfl; exact Blk.sliceOf (t := 3) (l := [x]) (z1.trans hm') y1 (by unfold maxLen; simp))) (by (exact Ent.auto)) ?_; rintro _ _ ⟨_, ⟨rfl, rfl⟩, rfl⟩) | (refine Nx.call (Rpre := []) rfl rfl rfl (by kernel_rfl) rfl (hA _ (PH.le_refl _)) (Ent.refl _) ?_; rintro _ _ ⟨Am, cm, qs, rfl, hqs, hql, rfl⟩) | refine Nx.so ?_ | refine Nx.sb (fun bx => ?_) | refine Nx.sa (fun A2 c2 => ?_))
    | ((with_reducible refine Nx.is_at ?_); first | refine Nx.a ?_ | refine Nx.zd ?_ | refine Nx.zs (fun hc => ?_) (fun hc => ?_))
    | ((with_reducible refine Nx.is_mix ?_); first | refine Nx.m ?_ | refine Nx.zm ?_ | refine Nx.zt (fun hc => ?_) (fun hc => ?_))
    | refine Nx.zx ?_ | fail
  refine Nx.unstop ?_
  refine Nx.freezeAt 0 rfl fun I1 m1 hI1 hm1 h1 => ?_
  refine Nx.freezeAt 0 rfl fun I2 m2 hI2 hm2 h2 => ?_
  have hq : Eqs I2 Am cm qs := ⟨(Vec.sliceN hm1 h1 fun x _ => eqC_len x).mono hI2, fun q hq => by
    obtain ⟨k, hk, he⟩ := List.mem_iff_getElem.1 hq
    obtain ⟨m3, h3le, h3⟩ := Stars.get k (r := rowR q.1) h2 (by rw [nthL_eq, List.getElem?_map, List.getElem?_eq_getElem hk, he]; rfl)
    exact Vec.sliceOf (h3le.trans hm2) h3⟩
  have hP := Pair_spec (prod l) x Am cm qs I2 hq (allC_told hs hV hqs)
  rw [show pairR (prod l) qs x = pairR (prod l) (qsOf l rs) x from cont_pair hqs _ _] at hP
  repeat' first
    | ((with_reducible refine Nx.is_wp ?_); first | refine Nx.wo ?_ | refine Nx.zp (fun hc => ?_) (fun hc => ?_))
    | (refine Nx.zo ?_; first | refine Nx.opr rfl rfl ?_ | refine Nx.callv rfl rfl rfl (by kernel_rfl) rfl (Count_spec A c l I2 (hl.mono (hI1.trans hI2)) hs) ?_ | (refine Nx.call (Rpre := []) rfl rfl rfl (by kernel_rfl) rfl hP (Ent.refl _) ?_; rintro _ _ ⟨A1, c1, A2, c2, rfl, rfl⟩) | refine Nx.so ?_ | refine Nx.sb (fun bx => ?_) | refine Nx.sa (fun A2 c2 => ?_))
    | ((with_reducible refine Nx.is_at ?_); first | refine Nx.a ?_ | refine Nx.zd ?_ | refine Nx.zs (fun hc => ?_) (fun hc => ?_))
    | ((with_reducible refine Nx.is_mix ?_); first | refine Nx.m ?_ | refine Nx.zm ?_ | refine Nx.zt (fun hc => ?_) (fun hc => ?_))
    | refine Nx.zx ?_ | fail
  exact Nx.imm_le (hI1.trans hI2) (Nx.ret_fn rfl [_, _] ⟨A1, c1, A2, c2, rfl, rfl⟩ (by (exact Ent.auto)))
end Go.Proofs.YtcmdemfhbekabaaGreat
