/- Contracts of functions of the given program, and lemmas about plain lists and numbers: what the laws of this seat lean on. -/
import Derived.Shelf.SlSortCmp.Whole1
import Derived.Test.YtjnhoemgceghlaaGreatTs7
namespace Go.Proofs.YtjnhoemgceghlaaGreat
open Go.Eng Go.Sol
attribute [local irreducible] opK wpList Code.wp Exit.then Exit.inBlock fnPost bodyPost Nx Calls Oper.wp Rd Rds Wr Ent Stars Blk Again Vec FnSpec wpMix QRun Stop Upto wpAt
/-! Exposed cells -/
abbrev Exp := Int × Rch × Int
def exC (x : Exp) : List Value := [.int .i64 x.1, .int .i64 x.2.1.1, .int .i64 x.2.1.2.1, .bool x.2.1.2.2, .int .i64 x.2.2]
abbrev expR (A : Option Addr) (c : Nat) (l : List Exp) : Res := Vec 126 5 A l.length c (l.flatMap exC)
theorem reachR_cases {n : Int} {qs : List EqR} (h : (reachR n qs).2 = 0) : (1 ≤ n ∧ n ≤ 48) ∧ (reachR n qs).1 = (List.range n.toNat).map (reachAt n.toNat (eqns qs)) ∧ (∀ q ∈ qs, GoodE n.toNat q) ∧ solsOf n.toNat (eqns qs) ≠ [] ∧ chkQ n qs = 0 := by
  unfold reachR at h ⊢
  split at h
  · rename_i h0
    obtain ⟨h1, _, h3, _⟩ := chk_good h0
    rw [if_pos h0]
    split at h
    · exact absurd h (by decide)
    · rename_i h4
      rw [if_neg h4]
      exact ⟨h1, rfl, h3, h4, h0⟩
  · rename_i h0; exact absurd h h0
theorem rchD_zero {l : List Int} {rs : List Rel} (h : (rchD l rs).2 = 0) : relsE l rs = 0 ∧ rchD l rs = reachR (prod l) (qsOf l rs) := by
  unfold rchD at h ⊢
  split at h
  · rename_i h0; rw [if_pos h0]; exact ⟨h0, rfl⟩
  · rename_i h0; exact absurd h h0
theorem rchD_ok {l : List Int} {rs : List Rel} (h : (rchD l rs).2 = 0) : (rchD l rs).1.length = (prod l).toNat ∧ ∀ k, k < (prod l).toNat → (rchD l rs).1.getD k default = reachAt (prod l).toNat (eqns (qsOf l rs)) k ∧ rchOk ((rchD l rs).1.getD k default) := by
  obtain ⟨_, he⟩ := rchD_zero h
  rw [he] at h ⊢
  obtain ⟨_, h2, h3, h4, _⟩ := reachR_cases h
  rw [h2]
  refine ⟨by simp, fun k hk => ?_⟩
  rw [range_at hk]
  exact ⟨rfl, reach_ok h3 h4⟩
theorem chkD_ok {l : List Int} {rs : List Rel} {prot : List Int} {m : Int} (h : chkD l rs prot m = 0) : relsE l rs = 0 ∧ (1 ≤ m ∧ m ≤ 100) ∧ (∀ k ∈ prot, 0 ≤ k ∧ k < prod l) ∧ prot.Pairwise (· < ·) := by
  unfold chkD at h
  split at h
  · rename_i h0; exact absurd h h0
  rename_i h0
  split at h
  · omega
  rename_i h1
  split at h
  · omega
  rename_i h2
  split at h
  · rename_i h3
    refine ⟨Decidable.byContradiction h0, by omega, fun k hk => ?_, h3⟩
    have : ¬ outP (prod l) k = true := fun hb => h2 (List.any_eq_true.2 ⟨k, hk, hb⟩)
    unfold outP at this
    rw [decide_eq_true_eq] at this
    omega
  · omega
def exOf (rc : List Rch) (prot : List Int) (m : Int) : List Exp := (prot.filter fun k => narrowB (rc.getD k.toNat default) m).map fun k => (k, rc.getD k.toNat default, -1)
theorem exOf_snoc (rc : List Rch) (p : List Int) (k m : Int) : exOf rc (p ++ [k]) m = exOf rc p m ++ if narrowB (rc.getD k.toNat default) m = true then [(k, rc.getD k.toNat default, -1)] else [] := by
  unfold exOf
  rw [List.filter_append, List.map_append]
  congr 1
  rw [List.filter_cons, List.filter_nil]
  split <;> rfl
theorem exOf_len (rc : List Rch) (p : List Int) (m : Int) : (exOf rc p m).length ≤ p.length := by
  unfold exOf
  rw [List.length_map]
  exact List.length_filter_le _ _
/-- The exposed cells, without the first release of each. -/
def findD (l : List Int) (rs : List Rel) (prot : List Int) (m : Int) : List Exp × Int :=
  if chkD l rs prot m ≠ 0 then ([], chkD l rs prot m) else if (rchD l rs).2 ≠ 0 then ([], (rchD l rs).2) else (exOf (rchD l rs).1 prot m, 0)
set_option maxRecDepth 10000 in
set_option maxHeartbeats 8000000 in
theorem find_spec (A As Ap : Option Addr) (c cs cp : Nat) (l : List Int) (rs : List Rel) (prot : List Int) (m : Int) (I : PH) (hl : Ints I A c l) (hs : Sizes l) (hr : Rels I As cs rs) (hw : ∀ r ∈ rs, Viewed l r.v) (hp : Ints I Ap cp prot) (hp9 : prot.length ≤ 1000000) :
    FnSpec Tryz.prog 58 [.agg #[.slice A l.length c], .slice As rs.length cs, .slice Ap prot.length cp, .int .i64 m] I []
      (fun u R' => ∃ (A' : Option Addr) (c' : Nat), u = .tuple #[.slice A' (findD l rs prot m).1.length c', .int .i64 (findD l rs prot m).2] ∧ R' = [expR A' c' (findD l rs prot m).1]) := by
  have hK := check_specD A As Ap c cs cp l rs prot m I hl hs hr hw hp
  have hR := reaches_spec A As c cs l rs I hl hs hr hw
  have hz := size_ok hs
  unfold findD
  refine FnSpec.enterP Tryz.func58 rfl Tryz.ntmps58 rfl fun w F => ?_
  by_cases h0 : chkD l rs prot m = 0
  case neg =>
    rw [if_pos h0]
    generalize chkD l rs prot m = er at h0 hK
    repeat' first
      | ((with_reducible refine Nx.is_wp ?_); first | refine Nx.wo ?_ | refine Nx.zp (fun hc => ?_) (fun hc => ?_))
      | (refine Nx.zo ?_; first | refine Nx.opr rfl rfl ?_ | refine Nx.callv rfl rfl rfl (by kernel_rfl) rfl hK ?_ | refine Nx.so ?_ | refine Nx.sb (fun bx => ?_) | refine Nx.sa (fun A2 c2 => ?_))
      | ((with_reducible refine Nx.is_at ?_); first | refine Nx.a ?_ | refine Nx.zd ?_ | refine Nx.zs (fun hc => ?_) (fun hc => ?_))
      | ((with_reducible refine Nx.is_mix ?_); first | refine Nx.m ?_ | refine Nx.zm ?_ | refine Nx.zt (fun hc => ?_) (fun hc => ?_))
      | refine Nx.zx ?_ | fail
    exact Nx.ret_fn rfl [_] ⟨none, 0, rfl, rfl⟩ ((Ent.vec_nil 126 5 _).trans (by (exact Ent.auto)))
  rw [if_neg (by omega)]
  have hck := chkD_ok h0
  rw [h0] at hK
  have hok := fun h => rchD_ok (l := l) (rs := rs) h
  generalize rchD l rs = rq at hR hok
  obtain ⟨rc, er⟩ := rq
  dsimp only at hR hok ⊢
  by_cases h1 : er = 0
  case neg =>
    rw [if_pos h1]
    repeat' first
      | ((with_reducible refine Nx.is_wp ?_); first | refine Nx.wo ?_ | refine Nx.zp (fun hc => ?_) (fun hc => ?_))
      | (refine Nx.zo ?_; first | refine Nx.opr rfl rfl ?_ | refine Nx.callv rfl rfl rfl (by kernel_rfl) rfl hK ?_ | (refine Nx.call (Rpre := []) rfl rfl rfl (by kernel_rfl) rfl hR (Ent.refl _) ?_; rintro _ _ ⟨Am, cm, rfl, rfl⟩) | refine Nx.so ?_ | refine Nx.sb (fun bx => ?_) | refine Nx.sa (fun A2 c2 => ?_))
      | ((with_reducible refine Nx.is_at ?_); first | refine Nx.a ?_ | refine Nx.zd ?_ | refine Nx.zs (fun hc => ?_) (fun hc => ?_))
      | ((with_reducible refine Nx.is_mix ?_); first | refine Nx.m ?_ | refine Nx.zm ?_ | refine Nx.zt (fun hc => ?_) (fun hc => ?_))
      | refine Nx.zx ?_ | fail
    exact Nx.ret_fn rfl [_] ⟨none, 0, rfl, rfl⟩ ((Ent.vec_nil 126 5 _).trans (by (exact Ent.auto)))
  subst h1
  obtain ⟨hrl, hrk⟩ := hok rfl
  rw [if_neg (by decide)]
  repeat' first
    | ((with_reducible refine Nx.is_wp ?_); first | refine Nx.wo ?_ | refine Nx.zp (fun hc => ?_) (fun hc => ?_))
    | (refine Nx.zo ?_; first | refine Nx.opr rfl rfl ?_ | refine Nx.callv rfl rfl rfl (by kernel_rfl) rfl hK ?_ | (refine Nx.call (Rpre := []) rfl rfl rfl (by kernel_rfl) rfl hR (Ent.refl _) ?_; rintro _ _ ⟨Am, cm, rfl, rfl⟩) | refine Nx.so ?_ | refine Nx.sb (fun bx => ?_) | refine Nx.sa (fun A2 c2 => ?_))
    | ((with_reducible refine Nx.is_at ?_); first | refine Nx.a ?_ | refine Nx.zd ?_ | refine Nx.zs (fun hc => ?_) (fun hc => ?_))
    | ((with_reducible refine Nx.is_mix ?_); first | refine Nx.m ?_ | refine Nx.zm ?_ | refine Nx.zt (fun hc => ?_) (fun hc => ?_))
    | refine Nx.zx ?_ | fail
  refine Nx.freezeAt 0 rfl fun I2 m2 hI2 hm2 h2 => ?_
  have hRc : SliceN rcC 3 I2 Am cm rc := Vec.sliceN hm2 h2 fun x _ => rcC_len x
  replace hp := hp.mono hI2
  refine Nx.p_loop (σ := Nat × Option Addr × Nat) (fun s => [(3, .int .i64 m), (11, .slice Am rc.length cm), (13, .slice s.2.1 (exOf rc (prot.take s.1) m).length s.2.2), (33, .slice Ap prot.length cp), (34, .int .i64 prot.length), (35, .int .i64 (s.1 : Int))])
    (fun s => [expR s.2.1 s.2.2 (exOf rc (prot.take s.1) m), F]) (fun s => s.1 ≤ prot.length) (fun s => prot.length - s.1) (0, none, 0) rfl (Nat.zero_le _) ⟨rfl, rfl, rfl, rfl, rfl, rfl, trivial⟩ ((Ent.vec_nil 126 5 _).trans (by (exact Ent.auto))) ?_
  rintro ⟨i, Ao, co⟩ hi
  dsimp only at hi ⊢
  by_cases hiv : i < prot.length
  case neg =>
    obtain rfl : i = prot.length := by omega
    rw [List.take_length]
    repeat' first
      | ((with_reducible refine Nx.is_wp ?_); first | refine Nx.wo ?_ | refine Nx.zp (fun hc => ?_) (fun hc => ?_))
      | (refine Nx.zo ?_; first | refine Nx.opr rfl rfl ?_ | refine Nx.so ?_ | refine Nx.sb (fun bx => ?_) | refine Nx.sa (fun A2 c2 => ?_))
      | ((with_reducible refine Nx.is_at ?_); first | refine Nx.a ?_ | refine Nx.zd ?_ | refine Nx.zs (fun hc => ?_) (fun hc => ?_))
      | ((with_reducible refine Nx.is_mix ?_); first | refine Nx.m ?_ | refine Nx.zm ?_ | refine Nx.zt (fun hc => ?_) (fun hc => ?_))
      | refine Nx.zx ?_ | fail
    exact Nx.imm_le hI2 (Nx.ret_fn rfl [_] ⟨Ao, co, rfl, rfl⟩ (by (exact Ent.auto)))
  have htk := take_snocJ hiv
  have hk2 := hck.2.2.1 _ (getD_memI hiv)
  have hrd : ∀ (W : World) (R : List Res), Rd W I2 R ((ad Ap).add (i * 1)) (.int .i64 (prot.getD i default)) := fun W R => hp.rd hiv
  generalize prot.getD i default = k at htk hk2 hrd
  obtain ⟨y, rfl⟩ : ∃ y : Nat, k = y := ⟨k.toNat, by omega⟩
  have hyl : y < rc.length := by omega
  have hsn := exOf_snoc rc (prot.take i) (y : Int) m
  rw [← htk, Int.toNat_natCast] at hsn
  have hxo := (hrk y (by omega)).2
  have hexl := exOf_len rc (prot.take i) m
  rw [List.length_take] at hexl
  have hrds : ∀ (W : World) (R : List Res), Rds W I2 R ((ad Am).add (y * 3)) (rcC (rc.getD y default)) := fun W R => hRc.rds hyl
  generalize rc.getD y default = x at hsn hxo hrds
  have hN := narrow_spec x m I2 hxo
  obtain ⟨lo, hi', op⟩ := x
  dsimp only at hN
  replace hrds : ∀ (W : World) (R : List Res), Rds W I2 R ((ad Am).add (y * 3)) [.int .i64 lo, .int .i64 hi', .bool op] := hrds
  generalize exOf rc (prot.take i) m = out at hsn hexl
  cases hb : narrowB (lo, hi', op) m with
  | false =>
    rw [hb] at hN hsn
    rw [if_neg (by decide), List.append_nil] at hsn
    repeat' first
      | ((with_reducible refine Nx.is_wp ?_); first | refine Nx.wo ?_ | refine Nx.zp (fun hc => ?_) (fun hc => ?_))
      | (refine Nx.zo ?_; first | refine Nx.opr rfl rfl ?_ | refine Nx.indexAddr_nat (A := Ap) rfl rfl rfl rfl rfl hiv (hp.isSome (by omega)) ?_ | refine Nx.load rfl rfl rfl (hrd _ _) ?_ | refine Nx.indexAddr_nat (A := Am) (i := y) (sz := 3) rfl rfl rfl rfl rfl hyl (hRc.isSome (by omega) (by omega)) ?_ | refine Nx.loads rfl rfl rfl rfl (hrds _ _) rfl ?_ | refine Nx.callv rfl rfl rfl (by kernel_rfl) rfl hN ?_ | refine Nx.so ?_ | refine Nx.sb (fun bx => ?_) | refine Nx.sa (fun A2 c2 => ?_))
      | ((with_reducible refine Nx.is_at ?_); first | refine Nx.a ?_ | refine Nx.zd ?_ | refine Nx.zs (fun hc => ?_) (fun hc => ?_))
      | ((with_reducible refine Nx.is_mix ?_); first | refine Nx.m ?_ | refine Nx.zm ?_ | refine Nx.zt (fun hc => ?_) (fun hc => ?_))
      | refine Nx.zx ?_ | fail
    exact Nx.again (i + 1, Ao, co) hiv (by dsimp only; omega) ⟨rfl, rfl, by dsimp only; rw [hsn]; rfl, rfl, rfl, rfl, trivial⟩ (by dsimp only; rw [hsn]; (exact Ent.auto))
  | true =>
    rw [hb] at hN hsn
    rw [if_pos rfl] at hsn
    repeat' first
      | ((with_reducible refine Nx.is_wp ?_); first | refine Nx.wo ?_ | refine Nx.zp (fun hc => ?_) (fun hc => ?_))
      | (refine Nx.zo ?_; first | refine Nx.opr rfl rfl ?_ | refine Nx.indexAddr_nat (A := Ap) rfl rfl rfl rfl rfl hiv (hp.isSome (by omega)) ?_ | refine Nx.load rfl rfl rfl (hrd _ _) ?_ | refine Nx.indexAddr_nat (A := Am) (i := y) (sz := 3) rfl rfl rfl rfl rfl hyl (hRc.isSome (by omega) (by omega)) ?_ | refine Nx.loads rfl rfl rfl rfl (hrds _ _) rfl ?_ | refine Nx.callv rfl rfl rfl (by kernel_rfl) rfl hN ?_ | refine Nx.so ?_ | refine Nx.sb (fun bx => ?_) | refine Nx.sa (fun A2 c2 => ?_))
      | ((with_reducible refine Nx.is_at ?_); first | refine Nx.a ?_ | refine Nx.zd ?_ | refine Nx.zs (fun hc => ?_) (fun hc => ?_))
      | ((with_reducible refine Nx.is_mix ?_); first | refine Nx.m ?_ | refine Nx.zm ?_ | refine Nx.zt (fun hc => ?_) (fun hc => ?_))
      | refine Nx.zx ?_ | fail
    exact Nx.again (i + 1, A2, c2) hiv (by dsimp only; omega) ⟨rfl, rfl, by dsimp only; rw [hsn, List.length_append]; rfl, rfl, rfl, rfl, trivial⟩ (by dsimp only; unfold expR; rw [hsn, List.length_append, List.flatMap_append, List.flatMap_cons, List.flatMap_nil, List.append_nil]; (exact Ent.auto))
end Go.Proofs.YtjnhoemgceghlaaGreat
/- Contracts of functions of the given program, and lemmas about plain lists and numbers: what the laws of this seat lean on. -/
namespace Go.Proofs.YtjnhoemgceghlaaGreat
open Go.Eng Go.Sol
attribute [local irreducible] opK wpList Code.wp Exit.then Exit.inBlock fnPost bodyPost Nx Calls Oper.wp Rd Rds Wr Ent Stars Blk Again Vec FnSpec wpMix QRun Stop Upto wpAt
/-! The first release of each exposed cell -/
def hitB (l : List Int) (rs : List Rel) (m cell : Int) (i : Nat) : Bool := decide ((rchD l (rs.take (i + 1))).2 = 0) && narrowB ((rchD l (rs.take (i + 1))).1.getD cell.toNat default) m
def firstN (l : List Int) (rs : List Rel) (m cell : Int) : Nat → Int
  | 0 => -1
  | i + 1 => if firstN l rs m cell i < 0 ∧ hitB l rs m cell i = true then (rs.getD i default).num else firstN l rs m cell i
/-- The exposed cells after i releases. -/
def expK (l : List Int) (rs : List Rel) (m : Int) (i : Nat) (e : Exp) : Exp := (e.1, e.2.1, firstN l rs m e.1 i)
theorem map_atX {f : Exp → Exp} {l : List Exp} {k : Nat} (h : k < l.length) : (l.map f).getD k default = f (l.getD k default) := by
  rw [List.getD_eq_getElem?_getD, List.getElem?_map, List.getD_eq_getElem?_getD, List.getElem?_eq_getElem h]; rfl
theorem RelsV.take {l : List Int} {rs : List Rel} (h : RelsV l rs) (k : Nat) : RelsV l (rs.take k) := by
  have hat : ∀ i, i < (rs.take k).length → (rs.take k).getD i default = rs.getD i default ∧ i < rs.length := fun i hi => by
    rw [List.length_take] at hi
    exact ⟨by rw [List.getD_eq_getElem?_getD, List.getD_eq_getElem?_getD, List.getElem?_take_of_lt (by omega)], by omega⟩
  refine ⟨by have := h.len; rw [List.length_take]; omega, fun i hi => ?_, fun i hi => ?_⟩
  · obtain ⟨e, hl⟩ := hat i hi
    rw [e]; exact h.each i hl
  · obtain ⟨e1, _⟩ := hat i (by omega)
    obtain ⟨e2, hl⟩ := hat (i + 1) hi
    rw [e1, e2]; exact h.asc i hl
theorem Rels.take {I : PH} {A : Option Addr} {c : Nat} {l : List Rel} (h : Rels I A c l) (k : Nat) : Rels I A c (l.take k) := by
  refine ⟨⟨fun j u hj => ?_, by have := h.outer.cap; rw [List.length_take]; omega, h.outer.max, fun x hx => h.outer.cells x (List.mem_of_mem_take hx)⟩, fun r hr => h.view r (List.mem_of_mem_take hr), fun r hr => h.val r (List.mem_of_mem_take hr)⟩
  refine h.outer.arr j u ?_
  have e : l.flatMap relC = (l.take k).flatMap relC ++ (l.drop k).flatMap relC := by rw [← List.flatMap_append, List.take_append_drop]
  rw [e, List.getElem?_append_left (List.getElem?_eq_some_iff.1 hj).1]
  exact hj
/-- Those before k are as after a further release. -/
structure Mid (l : List Int) (rs : List Rel) (m : Int) (base : List Exp) (i k : Nat) (os : List Exp) : Prop where
  len : os.length = base.length
  at_ : ∀ j, j < base.length → os.getD j default = expK l rs m (if j < k then i + 1 else i) (base.getD j default)
theorem Mid.start (l : List Int) (rs : List Rel) (m : Int) (base : List Exp) (i : Nat) : Mid l rs m base i 0 (base.map (expK l rs m i)) :=
  ⟨by rw [List.length_map], fun j hj => by rw [map_atX hj, if_neg (Nat.not_lt_zero _)]⟩
theorem ext_X {a b : List Exp} (hl : a.length = b.length) (h : ∀ j, j < a.length → a.getD j default = b.getD j default) : a = b := list_ext_d hl h
theorem Mid.done {l : List Int} {rs : List Rel} {m : Int} {base : List Exp} {i : Nat} {os : List Exp} (h : Mid l rs m base i base.length os) : os = base.map (expK l rs m (i + 1)) :=
  ext_X (by rw [h.len, List.length_map]) fun j hj => by rw [h.len] at hj; rw [h.at_ j hj, map_atX hj, if_pos hj]
theorem Mid.same {l : List Int} {rs : List Rel} {m : Int} {base : List Exp} {i k : Nat} {os : List Exp} (h : Mid l rs m base i k os) (hk : k < base.length) (he : firstN l rs m (base.getD k default).1 (i + 1) = firstN l rs m (base.getD k default).1 i) : Mid l rs m base i (k + 1) os :=
  ⟨h.len, fun j hj => by
    rw [h.at_ j hj]
    rcases Nat.lt_trichotomy j k with h1 | h1 | h1
    · rw [if_pos h1, if_pos (by omega)]
    · subst h1
      rw [if_neg (by omega), if_pos (by omega)]
      unfold expK
      rw [he]
    · rw [if_neg (by omega), if_neg (by omega)]⟩
theorem Mid.put {l : List Int} {rs : List Rel} {m : Int} {base : List Exp} {i k : Nat} {os : List Exp} (h : Mid l rs m base i k os) (hk : k < base.length) : Mid l rs m base i (k + 1) (os.set k (expK l rs m (i + 1) (base.getD k default))) :=
  ⟨by rw [List.length_set]; exact h.len, fun j hj => by
    rw [List.getD_eq_getElem?_getD]
    rcases Nat.lt_trichotomy j k with h1 | h1 | h1
    · rw [List.getElem?_set_ne (by omega), ← List.getD_eq_getElem?_getD, h.at_ j hj, if_pos h1, if_pos (by omega)]
    · subst h1
      rw [List.getElem?_set_self (by rw [h.len]; exact hj), if_pos (by omega)]; rfl
    · rw [List.getElem?_set_ne (by omega), ← List.getD_eq_getElem?_getD, h.at_ j hj, if_neg (by omega), if_neg (by omega)]⟩
end Go.Proofs.YtjnhoemgceghlaaGreat
/- Contracts of functions of the given program, and lemmas about plain lists and numbers: what the laws of this seat lean on. -/
namespace Go.Proofs.YtjnhoemgceghlaaGreat
open Go.Eng Go.Sol
attribute [local irreducible] opK wpList Code.wp Exit.then Exit.inBlock fnPost bodyPost Nx Calls Oper.wp Rd Rds Wr Ent Stars Blk Again Vec FnSpec wpMix QRun Stop Upto wpAt
/-! Lists of exposed cells compared -/
/-! Protected cells -/
set_option maxRecDepth 10000 in
set_option maxHeartbeats 4000000 in
theorem Protected_made (b : Nat) (A : Option Addr) (c : Nat) (L : List Int) (k n : Nat) (I : PH) (hL : CodesOk I A c L) (hk : k ≤ L.length) (hn : n ≤ 1000) :
    FnSpec Tryz.prog 7 [.pointer (some ⟨b, 0, none⟩), .int .i64 (n : Int)] I [CodesR b A c L k]
      (fun u R' => ∃ (B : Option Addr) (c' : Nat) (p : List Int) (k' : Nat), u = .slice B p.length c' ∧ p.length ≤ n ∧ (p.Pairwise (· < ·) ∧ ∀ x ∈ p, 0 ≤ x ∧ x < n) ∧ k' ≤ L.length ∧ R' = [iR B c' p, CodesR b A c L k']) := by
  refine FnSpec.enterP Tryz.func7 rfl Tryz.ntmps7 rfl fun w F => ?_
  repeat' first
    | ((with_reducible refine Nx.is_wp ?_); first | refine Nx.wo ?_ | refine Nx.zp (fun hc => ?_) (fun hc => ?_))
    | (refine Nx.zo ?_; first | refine Nx.opr rfl rfl ?_ | refine Nx.so ?_ | refine Nx.sb (fun bx => ?_) | refine Nx.sa (fun A2 c2 => ?_))
    | ((with_reducible refine Nx.is_at ?_); first | refine Nx.a ?_ | refine Nx.zd ?_ | refine Nx.zs (fun hc => ?_) (fun hc => ?_))
    | ((with_reducible refine Nx.is_mix ?_); first | refine Nx.m ?_ | refine Nx.zm ?_ | refine Nx.zt (fun hc => ?_) (fun hc => ?_))
    | refine Nx.zx ?_ | fail
  refine Nx.p_loop (σ := Nat × Nat × Option Addr × Nat × List Int) (fun s => [(0, .pointer (some ⟨b, 0, none⟩)), (1, .int .i64 (n : Int)), (5, .slice s.2.2.1 s.2.2.2.2.length s.2.2.2.1), (6, .int .i64 (s.1 : Int))])
    (fun s => [iR s.2.2.1 s.2.2.2.1 s.2.2.2.2, CodesR b A c L s.2.1, F]) (fun s => s.1 ≤ n ∧ s.2.1 ≤ L.length ∧ s.2.2.2.2.length ≤ s.1 ∧ s.2.2.2.2.Pairwise (· < ·) ∧ ∀ x ∈ s.2.2.2.2, 0 ≤ x ∧ x < s.1) (fun s => n - s.1) (0, k, none, 0, []) rfl ⟨Nat.zero_le _, hk, Nat.le_refl _, List.Pairwise.nil, fun x hx => nomatch hx⟩ ⟨rfl, rfl, rfl, rfl, trivial⟩ ((Ent.vec_nil 3 1 _).trans (by (exact Ent.auto))) ?_
  rintro ⟨i, kc, B, c', p⟩ ⟨hi, hkc, hpl, hpa, hpb⟩
  dsimp only at hi hkc hpl hpa hpb ⊢
  by_cases hin : i < n
  case neg =>
    repeat' first
      | ((with_reducible refine Nx.is_wp ?_); first | refine Nx.wo ?_ | refine Nx.zp (fun hc => ?_) (fun hc => ?_))
      | (refine Nx.zo ?_; first | refine Nx.opr rfl rfl ?_ | refine Nx.so ?_ | refine Nx.sb (fun bx => ?_) | refine Nx.sa (fun A2 c2 => ?_))
      | ((with_reducible refine Nx.is_at ?_); first | refine Nx.a ?_ | refine Nx.zd ?_ | refine Nx.zs (fun hc => ?_) (fun hc => ?_))
      | ((with_reducible refine Nx.is_mix ?_); first | refine Nx.m ?_ | refine Nx.zm ?_ | refine Nx.zt (fun hc => ?_) (fun hc => ?_))
      | refine Nx.zx ?_ | fail
    exact Nx.ret_fn rfl [_, _] ⟨B, c', p, kc, rfl, by omega, ⟨hpa, fun x hx => by have := hpb x hx; omega⟩, hkc, rfl⟩ (by (exact Ent.auto))
  repeat' first
    | ((with_reducible refine Nx.is_wp ?_); first | refine Nx.wo ?_ | refine Nx.zp (fun hc => ?_) (fun hc => ?_))
    | (refine Nx.zo ?_; first | refine Nx.opr rfl rfl ?_ | (refine Nx.call rfl rfl rfl (by kernel_rfl) rfl (Next_any b A c L kc 3 I hL hkc (by omega)) (by (exact Ent.auto)) ?_; rintro _ _ ⟨r, k3, rfl, hr, hk3, rfl⟩) | refine Nx.so ?_ | refine Nx.sb (fun bx => ?_) | refine Nx.sa (fun A2 c2 => ?_))
    | ((with_reducible refine Nx.is_at ?_); first | refine Nx.a ?_ | refine Nx.zd ?_ | refine Nx.zs (fun hc => ?_) (fun hc => ?_))
    | ((with_reducible refine Nx.is_mix ?_); first | refine Nx.m ?_ | refine Nx.zm ?_ | refine Nx.zt (fun hc => ?_) (fun hc => ?_))
    | refine Nx.zx ?_ | fail
  · refine Nx.again (i + 1, k3, A2, c2, p ++ [(i : Int)]) ⟨hin, hk3, by dsimp only; rw [List.length_append]; show p.length + 1 ≤ _; omega, List.pairwise_append.2 ⟨hpa, List.pairwise_singleton _ _, fun a ha b hb => by rw [List.mem_singleton.1 hb]; exact (hpb a ha).2⟩, fun x hx => by
      dsimp only at hx ⊢
      rcases List.mem_append.1 hx with hx | hx
      · have := hpb x hx; omega
      · rw [List.mem_singleton.1 hx]; omega⟩ (by dsimp only; omega) ⟨rfl, rfl, by dsimp only; rw [List.length_append]; rfl, rfl, trivial⟩ (by dsimp only; unfold iR; rw [List.length_append, List.map_append]; (exact Ent.auto))
  · exact Nx.again (i + 1, k3, B, c', p) ⟨hin, hk3, by dsimp only; omega, hpa, fun x hx => by have := hpb x hx; dsimp only; omega⟩ (by dsimp only; omega) ⟨rfl, rfl, rfl, rfl, trivial⟩ (by (exact Ent.auto))
end Go.Proofs.YtjnhoemgceghlaaGreat
/- Contracts of functions of the given program, and lemmas about plain lists and numbers: what the laws of this seat lean on. -/
namespace Go.Proofs.YtjnhoemgceghlaaGreat
open Go.Eng Go.Sol
attribute [local irreducible] opK wpList Code.wp Exit.then Exit.inBlock fnPost bodyPost Nx Calls Oper.wp Rd Rds Wr Ent Stars Blk Again Vec FnSpec wpMix QRun Stop Upto wpAt
/-! Fewer equations -/
theorem EqsOk.take {N : Nat} {t : List Int} {most : Int} {qs : List EqR} (h : EqsOk N t most qs) (k : Nat) : EqsOk N t most (qs.take k) :=
  ⟨h.n, h.len, h.tab, by have := h.few; rw [List.length_take]; omega, fun q hq => h.good q (List.mem_of_mem_take hq), fun q hq => h.sum q (List.mem_of_mem_take hq)⟩
theorem Eqs.take {I : PH} {A : Option Addr} {c : Nat} {l : List EqR} (h : Eqs I A c l) (k : Nat) : Eqs I A c (l.take k) := by
  refine ⟨⟨fun j u hj => ?_, by have := h.outer.cap; rw [List.length_take]; omega, h.outer.max, fun x hx => h.outer.cells x (List.mem_of_mem_take hx)⟩, fun q hq => h.inner q (List.mem_of_mem_take hq)⟩
  refine h.outer.arr j u ?_
  have e : l.flatMap eqC = (l.take k).flatMap eqC ++ (l.drop k).flatMap eqC := by rw [← List.flatMap_append, List.take_append_drop]
  rw [e, List.getElem?_append_left (List.getElem?_eq_some_iff.1 hj).1]
  exact hj
end Go.Proofs.YtjnhoemgceghlaaGreat
/- Contracts of functions of the given program, and lemmas about plain lists and numbers: what the laws of this seat lean on. -/
namespace Go.Proofs.YtjnhoemgceghlaaGreat
open Go.Eng Go.Sol
attribute [local irreducible] opK wpList Code.wp Exit.then Exit.inBlock fnPost bodyPost Nx Calls Oper.wp Rd Rds Wr Ent Stars Blk Again Vec FnSpec wpMix QRun Stop Upto wpAt
/-! Plain: a further release -/
theorem getD_appR {rs : List Rel} {r : Rel} {i : Nat} (h : i < rs.length) : (rs ++ [r]).getD i default = rs.getD i default := by
  rw [List.getD_eq_getElem?_getD, List.getElem?_append_left h, ← List.getD_eq_getElem?_getD]
theorem getD_lastR {rs : List Rel} {r : Rel} : (rs ++ [r]).getD rs.length default = r := by
  rw [List.getD_eq_getElem?_getD, List.getElem?_append_right (Nat.le_refl _), Nat.sub_self]; rfl
theorem rels_snoc {l t : List Int} {rs : List Rel} {r : Rel} (h : RelsOk l t rs) (hr : RelOk l t r) (hn : r.num = rs.length) : RelsOk l t (rs ++ [r]) :=
  ⟨fun i hi => by
    by_cases hir : i < rs.length
    · rw [getD_appR hir]; exact h.each i hir
    · rw [List.length_append, List.length_singleton] at hi
      obtain rfl : i = rs.length := by omega
      rw [getD_lastR]
      exact ⟨hr, hn⟩⟩
theorem views_of {l t : List Int} {rs : List Rel} (h : RelsOk l t rs) : ∀ r ∈ rs, Viewed l r.v := fun r hr => by
  obtain ⟨i, hi, he⟩ := List.mem_iff_getElem.1 hr
  have := (h.each i hi).1.view
  rwa [List.getD_eq_getElem?_getD, List.getElem?_eq_getElem hi, show (some rs[i]).getD default = r from he] at this
/-- The reaches from releases of a table: refused, or a table agrees. -/
theorem rch_made {l t : List Int} {rs : List Rel} (hs : Sizes l) (hT : tabOk l t 2) (h : RelsOk l t rs) (hn : rs.length ≤ 24) : relsE l rs = 0 ∧ rchD l rs = reachR (prod l) (qsOf l rs) ∧ ((rchD l rs).2 = 0 ∨ (rchD l rs).2 = 1) := by
  have hV := relsV_of hs hT (by decide) (by decide) h hn
  have h0 := (relsE_iff hs (views_of h)).2 hV
  have he : rchD l rs = reachR (prod l) (qsOf l rs) := by unfold rchD; rw [if_pos h0]
  refine ⟨h0, he, ?_⟩
  rw [he]
  have hz := size_ok hs
  have hg := told_good hs hV
  have hchk := chk_of (N := (prod l).toNat) (qs := qsOf l rs) (by omega) (hV.qlen hs) hg
  rw [hz.2.2] at hchk
  unfold reachR
  by_cases hc : chkQ (prod l) (qsOf l rs) = 0
  · rw [if_pos hc]
    have hne : solsOf (prod l).toNat (eqns (qsOf l rs)) ≠ [] := fun hb => by
      have hw := want_sol (t := t) hg (fun c _ => by
        by_cases hct : c < t.length
        · have := hT.2 c hct
          show 0 ≤ t.getD c default ∧ t.getD c default ≤ 1000000
          omega
        · rw [getD_ge (by omega)]; decide) fun q hq => by
          obtain ⟨p, hp, rfl⟩ := List.mem_map.1 hq
          exact (told_eq (q := canonE p) hs hT (by decide) (by decide) h hn hp).2
      rw [hb] at hw; cases hw
    rw [if_neg hne]
    exact .inl rfl
  · rw [if_neg hc]
    right
    show chkQ (prod l) (qsOf l rs) = 1
    split at hchk
    · exact hchk
    · exact absurd hchk hc
theorem chkD_made {l t : List Int} {rs : List Rel} {prot : List Int} {m : Int} (hs : Sizes l) (hT : tabOk l t 2) (h : RelsOk l t rs) (hn : rs.length ≤ 24) (hm : 1 ≤ m ∧ m ≤ 100) (hpa : prot.Pairwise (· < ·)) (hpb : ∀ x ∈ prot, 0 ≤ x ∧ x < prod l) : chkD l rs prot m = 0 := by
  obtain ⟨h0, _, _⟩ := rch_made hs hT h hn
  unfold chkD
  rw [if_neg (by omega), if_neg (by omega), if_neg, if_pos hpa]
  intro ha
  obtain ⟨x, hx, hb⟩ := List.any_eq_true.1 ha
  have := hpb x hx
  unfold outP at hb
  rw [decide_eq_true_eq] at hb
  omega
theorem findD_made {l t : List Int} {rs : List Rel} {prot : List Int} {m : Int} (hs : Sizes l) (hT : tabOk l t 2) (h : RelsOk l t rs) (hn : rs.length ≤ 24) (hm : 1 ≤ m ∧ m ≤ 100) (hpa : prot.Pairwise (· < ·)) (hpb : ∀ x ∈ prot, 0 ≤ x ∧ x < prod l) :
    findD l rs prot m = if (rchD l rs).2 ≠ 0 then ([], (rchD l rs).2) else (exOf (rchD l rs).1 prot m, 0) := by
  unfold findD
  rw [if_neg (by rw [chkD_made hs hT h hn hm hpa hpb]; decide)]
end Go.Proofs.YtjnhoemgceghlaaGreat
/- Contracts of functions of the given program, and lemmas about plain lists and numbers: what the laws of this seat lean on. -/
namespace Go.Proofs.YtjnhoemgceghlaaGreat
open Go.Eng Go.Sol
attribute [local irreducible] opK wpList Code.wp Exit.then Exit.inBlock fnPost bodyPost Nx Calls Oper.wp Rd Rds Wr Ent Stars Blk Again Vec FnSpec wpMix QRun Stop Upto wpAt
attribute [local irreducible] wpFork
theorem rel_one (l : List Rel) : ∀ u ∈ l.flatMap relC, u.oneCell' = true := fun u hu => by
  obtain ⟨x, _, hx⟩ := List.mem_flatMap.1 hu
  simp only [relC, List.mem_cons, List.not_mem_nil, or_false] at hx
  rcases hx with rfl | rfl | rfl <;> rfl
end Go.Proofs.YtjnhoemgceghlaaGreat
/- Contracts of functions of the given program, and lemmas about plain lists and numbers: what the laws of this seat lean on. -/
namespace Go.Proofs.YtjnhoemgceghlaaGreat
open Go.Eng Go.Sol
attribute [local irreducible] opK wpList Code.wp Exit.then Exit.inBlock fnPost bodyPost Nx Calls Oper.wp Rd Rds Wr Ent Stars Blk Again Vec FnSpec wpMix QRun Stop Upto wpAt
/-! Lists of releases: cloned, one deleted -/
abbrev rlR (A : Option Addr) (c : Nat) (rs : List Rel) : Res := Vec 43 3 A rs.length c (rs.flatMap relC)
set_option maxHeartbeats 8000000 in
set_option maxRecDepth 10000 in
theorem CloneR_spec (A : Option Addr) (c : Nat) (l : List Rel) (I : PH) (hl : SliceN relC 3 I A c l) (h9 : l.length ≤ 1000000) :
    FnSpec Tryz.prog 59 [.slice A l.length c] I [] (fun v R' => ∃ A' c', v = .slice A' l.length c' ∧ R' = [rlR A' c' l]) := by
  cases A with
  | none =>
    have h0 : l = [] := by
      rcases Nat.eq_zero_or_pos l.length with h | h
      · exact List.eq_nil_of_length_eq_zero h
      · have := hl.isSome h (by decide); cases this
    subst h0
    refine FnSpec.enterP Tryz.func59 rfl Tryz.ntmps59 rfl fun w F => ?_
    repeat' first
      | ((with_reducible refine Nx.is_wp ?_); first | refine Nx.wo ?_ | refine Nx.zp (fun hc => ?_) (fun hc => ?_))
      | (refine Nx.zo ?_; first | refine Nx.opr rfl rfl ?_ | refine Nx.so ?_ | refine Nx.sb (fun bx => ?_) | refine Nx.sa (fun A2 c2 => ?_))
      | ((with_reducible refine Nx.is_at ?_); first | refine Nx.a ?_ | refine Nx.zd ?_ | refine Nx.zs (fun hc => ?_) (fun hc => ?_))
      | ((with_reducible refine Nx.is_mix ?_); first | refine Nx.m ?_ | refine Nx.zm ?_ | refine Nx.zt (fun hc => ?_) (fun hc => ?_))
      | refine Nx.zx ?_ | fail
    refine Nx.ret_fn rfl [rlR none 0 []] ⟨none, 0, rfl, rfl⟩ (Ent.vec_nil _ _ _)
  | some a =>
    refine FnSpec.enterP Tryz.func59 rfl Tryz.ntmps59 rfl fun w F => ?_
    repeat' first
      | ((with_reducible refine Nx.is_wp ?_); first | refine Nx.wo ?_ | refine Nx.zp (fun hc => ?_) (fun hc => ?_))
      | (refine Nx.zo ?_; first | refine Nx.opr rfl rfl ?_ | refine Nx.so ?_ | refine Nx.sb (fun bx => ?_) | refine Nx.sa (fun A2 c2 => ?_))
      | ((with_reducible refine Nx.is_at ?_); first | refine Nx.a ?_ | refine Nx.zd ?_ | refine Nx.zs (fun hc => ?_) (fun hc => ?_))
      | ((with_reducible refine Nx.is_mix ?_); first | refine Nx.m ?_ | refine Nx.zm ?_ | refine Nx.zt (fun hc => ?_) (fun hc => ?_))
      | refine Nx.zx ?_ | fail
    refine Nx.blk_vec 0 0 3 rfl rfl (by omega) ?_
    refine Nx.at_op rfl rfl ?_
    refine Nx.append rfl rfl rfl rfl (by kernel_rfl) rfl (Src.arr hl.arr (flat_len relC_len l) (by omega) (rel_one l)) (by omega) fun A' c' => ?_
    rw [Nat.zero_add, List.nil_append]
    repeat' first
      | ((with_reducible refine Nx.is_wp ?_); first | refine Nx.wo ?_ | refine Nx.zp (fun hc => ?_) (fun hc => ?_))
      | (refine Nx.zo ?_; first | refine Nx.opr rfl rfl ?_ | refine Nx.so ?_ | refine Nx.sb (fun bx => ?_) | refine Nx.sa (fun A2 c2 => ?_))
      | ((with_reducible refine Nx.is_at ?_); first | refine Nx.a ?_ | refine Nx.zd ?_ | refine Nx.zs (fun hc => ?_) (fun hc => ?_))
      | ((with_reducible refine Nx.is_mix ?_); first | refine Nx.m ?_ | refine Nx.zm ?_ | refine Nx.zt (fun hc => ?_) (fun hc => ?_))
      | refine Nx.zx ?_ | fail
    exact Nx.ret_fn rfl [_] ⟨A', c', rfl, rfl⟩ (by unfold rlR; (exact Ent.auto))
end Go.Proofs.YtjnhoemgceghlaaGreat
/- Contracts of functions of the given program, and lemmas about plain lists and numbers: what the laws of this seat lean on. -/
namespace Go.Proofs.YtjnhoemgceghlaaGreat
open Go.Eng Go.Sol
attribute [local irreducible] opK wpList Code.wp Exit.then Exit.inBlock fnPost bodyPost Nx Calls Oper.wp Rd Rds Wr Ent Stars Blk Again Vec FnSpec wpMix QRun Stop Upto wpAt
/-! Safe, Witness -/
def safeB (l : List Int) (rs : List Rel) (prot : List Int) (m : Int) : Bool := decide ((findD l rs prot m).2 = 0) && decide ((findD l rs prot m).1.length = 0)
set_option maxRecDepth 10000 in
set_option maxHeartbeats 4000000 in
theorem Safe_spec (A As Ap : Option Addr) (c cs cp : Nat) (l : List Int) (rs : List Rel) (prot : List Int) (m : Int) (I : PH) (hl : Ints I A c l) (hs : Sizes l) (hr : Rels I As cs rs) (hw : ∀ r ∈ rs, Viewed l r.v) (hp : Ints I Ap cp prot) (hp9 : prot.length ≤ 1000000) :
    FnSpec Tryz.prog 35 [.agg #[.slice A l.length c], .slice As rs.length cs, .slice Ap prot.length cp, .int .i64 m] I []
      (fun u R' => u = .tuple #[.bool (safeB l rs prot m), .int .i64 (findD l rs prot m).2] ∧ R' = []) := by
  have hF := find_spec A As Ap c cs cp l rs prot m I hl hs hr hw hp hp9
  unfold safeB
  generalize findD l rs prot m = fq at hF
  obtain ⟨base, er⟩ := fq
  dsimp only at hF ⊢
  refine FnSpec.enterP Tryz.func35 rfl Tryz.ntmps35 rfl fun w F => ?_
  by_cases h0 : er = 0
  · subst h0
    rw [decide_eq_true rfl, Bool.true_and]
    repeat' first
      | ((with_reducible refine Nx.is_wp ?_); first | refine Nx.wo ?_ | refine Nx.zp (fun hc => ?_) (fun hc => ?_))
      | (refine Nx.zo ?_; first | refine Nx.opr rfl rfl ?_ | (refine Nx.call (Rpre := []) rfl rfl rfl (by kernel_rfl) rfl hF (Ent.refl _) ?_; rintro _ _ ⟨Ao, co, rfl, rfl⟩) | refine Nx.so ?_ | refine Nx.sb (fun bx => ?_) | refine Nx.sa (fun A2 c2 => ?_))
      | ((with_reducible refine Nx.is_at ?_); first | refine Nx.a ?_ | refine Nx.zd ?_ | refine Nx.zs (fun hc => ?_) (fun hc => ?_))
      | ((with_reducible refine Nx.is_mix ?_); first | refine Nx.m ?_ | refine Nx.zm ?_ | refine Nx.zt (fun hc => ?_) (fun hc => ?_))
      | refine Nx.zx ?_ | fail
    exact Nx.ret_fn rfl [] ⟨by rw [show decide ((base.length : Int) = 0) = decide (base.length = 0) from decide_eq_decide.2 (by omega)], rfl⟩ (by (exact Ent.auto))
  · rw [decide_eq_false h0, Bool.false_and]
    repeat' first
      | ((with_reducible refine Nx.is_wp ?_); first | refine Nx.wo ?_ | refine Nx.zp (fun hc => ?_) (fun hc => ?_))
      | (refine Nx.zo ?_; first | refine Nx.opr rfl rfl ?_ | (refine Nx.call (Rpre := []) rfl rfl rfl (by kernel_rfl) rfl hF (Ent.refl _) ?_; rintro _ _ ⟨Ao, co, rfl, rfl⟩) | refine Nx.so ?_ | refine Nx.sb (fun bx => ?_) | refine Nx.sa (fun A2 c2 => ?_))
      | ((with_reducible refine Nx.is_at ?_); first | refine Nx.a ?_ | refine Nx.zd ?_ | refine Nx.zs (fun hc => ?_) (fun hc => ?_))
      | ((with_reducible refine Nx.is_mix ?_); first | refine Nx.m ?_ | refine Nx.zm ?_ | refine Nx.zt (fun hc => ?_) (fun hc => ?_))
      | refine Nx.zx ?_ | fail
    exact Nx.ret_fn rfl [] ⟨rfl, rfl⟩ (by (exact Ent.auto))
end Go.Proofs.YtjnhoemgceghlaaGreat
/- Contracts of functions of the given program, and lemmas about plain lists and numbers: what the laws of this seat lean on. -/
namespace Go.Proofs.YtjnhoemgceghlaaGreat
open Go.Eng Go.Sol
attribute [local irreducible] opK wpList Code.wp Exit.then Exit.inBlock fnPost bodyPost Nx Calls Oper.wp Rd Rds Wr Ent Stars Blk Again Vec FnSpec wpMix QRun Stop Upto wpAt
/-! The reference of differencing: Safe, Exposed -/
theorem drop_atI {l : List Int} {k : Nat} (hk : k < l.length) : l.drop k = l.getD k default :: l.drop (k + 1) := by
  rw [List.drop_eq_getElem_cons hk, List.getD_eq_getElem?_getD, List.getElem?_eq_getElem hk]; rfl
end Go.Proofs.YtjnhoemgceghlaaGreat
/-
  The proof engine, part AT: a part of an owned list as what is appended.
-/
namespace Go.Eng
theorem Src.part {W : World} {I : PH} {R : List Res} {el : TypeId} {A : Option Addr} {n c sz i k : Nat} {xs ys : List Value} (q : Nat) (hq : nthL R q = some (Vec el sz A n c xs)) (hA : 0 < k → A.isSome = true) (hik : 0 < k → i < c) (hy : (xs.drop (i * sz)).take (k * sz) = ys) (hl : ys.length = k * sz) (h1 : ∀ u ∈ xs, u.oneCell' = true) : Src W I R (offA A c i sz) k sz ys := by
  refine ⟨hl, fun b hb => ?_, fun hb => ?_, fun u hu => ?_⟩
  · rcases Nat.eq_zero_or_pos k with h0 | h0
    · subst h0
      rw [Nat.zero_mul] at hl
      have := List.eq_nil_of_length_eq_zero hl
      rw [this]
      intro j u hj
      cases hj
    · have hc := hik h0
      unfold offA at hb
      rw [if_neg (by omega)] at hb
      obtain ⟨a, rfl⟩ := Option.isSome_iff_exists.1 (hA h0)
      cases hb
      intro j u hj
      rw [Addr.add_add]
      subst hy
      rw [List.getElem?_take] at hj
      split at hj
      · rw [List.getElem?_drop] at hj
        exact Rd.vecAt q hq (by rw [nthL_eq]; exact hj)
      · cases hj
  · rcases Nat.eq_zero_or_pos k with h0 | h0
    · exact h0
    · exfalso
      have hc := hik h0
      unfold offA at hb
      rw [if_neg (by omega)] at hb
      obtain ⟨a, rfl⟩ := Option.isSome_iff_exists.1 (hA h0)
      cases hb
  · subst hy
    exact h1 u (List.mem_of_mem_drop (List.mem_of_mem_take hu))
end Go.Eng
/- Contracts of functions of the given program, and lemmas about plain lists and numbers: what the laws of this seat lean on. -/
namespace Go.Proofs.YtjnhoemgceghlaaGreat
open Go.Eng Go.Sol
attribute [local irreducible] opK wpList Code.wp Exit.then Exit.inBlock fnPost bodyPost Nx Calls Oper.wp Rd Rds Wr Ent Stars Blk Again Vec FnSpec wpMix QRun Stop Upto wpAt
/-! Sets of bits as lists, weights -/
def bitsL (s n : Nat) : List Int := ((List.range n).filter (fun k => s.testBit k)).map (fun k : Nat => (k : Int))
theorem bitsL_succ (s n : Nat) : bitsL s (n + 1) = bitsL s n ++ if s.testBit n = true then [(n : Int)] else [] := by
  unfold bitsL
  rw [List.range_succ, List.filter_append, List.map_append]
  congr 1
  by_cases h : s.testBit n = true
  · rw [if_pos h, List.filter_cons_of_pos h, List.filter_nil]; rfl
  · rw [if_neg h, List.filter_cons_of_neg h, List.filter_nil]; rfl
theorem bitsL_same {s n : Nat} (h : s < 2 ^ n) : ∀ m, bitsL s (n + m) = bitsL s n
  | 0 => rfl
  | m + 1 => by
    rw [← Nat.add_assoc, bitsL_succ, bitsL_same h m, if_neg, List.append_nil]
    rw [Nat.testBit_lt_two_pow (Nat.lt_of_lt_of_le h (Nat.pow_le_pow_right (by decide) (by omega)))]
    decide
theorem bitsL_len (s n : Nat) : (bitsL s n).length ≤ n := by
  unfold bitsL
  rw [List.length_map]
  exact Nat.le_trans (List.length_filter_le _ _) (by simp)
theorem bitsL_mem {s n : Nat} {x : Int} : x ∈ bitsL s n ↔ ∃ k : Nat, x = k ∧ k < n ∧ s.testBit k = true := by
  unfold bitsL
  simp only [List.mem_map, List.mem_filter, List.mem_range]
  constructor
  · rintro ⟨k, ⟨h1, h2⟩, rfl⟩; exact ⟨k, rfl, h1, h2⟩
  · rintro ⟨k, rfl, h1, h2⟩; exact ⟨k, ⟨h1, h2⟩, rfl⟩
theorem run_andI {P : Program} {t : TypeId} {x y : Operand} {a q : Nat} (ha : a < 64) (hq : q = a % 2) : pureRun P (do eqGuard .and t x y (.int .i64 (a : Int)) (.int .i64 1); binOp .and t (.int .i64 (a : Int)) (.int .i64 1)) = some (.int .i64 (q : Int)) := by
  subst hq
  have h : (BitVec.ofInt 64 (a : Int) &&& BitVec.ofInt 64 (1 : Int)) = BitVec.ofInt 64 ((a % 2 : Nat) : Int) := by
    apply BitVec.eq_of_toNat_eq
    rw [BitVec.toNat_and, show ((1 : Int) = ((1 : Nat) : Int)) from rfl, ofInt_nat (by omega), ofInt_nat (by omega), ofInt_nat (by omega), Nat.and_one_is_mod]
  have h2 : a % 2 = 0 ∨ a % 2 = 1 := by omega
  generalize a % 2 = q at h h2
  have h3 : pureRun P (do eqGuard .and t x y (.int .i64 (a : Int)) (.int .i64 1); binOp .and t (.int .i64 (a : Int)) (.int .i64 1)) = some (.int .i64 (IntKind.i64.wrap ((BitVec.ofInt 64 (a : Int) &&& BitVec.ofInt 64 (1 : Int)).toNat))) := rfl
  rw [h3, h]
  rcases h2 with rfl | rfl <;> rfl
theorem run_shrK {P : Program} {t : TypeId} {x y : Operand} {k : IntKind} {a n q : Nat} {z : Int} (hz : z = (n : Int)) (hn : n ≤ 64) (hq : q = a / 2 ^ n) : pureRun P (do eqGuard .shr t x y (.int .i64 (a : Int)) (.int k z); binOp .shr t (.int .i64 (a : Int)) (.int k z)) = some (.int .i64 (q : Int)) := by
  rw [hz, run_shrI hn, hq, Int.natCast_ediv, Int.natCast_pow]; rfl
theorem run_shlK {P : Program} {t : TypeId} {x y : Operand} {n p : Nat} {z : Int} {k : IntKind} (hk : k = .i64 ∨ k = .u64) (hz : z = (n : Int)) (hn : n ≤ 6) (hp : p = 2 ^ n) : pureRun P (do eqGuard .shl t x y (.int .i64 1) (.int k z); binOp .shl t (.int .i64 1) (.int k z)) = some (.int .i64 (p : Int)) := by
  subst hz hp
  have : n = 0 ∨ n = 1 ∨ n = 2 ∨ n = 3 ∨ n = 4 ∨ n = 5 ∨ n = 6 := by omega
  rcases hk with rfl | rfl <;> rcases this with rfl | rfl | rfl | rfl | rfl | rfl | rfl <;> rfl
theorem bit_mod (s k : Nat) : s.testBit k = true ↔ s / 2 ^ k % 2 = 1 := by rw [Nat.testBit_eq_decide_div_mod_eq, decide_eq_true_eq]
set_option maxRecDepth 10000 in
set_option maxHeartbeats 4000000 in
theorem list_spec (s : Nat) (hs : s < 64) (I : PH) : FnSpec Tryz.prog 39 [.int .i64 (s : Int)] I [] (fun u R' => ∃ (A' : Option Addr) (c' : Nat), u = .slice A' (bitsL s 6).length c' ∧ R' = [iR A' c' (bitsL s 6)]) := by
  refine FnSpec.enterP Tryz.func39 rfl Tryz.ntmps39 rfl fun w F => ?_
  repeat' first
    | ((with_reducible refine Nx.is_wp ?_); first | refine Nx.wo ?_ | refine Nx.zp (fun hc => ?_) (fun hc => ?_))
    | (refine Nx.zo ?_; first | refine Nx.opr rfl rfl ?_ | refine Nx.so ?_ | refine Nx.sb (fun bx => ?_) | refine Nx.sa (fun A2 c2 => ?_))
    | ((with_reducible refine Nx.is_at ?_); first | refine Nx.a ?_ | refine Nx.zd ?_ | refine Nx.zs (fun hc => ?_) (fun hc => ?_))
    | ((with_reducible refine Nx.is_mix ?_); first | refine Nx.m ?_ | refine Nx.zm ?_ | refine Nx.zt (fun hc => ?_) (fun hc => ?_))
    | refine Nx.zx ?_ | fail
  refine Nx.p_loop (σ := Nat × Option Addr × Nat) (fun q => [(0, .int .i64 (s : Int)), (3, .slice q.2.1 (bitsL s q.1).length q.2.2), (4, .int .i64 (q.1 : Int))])
    (fun q => [iR q.2.1 q.2.2 (bitsL s q.1), F]) (fun q => q.1 ≤ 6) (fun q => 6 - q.1) (0, none, 0) rfl (Nat.zero_le _) ⟨rfl, rfl, rfl, trivial⟩ ((Ent.vec_nil 3 1 _).trans (by (exact Ent.auto))) ?_
  rintro ⟨k, A', c'⟩ hk
  dsimp only at hk ⊢
  obtain ⟨d, hd⟩ : ∃ d, d = s / 2 ^ k := ⟨_, rfl⟩
  by_cases h0 : d = 0
  · subst h0
    have hlt : s < 2 ^ k := by
      rcases Nat.lt_or_ge s (2 ^ k) with h | h
      · exact h
      · have := Nat.div_pos h (Nat.two_pow_pos k); omega
    have := bitsL_same hlt (6 - k)
    rw [show k + (6 - k) = 6 by omega] at this
    rw [← this]
    repeat' first
      | ((with_reducible refine Nx.is_wp ?_); first | refine Nx.wo ?_ | refine Nx.zp (fun hc => ?_) (fun hc => ?_))
      | (refine Nx.zo ?_; first | refine Nx.opr rfl rfl ?_ | refine Nx.bin rfl rfl (run_shrK (n := k) rfl (by omega) hd) rfl ?_ | refine Nx.so ?_ | refine Nx.sb (fun bx => ?_) | refine Nx.sa (fun A2 c2 => ?_))
      | ((with_reducible refine Nx.is_at ?_); first | refine Nx.a ?_ | refine Nx.zd ?_ | refine Nx.zs (fun hc => ?_) (fun hc => ?_))
      | ((with_reducible refine Nx.is_mix ?_); first | refine Nx.m ?_ | refine Nx.zm ?_ | refine Nx.zt (fun hc => ?_) (fun hc => ?_))
      | refine Nx.zx ?_ | fail
    exact Nx.ret_fn rfl [_] ⟨A', c', rfl, rfl⟩ (by (exact Ent.auto))
  have hd64 : d < 64 := Nat.lt_of_le_of_lt (by rw [hd]; exact Nat.div_le_self _ _) hs
  have hk6 : k < 6 := by
    rcases Nat.lt_or_ge k 6 with h | h
    · exact h
    · have : k = 6 := by omega
      subst this
      have : s / 2 ^ 6 = 0 := Nat.div_eq_of_lt hs
      omega
  have hsn := bitsL_succ s k
  have hbm := bit_mod s k
  have hln := bitsL_len s k
  rw [← hd] at hbm
  obtain ⟨b, hb⟩ : ∃ b, b = d % 2 := ⟨_, rfl⟩
  rw [← hb] at hbm
  by_cases h1 : b = 1
  · rw [if_pos (hbm.2 h1)] at hsn
    subst h1
    repeat' first
      | ((with_reducible refine Nx.is_wp ?_); first | refine Nx.wo ?_ | refine Nx.zp (fun hc => ?_) (fun hc => ?_))
      | (refine Nx.zo ?_; first | refine Nx.opr rfl rfl ?_ | refine Nx.bin rfl rfl (run_shrK (n := k) rfl (by omega) hd) rfl ?_ | refine Nx.bin rfl rfl (run_andI hd64 hb) rfl ?_ | refine Nx.so ?_ | refine Nx.sb (fun bx => ?_) | refine Nx.sa (fun A2 c2 => ?_))
      | ((with_reducible refine Nx.is_at ?_); first | refine Nx.a ?_ | refine Nx.zd ?_ | refine Nx.zs (fun hc => ?_) (fun hc => ?_))
      | ((with_reducible refine Nx.is_mix ?_); first | refine Nx.m ?_ | refine Nx.zm ?_ | refine Nx.zt (fun hc => ?_) (fun hc => ?_))
      | refine Nx.zx ?_ | fail
    exact Nx.again (k + 1, A2, c2) hk6 (by dsimp only; omega) ⟨rfl, by dsimp only; rw [hsn, List.length_append]; rfl, rfl, trivial⟩ (by dsimp only; rw [hsn]; unfold iR; rw [List.length_append, List.map_append]; (exact Ent.auto))
  · rw [if_neg fun h => h1 (hbm.1 h), List.append_nil] at hsn
    repeat' first
      | ((with_reducible refine Nx.is_wp ?_); first | refine Nx.wo ?_ | refine Nx.zp (fun hc => ?_) (fun hc => ?_))
      | (refine Nx.zo ?_; first | refine Nx.opr rfl rfl ?_ | refine Nx.bin rfl rfl (run_shrK (n := k) rfl (by omega) hd) rfl ?_ | refine Nx.bin rfl rfl (run_andI hd64 hb) rfl ?_ | refine Nx.so ?_ | refine Nx.sb (fun bx => ?_) | refine Nx.sa (fun A2 c2 => ?_))
      | ((with_reducible refine Nx.is_at ?_); first | refine Nx.a ?_ | refine Nx.zd ?_ | refine Nx.zs (fun hc => ?_) (fun hc => ?_))
      | ((with_reducible refine Nx.is_mix ?_); first | refine Nx.m ?_ | refine Nx.zm ?_ | refine Nx.zt (fun hc => ?_) (fun hc => ?_))
      | refine Nx.zx ?_ | fail
    exact Nx.again (k + 1, A', c') hk6 (by dsimp only; omega) ⟨rfl, by dsimp only; rw [hsn]; rfl, rfl, trivial⟩ (by dsimp only; rw [hsn]; (exact Ent.auto))
set_option maxRecDepth 10000 in
set_option maxHeartbeats 4000000 in
theorem Set_spec (s n : Nat) (hs : s < 64) (hn : n ≤ 6) (I : PH) : FnSpec Tryz.prog 14 [.int .i64 (s : Int), .int .i64 (n : Int)] I [] (fun u R' => ∃ (A' : Option Addr) (c' : Nat), u = .slice A' (bitsL s n).length c' ∧ R' = [iR A' c' (bitsL s n)]) := by
  refine FnSpec.enterP Tryz.func14 rfl Tryz.ntmps14 rfl fun w F => ?_
  repeat' first
    | ((with_reducible refine Nx.is_wp ?_); first | refine Nx.wo ?_ | refine Nx.zp (fun hc => ?_) (fun hc => ?_))
    | (refine Nx.zo ?_; first | refine Nx.opr rfl rfl ?_ | refine Nx.so ?_ | refine Nx.sb (fun bx => ?_) | refine Nx.sa (fun A2 c2 => ?_))
    | ((with_reducible refine Nx.is_at ?_); first | refine Nx.a ?_ | refine Nx.zd ?_ | refine Nx.zs (fun hc => ?_) (fun hc => ?_))
    | ((with_reducible refine Nx.is_mix ?_); first | refine Nx.m ?_ | refine Nx.zm ?_ | refine Nx.zt (fun hc => ?_) (fun hc => ?_))
    | refine Nx.zx ?_ | fail
  refine Nx.p_loop (σ := Nat × Option Addr × Nat) (fun q => [(0, .int .i64 (s : Int)), (1, .int .i64 (n : Int)), (5, .slice q.2.1 (bitsL s q.1).length q.2.2), (6, .int .i64 (q.1 : Int))])
    (fun q => [iR q.2.1 q.2.2 (bitsL s q.1), F]) (fun q => q.1 ≤ n) (fun q => n - q.1) (0, none, 0) rfl (Nat.zero_le _) ⟨rfl, rfl, rfl, rfl, trivial⟩ ((Ent.vec_nil 3 1 _).trans (by (exact Ent.auto))) ?_
  rintro ⟨k, A', c'⟩ hk
  dsimp only at hk ⊢
  by_cases hkn : k < n
  case neg =>
    obtain rfl : k = n := by omega
    repeat' first
      | ((with_reducible refine Nx.is_wp ?_); first | refine Nx.wo ?_ | refine Nx.zp (fun hc => ?_) (fun hc => ?_))
      | (refine Nx.zo ?_; first | refine Nx.opr rfl rfl ?_ | refine Nx.so ?_ | refine Nx.sb (fun bx => ?_) | refine Nx.sa (fun A2 c2 => ?_))
      | ((with_reducible refine Nx.is_at ?_); first | refine Nx.a ?_ | refine Nx.zd ?_ | refine Nx.zs (fun hc => ?_) (fun hc => ?_))
      | ((with_reducible refine Nx.is_mix ?_); first | refine Nx.m ?_ | refine Nx.zm ?_ | refine Nx.zt (fun hc => ?_) (fun hc => ?_))
      | refine Nx.zx ?_ | fail
    exact Nx.ret_fn rfl [_] ⟨A', c', rfl, rfl⟩ (by (exact Ent.auto))
  obtain ⟨d, hd⟩ : ∃ d, d = s / 2 ^ k := ⟨_, rfl⟩
  have hd64 : d < 64 := Nat.lt_of_le_of_lt (by rw [hd]; exact Nat.div_le_self _ _) hs
  have hsn := bitsL_succ s k
  have hbm := bit_mod s k
  have hln := bitsL_len s k
  rw [← hd] at hbm
  obtain ⟨b, hb⟩ : ∃ b, b = d % 2 := ⟨_, rfl⟩
  rw [← hb] at hbm
  by_cases h1 : b = 1
  · rw [if_pos (hbm.2 h1)] at hsn
    subst h1
    repeat' first
      | ((with_reducible refine Nx.is_wp ?_); first | refine Nx.wo ?_ | refine Nx.zp (fun hc => ?_) (fun hc => ?_))
      | (refine Nx.zo ?_; first | refine Nx.opr rfl rfl ?_ | refine Nx.bin rfl rfl (run_shrK (n := k) rfl (by omega) hd) rfl ?_ | refine Nx.bin rfl rfl (run_andI hd64 hb) rfl ?_ | refine Nx.so ?_ | refine Nx.sb (fun bx => ?_) | refine Nx.sa (fun A2 c2 => ?_))
      | ((with_reducible refine Nx.is_at ?_); first | refine Nx.a ?_ | refine Nx.zd ?_ | refine Nx.zs (fun hc => ?_) (fun hc => ?_))
      | ((with_reducible refine Nx.is_mix ?_); first | refine Nx.m ?_ | refine Nx.zm ?_ | refine Nx.zt (fun hc => ?_) (fun hc => ?_))
      | refine Nx.zx ?_ | fail
    exact Nx.again (k + 1, A2, c2) hkn (by dsimp only; omega) ⟨rfl, rfl, by dsimp only; rw [hsn, List.length_append]; rfl, rfl, trivial⟩ (by dsimp only; rw [hsn]; unfold iR; rw [List.length_append, List.map_append]; (exact Ent.auto))
  · rw [if_neg fun h => h1 (hbm.1 h), List.append_nil] at hsn
    repeat' first
      | ((with_reducible refine Nx.is_wp ?_); first | refine Nx.wo ?_ | refine Nx.zp (fun hc => ?_) (fun hc => ?_))
      | (refine Nx.zo ?_; first | refine Nx.opr rfl rfl ?_ | refine Nx.bin rfl rfl (run_shrK (n := k) rfl (by omega) hd) rfl ?_ | refine Nx.bin rfl rfl (run_andI hd64 hb) rfl ?_ | refine Nx.so ?_ | refine Nx.sb (fun bx => ?_) | refine Nx.sa (fun A2 c2 => ?_))
      | ((with_reducible refine Nx.is_at ?_); first | refine Nx.a ?_ | refine Nx.zd ?_ | refine Nx.zs (fun hc => ?_) (fun hc => ?_))
      | ((with_reducible refine Nx.is_mix ?_); first | refine Nx.m ?_ | refine Nx.zm ?_ | refine Nx.zt (fun hc => ?_) (fun hc => ?_))
      | refine Nx.zx ?_ | fail
    exact Nx.again (k + 1, A', c') hkn (by dsimp only; omega) ⟨rfl, rfl, by dsimp only; rw [hsn]; rfl, rfl, trivial⟩ (by dsimp only; rw [hsn]; (exact Ent.auto))
/-- The weight of a set. -/
def wSum (w : List Int) (L : List Int) : Int := (L.map fun k => w.getD k.toNat default).sum
theorem wSum_snoc (w L : List Int) (x : Int) : wSum w (L ++ [x]) = wSum w L + w.getD x.toNat default := by
  unfold wSum
  rw [List.map_append, List.sum_append]
  simp
def WOk (w : List Int) : Prop := ∀ x ∈ w, 0 ≤ x ∧ x ≤ 1000
theorem wSum_bd {w : List Int} (hw : WOk w) : ∀ L : List Int, (∀ k ∈ L, 0 ≤ k ∧ k < w.length) → 0 ≤ wSum w L ∧ wSum w L ≤ 1000 * L.length
  | [], _ => by simp [wSum]
  | x :: L, h => by
    have ih := wSum_bd hw L fun k hk => h k (List.mem_cons_of_mem _ hk)
    have hx := h x List.mem_cons_self
    have : 0 ≤ w.getD x.toNat default ∧ w.getD x.toNat default ≤ 1000 := hw _ (by rw [List.getD_eq_getElem?_getD, List.getElem?_eq_getElem (by omega)]; exact List.getElem_mem _)
    have e : wSum w (x :: L) = w.getD x.toNat default + wSum w L := by unfold wSum; simp
    rw [e, List.length_cons]
    omega
set_option maxRecDepth 10000 in
set_option maxHeartbeats 4000000 in
theorem Weight_spec (A B : Option Addr) (ca cb : Nat) (w L : List Int) (I : PH) (hA : Ints I A ca w) (hB : Ints I B cb L) (hw : WOk w) (hL : ∀ k ∈ L, 0 ≤ k ∧ k < w.length) (h9 : L.length ≤ 1000) :
    FnSpec Tryz.prog 16 [.slice A w.length ca, .slice B L.length cb] I [] (fun u R' => u = .int .i64 (wSum w L) ∧ R' = []) := by
  refine FnSpec.enterP Tryz.func16 rfl Tryz.ntmps16 rfl fun w0 F => ?_
  repeat' first
    | ((with_reducible refine Nx.is_wp ?_); first | refine Nx.wo ?_ | refine Nx.zp (fun hc => ?_) (fun hc => ?_))
    | (refine Nx.zo ?_; first | refine Nx.opr rfl rfl ?_ | refine Nx.so ?_ | refine Nx.sb (fun bx => ?_) | refine Nx.sa (fun A2 c2 => ?_))
    | ((with_reducible refine Nx.is_at ?_); first | refine Nx.a ?_ | refine Nx.zd ?_ | refine Nx.zs (fun hc => ?_) (fun hc => ?_))
    | ((with_reducible refine Nx.is_mix ?_); first | refine Nx.m ?_ | refine Nx.zm ?_ | refine Nx.zt (fun hc => ?_) (fun hc => ?_))
    | refine Nx.zx ?_ | fail
  refine Nx.p_loop (σ := Nat) (fun q => [(0, .slice A w.length ca), (5, .int .i64 (wSum w (L.take q))), (8, .slice B L.length cb), (9, .int .i64 L.length), (10, .int .i64 (q : Int))])
    (fun _ => [F]) (fun q => q ≤ L.length) (fun q => L.length - q) 0 rfl (Nat.zero_le _) ⟨rfl, rfl, rfl, rfl, rfl, trivial⟩ (by (exact Ent.auto)) ?_
  intro q hq
  have hq : q ≤ L.length := hq
  by_cases hql : q < L.length
  case neg =>
    rw [List.take_of_length_le (by omega)]
    repeat' first
      | ((with_reducible refine Nx.is_wp ?_); first | refine Nx.wo ?_ | refine Nx.zp (fun hc => ?_) (fun hc => ?_))
      | (refine Nx.zo ?_; first | refine Nx.opr rfl rfl ?_ | refine Nx.so ?_ | refine Nx.sb (fun bx => ?_) | refine Nx.sa (fun A2 c2 => ?_))
      | ((with_reducible refine Nx.is_at ?_); first | refine Nx.a ?_ | refine Nx.zd ?_ | refine Nx.zs (fun hc => ?_) (fun hc => ?_))
      | ((with_reducible refine Nx.is_mix ?_); first | refine Nx.m ?_ | refine Nx.zm ?_ | refine Nx.zt (fun hc => ?_) (fun hc => ?_))
      | refine Nx.zx ?_ | fail
    exact Nx.ret_fn rfl [] ⟨rfl, rfl⟩ (by (exact Ent.auto))
  have htk := take_snocJ hql
  have hx := hL _ (getD_memI hql)
  have hbd := wSum_bd hw (L.take q) fun k hk => hL k (List.mem_of_mem_take hk)
  rw [List.length_take] at hbd
  have hsn := wSum_snoc w (L.take q) (L.getD q default)
  rw [← htk] at hsn
  have hrd : ∀ (W : World) (R : List Res), Rd W I R ((ad B).add (q * 1)) (.int .i64 (L.getD q default)) := fun W R => hB.rd hql
  generalize L.getD q default = x at hx hsn hrd
  obtain ⟨y, rfl⟩ : ∃ y : Nat, x = y := ⟨x.toNat, by omega⟩
  have hyl : y < w.length := by omega
  rw [Int.toNat_natCast] at hsn
  have hwy := hw _ (getD_memI hyl)
  have hrw : ∀ (W : World) (R : List Res), Rd W I R ((ad A).add (y * 1)) (.int .i64 (w.getD y default)) := fun W R => hA.rd hyl
  generalize w.getD y default = z at hsn hwy hrw
  generalize wSum w (L.take q) = sm at hbd hsn
  repeat' first
    | ((with_reducible refine Nx.is_wp ?_); first | refine Nx.wo ?_ | refine Nx.zp (fun hc => ?_) (fun hc => ?_))
    | (refine Nx.zo ?_; first | refine Nx.opr rfl rfl ?_ | refine Nx.indexAddr_nat (A := B) (i := q) (sz := 1) rfl rfl rfl rfl rfl hql (hB.isSome (by omega)) ?_ | refine Nx.indexAddr_nat (A := A) (i := y) (sz := 1) rfl rfl rfl rfl rfl hyl (hA.isSome (by omega)) ?_ | refine Nx.load rfl rfl rfl (hrd _ _) ?_ | refine Nx.load rfl rfl rfl (hrw _ _) ?_ | refine Nx.so ?_ | refine Nx.sb (fun bx => ?_) | refine Nx.sa (fun A2 c2 => ?_))
    | ((with_reducible refine Nx.is_at ?_); first | refine Nx.a ?_ | refine Nx.zd ?_ | refine Nx.zs (fun hc => ?_) (fun hc => ?_))
    | ((with_reducible refine Nx.is_mix ?_); first | refine Nx.m ?_ | refine Nx.zm ?_ | refine Nx.zt (fun hc => ?_) (fun hc => ?_))
    | refine Nx.zx ?_ | fail
  exact Nx.again (q + 1) hql (by omega) ⟨rfl, by rw [hsn]; rfl, rfl, rfl, rfl, trivial⟩ (by (exact Ent.auto))
theorem bitsL_in {s n : Nat} : ∀ k ∈ bitsL s n, 0 ≤ k ∧ k < n := fun k hk => by
  obtain ⟨j, rfl, hj, _⟩ := bitsL_mem.1 hk
  omega
set_option maxRecDepth 10000 in
set_option maxHeartbeats 4000000 in
theorem sum_spec (A : Option Addr) (ca : Nat) (w : List Int) (s : Nat) (I : PH) (hA : Ints I A ca w) (hw : WOk w) (hw6 : w.length ≤ 6) (hs : s < 2 ^ w.length) :
    FnSpec Tryz.prog 40 [.slice A w.length ca, .int .i64 (s : Int)] I [] (fun u R' => u = .int .i64 (wSum w (bitsL s w.length)) ∧ R' = []) := by
  have hs6 : s < 64 := Nat.lt_of_lt_of_le hs (by have := Nat.pow_le_pow_right (n := 2) (by decide) hw6; simpa using this)
  have hLs := list_spec s hs6 I
  have h6 := bitsL_same hs (6 - w.length)
  rw [show w.length + (6 - w.length) = 6 by omega] at h6
  rw [h6] at hLs
  have hL := bitsL_in (s := s) (n := w.length)
  have hll := bitsL_len s w.length
  generalize bitsL s w.length = L at hLs hL hll
  refine FnSpec.enterP Tryz.func40 rfl Tryz.ntmps40 rfl fun w0 F => ?_
  repeat' first
    | ((with_reducible refine Nx.is_wp ?_); first | refine Nx.wo ?_ | refine Nx.zp (fun hc => ?_) (fun hc => ?_))
    | (refine Nx.zo ?_; first | refine Nx.opr rfl rfl ?_ | (refine Nx.call (Rpre := []) rfl rfl rfl (by kernel_rfl) rfl hLs (Ent.refl _) ?_; rintro _ _ ⟨B, cb, rfl, rfl⟩) | refine Nx.so ?_ | refine Nx.sb (fun bx => ?_) | refine Nx.sa (fun A2 c2 => ?_))
    | ((with_reducible refine Nx.is_at ?_); first | refine Nx.a ?_ | refine Nx.zd ?_ | refine Nx.zs (fun hc => ?_) (fun hc => ?_))
    | ((with_reducible refine Nx.is_mix ?_); first | refine Nx.m ?_ | refine Nx.zm ?_ | refine Nx.zt (fun hc => ?_) (fun hc => ?_))
    | refine Nx.zx ?_ | fail
  refine Nx.freezeAt 0 rfl fun I1 m1 hI1 hm1 h1 => ?_
  have hB : Ints I1 B cb L := Vec.sliceOf hm1 h1
  replace hA := hA.mono hI1
  refine Nx.p_loop (σ := Nat) (fun q => [(0, .slice A w.length ca), (5, .int .i64 (wSum w (L.take q))), (9, .slice B L.length cb), (10, .int .i64 L.length), (11, .int .i64 (q : Int))])
    (fun _ => [F]) (fun q => q ≤ L.length) (fun q => L.length - q) 0 rfl (Nat.zero_le _) ⟨rfl, rfl, rfl, rfl, rfl, trivial⟩ (by (exact Ent.auto)) ?_
  intro q hq
  have hq : q ≤ L.length := hq
  by_cases hql : q < L.length
  case neg =>
    rw [List.take_of_length_le (by omega)]
    repeat' first
      | ((with_reducible refine Nx.is_wp ?_); first | refine Nx.wo ?_ | refine Nx.zp (fun hc => ?_) (fun hc => ?_))
      | (refine Nx.zo ?_; first | refine Nx.opr rfl rfl ?_ | refine Nx.so ?_ | refine Nx.sb (fun bx => ?_) | refine Nx.sa (fun A2 c2 => ?_))
      | ((with_reducible refine Nx.is_at ?_); first | refine Nx.a ?_ | refine Nx.zd ?_ | refine Nx.zs (fun hc => ?_) (fun hc => ?_))
      | ((with_reducible refine Nx.is_mix ?_); first | refine Nx.m ?_ | refine Nx.zm ?_ | refine Nx.zt (fun hc => ?_) (fun hc => ?_))
      | refine Nx.zx ?_ | fail
    exact Nx.imm_le hI1 (Nx.ret_fn rfl [] ⟨rfl, rfl⟩ (by (exact Ent.auto)))
  have htk := take_snocJ hql
  have hx := hL _ (getD_memI hql)
  have hbd := wSum_bd hw (L.take q) fun k hk => hL k (List.mem_of_mem_take hk)
  rw [List.length_take] at hbd
  have hsn := wSum_snoc w (L.take q) (L.getD q default)
  rw [← htk] at hsn
  have hrd : ∀ (W : World) (R : List Res), Rd W I1 R ((ad B).add (q * 1)) (.int .i64 (L.getD q default)) := fun W R => hB.rd hql
  generalize L.getD q default = x at hx hsn hrd
  obtain ⟨y, rfl⟩ : ∃ y : Nat, x = y := ⟨x.toNat, by omega⟩
  have hyl : y < w.length := by omega
  rw [Int.toNat_natCast] at hsn
  have hwy := hw _ (getD_memI hyl)
  have hrw : ∀ (W : World) (R : List Res), Rd W I1 R ((ad A).add (y * 1)) (.int .i64 (w.getD y default)) := fun W R => hA.rd hyl
  generalize w.getD y default = z at hsn hwy hrw
  generalize wSum w (L.take q) = sm at hbd hsn
  repeat' first
    | ((with_reducible refine Nx.is_wp ?_); first | refine Nx.wo ?_ | refine Nx.zp (fun hc => ?_) (fun hc => ?_))
    | (refine Nx.zo ?_; first | refine Nx.opr rfl rfl ?_ | refine Nx.indexAddr_nat (A := B) (i := q) (sz := 1) rfl rfl rfl rfl rfl hql (hB.isSome (by omega)) ?_ | refine Nx.indexAddr_nat (A := A) (i := y) (sz := 1) rfl rfl rfl rfl rfl hyl (hA.isSome (by omega)) ?_ | refine Nx.load rfl rfl rfl (hrd _ _) ?_ | refine Nx.load rfl rfl rfl (hrw _ _) ?_ | refine Nx.so ?_ | refine Nx.sb (fun bx => ?_) | refine Nx.sa (fun A2 c2 => ?_))
    | ((with_reducible refine Nx.is_at ?_); first | refine Nx.a ?_ | refine Nx.zd ?_ | refine Nx.zs (fun hc => ?_) (fun hc => ?_))
    | ((with_reducible refine Nx.is_mix ?_); first | refine Nx.m ?_ | refine Nx.zm ?_ | refine Nx.zt (fun hc => ?_) (fun hc => ?_))
    | refine Nx.zx ?_ | fail
  exact Nx.again (q + 1) hql (by omega) ⟨rfl, by rw [hsn]; rfl, rfl, rfl, rfl, trivial⟩ (by (exact Ent.auto))
end Go.Proofs.YtjnhoemgceghlaaGreat
/-
  The proof engine, part AV: slices.SortFunc at elements of one cell, by a comparison that reads what nobody writes any more.
-/
namespace Go.Eng
open Go.Sort Go.Proofs Go.Shelf Go.RowKit Go.Lib
section
variable {I : PH} {R : List Res} {W w : World} {t : TypeId}
set_option maxHeartbeats 8000000 in
/-- A contract that owns nothing: the world has only grown. -/
theorem FnSpec.to_growI {P : Program} {f : FuncId} {args : List Value} {v : Value} (h : FnSpec P f args I [] (fun u R' => u = v ∧ R' = [])) (w : World) (hI : ∀ i o, I i = some o → w.heap[i]? = some o) :
    Calls P f args.toArray w fun e w' => e = .returned v ∧ ∃ q os, w' = grow (w.drewN q) os := by
  obtain ⟨H, hH⟩ : ∃ H : PH, H = fun i => match I i with | some _ => none | none => w.heap[i]? := ⟨_, rfl⟩
  have hst : St w I ([] ++ [fun m => m = H]) w := ⟨⟨H, ⟨H, fun _ => none, fun _ => .inr rfl, by funext i; unfold PH.or; cases H i <;> rfl, rfl, trivial⟩, ⟨hI, fun i o e => (by rw [hH] at e; dsimp only at e; split at e; cases e; exact e), fun i => by
    cases hi : I i with
    | none => exact .inl rfl
    | some o => exact .inr (by rw [hH]; dsimp only; rw [hi])⟩⟩, Still.refl w⟩
  refine (h w _ hst).mono fun e w' => ?_
  rintro ⟨u, R', he, ⟨rfl, rfl⟩, ⟨⟨m, ⟨m1, m2, hd, rfl, h1, h2⟩, hs⟩, hst'⟩⟩
  subst h1
  refine ⟨he, w'.drawn - w.drawn, w'.heap.extract w.heap.size w'.heap.size, ?_⟩
  have hsz := hst'.size
  have hheap : w'.heap = w.heap ++ w'.heap.extract w.heap.size w'.heap.size := by
    refine Array.ext (by simp; omega) fun i h3 h4 => ?_
    by_cases hi : i < w.heap.size
    · rw [Array.getElem_append_left hi]
      have h5 : w'.heap[i]? = some w.heap[i] := by
        cases hIi : I i with
        | some o =>
          have e1 := hI i o hIi
          rw [Array.getElem?_eq_getElem hi] at e1
          rw [hs.imm i o hIi, e1]
        | none => exact hs.own i w.heap[i] (PH.le_or_left _ _ _ _ (by rw [hH]; dsimp only; rw [hIi]; exact Array.getElem?_eq_getElem hi))
      rw [Array.getElem?_eq_getElem h3] at h5
      exact Option.some.inj h5
    · rw [Array.getElem_append_right (by omega), Array.getElem_extract]
      congr 1; omega
  have hdr : w'.drawn = w.drawn + (w'.drawn - w.drawn) := by have := hst'.drawn; omega
  have e1 := hst'.os
  have e2 := hst'.tape
  have e3 := hst'.output
  generalize w'.heap.extract w.heap.size w'.heap.size = xs at hheap ⊢
  generalize w'.drawn - w.drawn = q at hdr ⊢
  unfold grow World.drewN
  cases w'
  simp only at hheap hdr e1 e2 e3
  subst hheap hdr e1 e2 e3
  rfl
/-- What is frozen stands in every world that a rearrangement of an owned row passes through. -/
theorem St.imm_row {α : Type} [Inhabited α] {enc : α → Value} {b n c : Nat} {vs : List Value} (h : St W I (Vec t 1 (some ⟨b, 0, none⟩) n c vs :: R) w) (m : Nat) (d : Array α) (os : Array Obj) :
    ∀ i o, I i = some o → (sortWorld enc w b 0 m d os).heap[i]? = some o := fun i o hi => by
  obtain ⟨⟨mm, ⟨m1, m2, hd, rfl, hv, h2⟩, hs⟩, hst⟩ := id h
  have hi0 := hs.imm i o hi
  have hlt := (Array.getElem?_eq_some_iff.1 hi0).1
  have hne : b ≠ i := fun hb => by
    subst hb
    rcases hv.2 with ⟨h0, _, _⟩ | ⟨b', cur, he, hb, _⟩
    · cases h0
    cases he
    rcases hs.dis b with h3 | h3
    · rw [hi] at h3; cases h3
    · have := PH.le_or_left m1 m2 _ _ hb
      rw [h3] at this; cases this
  have hsize : (Sort.putRow enc (Go.Sort.ahead w m) b 0 d).heap.size = w.heap.size := by unfold Sort.putRow mapBlock Go.Sort.ahead; simp
  unfold sortWorld
  rw [heap_grow _ _ _ (by rw [hsize]; exact hlt), heap_putRow, if_neg hne]
  exact hi0
set_option maxHeartbeats 8000000 in
/-- slices.SortFunc at elements of one cell, by a comparison that may read what is frozen, and may have captured something. -/
theorem sort1_spec {P : Program} {ρ : Ren} {α : Type} [Inhabited α] (L : SlLaysF.n6 P ρ) (enc : α → Value) (h1 : OneCell enc) (cf : α → α → Int) (hO : SWO (ltOf cf)) (g : Nat) (cb : List Value) (eg : ∀ args w, (callFunc g args).run P w = .ok (.enter g args) w)
    (hcmp : ∀ x y, FnSpec P g (enc x :: enc y :: cb) I [] (fun v R' => v = .int .i64 (cf x y) ∧ R' = []))
    (b c : Nat) (l : List α) (hl : l.length < 4611686018427387904) :
    FnSpec P (ρ.f 6) [.slice (some ⟨b, 0, none⟩) l.length c, .func (.func g) #[] cb.toArray] I [Vec t 1 (some ⟨b, 0, none⟩) l.length c (l.map enc)]
      (fun v R' => v = .tuple #[] ∧ ∃ l' : List α, l'.Perm l ∧ l'.Pairwise (fun x y => ltOf cf y x = false) ∧ R' = [Vec t 1 (some ⟨b, 0, none⟩) l'.length c (l'.map enc)]) := by
  intro w F hw
  obtain ⟨hH, hb⟩ := Vec.holds hw
  have hC : CmpLays1 P g cb.toArray enc cf b 0 l.toArray.size w := fun m os dk _ x y => by
    have := FnSpec.to_growI (hcmp x y) (sortWorld enc w b 0 m dk os) (hw.imm_row m dk os)
    rwa [show (enc x :: enc y :: cb).toArray = #[enc x, enc y] ++ cb.toArray by simp] at this
  have hcall := Any.slices_SortFunc L enc h1 cf hO g cb.toArray b 0 c l.toArray w eg hC hH hb (by simpa using hl)
  rw [List.size_toArray] at hcall
  refine hcall.mono fun e w' => ?_
  rintro ⟨rfl, d', n, os, hp, hs, rfl⟩
  have hsz : d'.size = l.length := by simpa using hp.1
  have hperm : d'.toList.Perm l := by
    have := hp.2.2
    rw [← hsz, Array.extract_size, hsz] at this
    simpa using this
  refine ⟨_, _, rfl, ⟨rfl, d'.toList, hperm, ?_, rfl⟩, ?_⟩
  · rw [List.pairwise_iff_getElem]
    intro i j hi hj hij
    have := hs i j (Nat.zero_le _) hij (by rw [← hsz]; simpa using hj)
    rw [getElem!_pos d' j (by simpa using hj), getElem!_pos d' i (by simpa using hi)] at this
    simpa using this
  · have h3 := hw.putRow (l' := d'.toList) hperm.length_eq n os
    rwa [Array.toArray_toList] at h3
end
end Go.Eng
/- Contracts of functions of the given program, and lemmas about plain lists and numbers: what the laws of this seat lean on. -/
namespace Go.Proofs.YtjnhoemgceghlaaGreat
def srtF_ren : Go.Shelf.Ren := ⟨fun | 6 => 60 | 15 => 86 | 14 => 85 | 28 => 116 | 29 => 117 | 20 => 108 | 21 => 109 | 22 => 110 | 23 => 111 | 24 => 112 | 25 => 113 | 26 => 114 | 27 => 115 | 46 => 139 | 47 => 140 | 48 => 141 | 49 => 142 | 50 => 143 | 57 => 169 | n => n, fun | 22 => 25 | 24 => 3 | 25 => 53 | 3 => 3 | 39 => 104 | 0 => 0 | 53 => 129 | 55 => 131 | 4 => 4 | 46 => 154 | 45 => 153 | 50 => 158 | 5 => 5 | 9 => 9 | 66 => 178 | 70 => 182 | 76 => 204 | 77 => 191 | n => n, fun | n => n⟩
theorem srtF : Go.Proofs.SlLaysF.n6 Tryz.prog srtF_ren where
  mixed := by kernel_rfl
  f6 := ⟨ "slices.SortFunc[[]int,int]", by decide, Tryz.func60.trans (congrArg some (by kernel_rfl))⟩
  f14 := ⟨ "slices.pdqsortCmpFunc[int]", by decide, Tryz.func85.trans (congrArg some (by kernel_rfl))⟩
  f15 := Tryz.func86.trans (congrArg some (by kernel_rfl))
  f20 := ⟨ "slices.insertionSortCmpFunc[int]", by decide, Tryz.func108.trans (congrArg some (by kernel_rfl))⟩
  f21 := ⟨ "slices.heapSortCmpFunc[int]", by decide, Tryz.func109.trans (congrArg some (by kernel_rfl))⟩
  f22 := ⟨ "slices.breakPatternsCmpFunc[int]", by decide, Tryz.func110.trans (congrArg some (by kernel_rfl))⟩
  f23 := ⟨ "slices.choosePivotCmpFunc[int]", by decide, Tryz.func111.trans (congrArg some (by kernel_rfl))⟩
  f24 := ⟨ "slices.reverseRangeCmpFunc[int]", by decide, Tryz.func112.trans (congrArg some (by kernel_rfl))⟩
  f25 := ⟨ "slices.partialInsertionSortCmpFunc[int]", by decide, Tryz.func113.trans (congrArg some (by kernel_rfl))⟩
  f26 := ⟨ "slices.partitionEqualCmpFunc[int]", by decide, Tryz.func114.trans (congrArg some (by kernel_rfl))⟩
  f27 := ⟨ "slices.partitionCmpFunc[int]", by decide, Tryz.func115.trans (congrArg some (by kernel_rfl))⟩
  f28 := Tryz.func116.trans (congrArg some (by kernel_rfl))
  f29 := Tryz.func117.trans (congrArg some (by kernel_rfl))
  f46 := ⟨ "slices.siftDownCmpFunc[int]", by decide, Tryz.func139.trans (congrArg some (by kernel_rfl))⟩
  f47 := Tryz.func140.trans (congrArg some (by kernel_rfl))
  f48 := Tryz.func141.trans (congrArg some (by kernel_rfl))
  f49 := ⟨ "slices.medianAdjacentCmpFunc[int]", by decide, Tryz.func142.trans (congrArg some (by kernel_rfl))⟩
  f50 := ⟨ "slices.medianCmpFunc[int]", by decide, Tryz.func143.trans (congrArg some (by kernel_rfl))⟩
  f57 := ⟨ "slices.order2CmpFunc[int]", by decide, Tryz.func169.trans (congrArg some (by kernel_rfl))⟩
  t0 := Tryz.underlying0
  a0 := Tryz.isAgg0
  z0 := Tryz.sizeOf0
  v0 := Tryz.zeroValue0
  t3 := Tryz.underlying3
  a3 := Tryz.isAgg3
  z3 := Tryz.sizeOf3
  v3 := Tryz.zeroValue3
  t4 := Tryz.underlying4
  a4 := Tryz.isAgg4
  z4 := Tryz.sizeOf4
  v4 := Tryz.zeroValue4
  t5 := Tryz.underlying5
  a5 := Tryz.isAgg5
  z5 := Tryz.sizeOf5
  v5 := Tryz.zeroValue5
  t9 := Tryz.underlying9
  a9 := Tryz.isAgg9
  z9 := Tryz.sizeOf9
  v9 := Tryz.zeroValue9
  t22 := Tryz.underlying25
  a22 := Tryz.isAgg25
  z22 := Tryz.sizeOf25
  v22 := Tryz.zeroValue25
  a24 := Tryz.isAgg3
  z24 := Tryz.sizeOf3
  t25 := Tryz.underlying53
  a25 := Tryz.isAgg53
  z25 := Tryz.sizeOf53
  v25 := Tryz.zeroValue53
  t39 := Tryz.underlying104
  a39 := Tryz.isAgg104
  z39 := Tryz.sizeOf104
  v39 := Tryz.zeroValue104
  t45 := Tryz.underlying153
  a45 := Tryz.isAgg153
  z45 := Tryz.sizeOf153
  v45 := Tryz.zeroValue153
  t46 := Tryz.underlying154
  a46 := Tryz.isAgg154
  z46 := Tryz.sizeOf154
  v46 := Tryz.zeroValue154
  t50 := Tryz.underlying158
  a50 := Tryz.isAgg158
  z50 := Tryz.sizeOf158
  v50 := Tryz.zeroValue158
  t53 := Tryz.underlying129
  a53 := Tryz.isAgg129
  z53 := Tryz.sizeOf129
  v53 := Tryz.zeroValue129
  t55 := Tryz.underlying131
  a55 := Tryz.isAgg131
  z55 := Tryz.sizeOf131
  v55 := Tryz.zeroValue131
  t66 := Tryz.underlying178
  a66 := Tryz.isAgg178
  z66 := Tryz.sizeOf178
  v66 := Tryz.zeroValue178
  t70 := Tryz.underlying182
  a70 := Tryz.isAgg182
  z70 := Tryz.sizeOf182
  v70 := Tryz.zeroValue182
  t76 := Tryz.underlying204
  a76 := Tryz.isAgg204
  z76 := Tryz.sizeOf204
  v76 := Tryz.zeroValue204
  t77 := Tryz.underlying191
  a77 := Tryz.isAgg191
  z77 := Tryz.sizeOf191
  v77 := Tryz.zeroValue191
end Go.Proofs.YtjnhoemgceghlaaGreat
namespace Go.Proofs.YtjnhoemgceghlaaGreat
open Go.Eng Go.Sol
attribute [local irreducible] opK wpList Code.wp Exit.then Exit.inBlock fnPost bodyPost Nx Calls Oper.wp Rd Rds Wr Ent Stars Blk Again Vec FnSpec wpMix QRun Stop Upto wpAt
/-! Comparisons -/
def cmpI (a b : Int) : Int := if a < b then -1 else if b < a then 1 else 0
def cmpL : List Int → List Int → Int
  | [], [] => 0
  | [], _ :: _ => -1
  | _ :: _, [] => 1
  | a :: p, b :: q => if cmpI a b ≠ 0 then cmpI a b else cmpL p q
def orC {α : Type} (f g : α → α → Int) (a b : α) : Int := if f a b ≠ 0 then f a b else g a b
structure LeC {α : Type} (f : α → α → Int) : Prop where
  anti : ∀ a b, f b a = - f a b
  tr : ∀ a b c, f a b ≤ 0 → f b c ≤ 0 → f a c ≤ 0
theorem cmpI_le : LeC cmpI := ⟨fun a b => by unfold cmpI; split <;> split <;> omega, fun a b c h1 h2 => by
  unfold cmpI at *
  split at h1 <;> split at h2 <;> split <;> (try split) <;> (try split at h1) <;> (try split at h2) <;> omega⟩
theorem LeC.comap {α β : Type} {f : β → β → Int} (h : LeC f) (k : α → β) : LeC fun a b => f (k a) (k b) := ⟨fun _ _ => h.anti _ _, fun _ _ _ => h.tr _ _ _⟩
theorem LeC.or {α : Type} {f g : α → α → Int} (hf : LeC f) (hg : LeC g) : LeC (orC f g) := by
  refine ⟨fun a b => ?_, fun a b c h1 h2 => ?_⟩
  · have := hf.anti a b
    have := hg.anti a b
    unfold orC
    split <;> split <;> omega
  · have t1 := hf.tr a b c
    have t2 := hf.tr c a b
    have t3 := hf.tr b c a
    have a1 := hf.anti a c
    have a2 := hf.anti b c
    have a3 := hf.anti a b
    have t4 := hg.tr a b c
    unfold orC at *
    split at h1 <;> split at h2 <;> split <;> omega
theorem cmpL_cons (a b : Int) (p q : List Int) : cmpL (a :: p) (b :: q) = if cmpI a b ≠ 0 then cmpI a b else cmpL p q := by rw [cmpL]
theorem cmpL_anti : ∀ a b : List Int, cmpL b a = - cmpL a b
  | [], [] => rfl
  | [], _ :: _ => rfl
  | _ :: _, [] => rfl
  | x :: p, y :: q => by
    have h1 := cmpI_le.anti x y
    have h2 := cmpL_anti p q
    rw [cmpL_cons, cmpL_cons]
    split <;> split <;> omega
theorem cmpL_tr : ∀ a b c : List Int, cmpL a b ≤ 0 → cmpL b c ≤ 0 → cmpL a c ≤ 0
  | [], _, [], _, _ => by simp [cmpL]
  | [], _, _ :: _, _, _ => by simp [cmpL]
  | _ :: _, [], _, h, _ => by simp [cmpL] at h
  | _ :: _, _ :: _, [], _, h => by simp [cmpL] at h
  | x :: p, y :: q, z :: r, h1, h2 => by
    have t1 := cmpI_le.tr x y z
    have t2 := cmpI_le.tr z x y
    have t3 := cmpI_le.tr y z x
    have a1 := cmpI_le.anti x z
    have a2 := cmpI_le.anti y z
    have a3 := cmpI_le.anti x y
    have t4 := cmpL_tr p q r
    rw [cmpL_cons] at h1 h2 ⊢
    split at h1 <;> split at h2 <;> split <;> omega
theorem cmpL_le : LeC cmpL := ⟨cmpL_anti, cmpL_tr⟩
theorem LeC.swo {α : Type} {f : α → α → Int} (h : LeC f) : Go.Sort.SWO (ltOf f) where
  irrefl x := by have := h.anti x x; unfold ltOf; exact decide_eq_false (by omega)
  trans x y z h1 h2 := by
    unfold ltOf at *
    rw [decide_eq_true_eq] at *
    have := h.tr x y z; have := h.tr z x y; have := h.anti x z; have := h.anti y z
    omega
  ntrans x y z h1 h2 := by
    unfold ltOf at *
    rw [decide_eq_false_iff_not] at *
    have := h.tr z y x; have := h.anti x y; have := h.anti y z; have := h.anti x z
    omega
set_option maxHeartbeats 8000000 in
set_option maxRecDepth 10000 in
theorem isNaN_spec (a : Int) (I : PH) : FnSpec Tryz.prog 87 [.int .i64 a] I [] (fun u R' => u = .bool false ∧ R' = []) := by
  refine FnSpec.enterP Tryz.func87 rfl Tryz.ntmps87 rfl fun w F => ?_
  repeat' first
    | ((with_reducible refine Nx.is_wp ?_); first | refine Nx.wo ?_ | refine Nx.zp (fun hc => ?_) (fun hc => ?_))
    | (refine Nx.zo ?_; first | refine Nx.opr rfl rfl ?_ | refine Nx.so ?_ | refine Nx.sb (fun bx => ?_) | refine Nx.sa (fun A2 c2 => ?_))
    | ((with_reducible refine Nx.is_at ?_); first | refine Nx.a ?_ | refine Nx.zd ?_ | refine Nx.zs (fun hc => ?_) (fun hc => ?_))
    | ((with_reducible refine Nx.is_mix ?_); first | refine Nx.m ?_ | refine Nx.zm ?_ | refine Nx.zt (fun hc => ?_) (fun hc => ?_))
    | refine Nx.zx ?_ | fail
  exact Nx.ret_fn rfl [] ⟨by rw [decide_eq_false (fun h => h rfl)], rfl⟩ (by (exact Ent.auto))
set_option maxHeartbeats 8000000 in
set_option maxRecDepth 10000 in
theorem Compare_spec (a b : Int) (I : PH) : FnSpec Tryz.prog 63 [.int .i64 a, .int .i64 b] I [] (fun u R' => u = .int .i64 (cmpI a b) ∧ R' = []) := by
  have h1 := isNaN_spec a I
  have h2 := isNaN_spec b I
  unfold cmpI
  refine FnSpec.enterP Tryz.func63 rfl Tryz.ntmps63 rfl fun w F => ?_
  by_cases hab : a < b
  · rw [if_pos hab]
    repeat' first
      | ((with_reducible refine Nx.is_wp ?_); first | refine Nx.wo ?_ | refine Nx.zp (fun hc => ?_) (fun hc => ?_))
      | (refine Nx.zo ?_; first | refine Nx.opr rfl rfl ?_ | refine Nx.callv rfl rfl rfl (by kernel_rfl) rfl h1 ?_ | refine Nx.callv rfl rfl rfl (by kernel_rfl) rfl h2 ?_ | refine Nx.so ?_ | refine Nx.sb (fun bx => ?_) | refine Nx.sa (fun A2 c2 => ?_))
      | ((with_reducible refine Nx.is_at ?_); first | refine Nx.a ?_ | refine Nx.zd ?_ | refine Nx.zs (fun hc => ?_) (fun hc => ?_))
      | ((with_reducible refine Nx.is_mix ?_); first | refine Nx.m ?_ | refine Nx.zm ?_ | refine Nx.zt (fun hc => ?_) (fun hc => ?_))
      | refine Nx.zx ?_ | fail
    exact Nx.ret_fn rfl [] ⟨rfl, rfl⟩ (by (exact Ent.auto))
  rw [if_neg hab]
  by_cases hba : b < a
  · rw [if_pos hba]
    repeat' first
      | ((with_reducible refine Nx.is_wp ?_); first | refine Nx.wo ?_ | refine Nx.zp (fun hc => ?_) (fun hc => ?_))
      | (refine Nx.zo ?_; first | refine Nx.opr rfl rfl ?_ | refine Nx.callv rfl rfl rfl (by kernel_rfl) rfl h1 ?_ | refine Nx.callv rfl rfl rfl (by kernel_rfl) rfl h2 ?_ | refine Nx.so ?_ | refine Nx.sb (fun bx => ?_) | refine Nx.sa (fun A2 c2 => ?_))
      | ((with_reducible refine Nx.is_at ?_); first | refine Nx.a ?_ | refine Nx.zd ?_ | refine Nx.zs (fun hc => ?_) (fun hc => ?_))
      | ((with_reducible refine Nx.is_mix ?_); first | refine Nx.m ?_ | refine Nx.zm ?_ | refine Nx.zt (fun hc => ?_) (fun hc => ?_))
      | refine Nx.zx ?_ | fail
    exact Nx.ret_fn rfl [] ⟨rfl, rfl⟩ (by (exact Ent.auto))
  rw [if_neg hba]
  repeat' first
    | ((with_reducible refine Nx.is_wp ?_); first | refine Nx.wo ?_ | refine Nx.zp (fun hc => ?_) (fun hc => ?_))
    | (refine Nx.zo ?_; first | refine Nx.opr rfl rfl ?_ | refine Nx.callv rfl rfl rfl (by kernel_rfl) rfl h1 ?_ | refine Nx.callv rfl rfl rfl (by kernel_rfl) rfl h2 ?_ | refine Nx.so ?_ | refine Nx.sb (fun bx => ?_) | refine Nx.sa (fun A2 c2 => ?_))
    | ((with_reducible refine Nx.is_at ?_); first | refine Nx.a ?_ | refine Nx.zd ?_ | refine Nx.zs (fun hc => ?_) (fun hc => ?_))
    | ((with_reducible refine Nx.is_mix ?_); first | refine Nx.m ?_ | refine Nx.zm ?_ | refine Nx.zt (fun hc => ?_) (fun hc => ?_))
    | refine Nx.zx ?_ | fail
  exact Nx.ret_fn rfl [] ⟨rfl, rfl⟩ (by (exact Ent.auto))
def firstNZ : List Int → Int
  | [] => 0
  | x :: l => if x ≠ 0 then x else firstNZ l
set_option maxRecDepth 10000 in
set_option maxHeartbeats 4000000 in
theorem Or_spec (A : Option Addr) (c : Nat) (l : List Int) (I : PH) (hl : Ints I A c l) : FnSpec Tryz.prog 62 [.slice A l.length c] I [] (fun u R' => u = .int .i64 (firstNZ l) ∧ R' = []) := by
  have hlen := hl.len
  refine FnSpec.enterP Tryz.func62 rfl Tryz.ntmps62 rfl fun w F => ?_
  obtain ⟨z, hz⟩ : ∃ z, z = firstNZ l := ⟨_, rfl⟩
  rw [← hz]
  repeat' first
    | ((with_reducible refine Nx.is_wp ?_); first | refine Nx.wo ?_ | refine Nx.zp (fun hc => ?_) (fun hc => ?_))
    | (refine Nx.zo ?_; first | refine Nx.opr rfl rfl ?_ | refine Nx.so ?_ | refine Nx.sb (fun bx => ?_) | refine Nx.sa (fun A2 c2 => ?_))
    | ((with_reducible refine Nx.is_at ?_); first | refine Nx.a ?_ | refine Nx.zd ?_ | refine Nx.zs (fun hc => ?_) (fun hc => ?_))
    | ((with_reducible refine Nx.is_mix ?_); first | refine Nx.m ?_ | refine Nx.zm ?_ | refine Nx.zt (fun hc => ?_) (fun hc => ?_))
    | refine Nx.zx ?_ | fail
  refine Nx.p_loop (σ := Nat) (fun q => [(3, .int .i64 0), (6, .slice A l.length c), (7, .int .i64 l.length), (8, .int .i64 (q : Int))])
    (fun _ => [F]) (fun q => q ≤ l.length ∧ z = firstNZ (l.drop q)) (fun q => l.length - q) 0 rfl ⟨Nat.zero_le _, hz⟩ ⟨rfl, rfl, rfl, rfl, trivial⟩ (by (exact Ent.auto)) ?_
  rintro q ⟨hq, he⟩
  by_cases hql : q < l.length
  case neg =>
    rw [List.drop_eq_nil_of_le (by omega), firstNZ] at he
    rw [he]
    repeat' first
      | ((with_reducible refine Nx.is_wp ?_); first | refine Nx.wo ?_ | refine Nx.zp (fun hc => ?_) (fun hc => ?_))
      | (refine Nx.zo ?_; first | refine Nx.opr rfl rfl ?_ | refine Nx.so ?_ | refine Nx.sb (fun bx => ?_) | refine Nx.sa (fun A2 c2 => ?_))
      | ((with_reducible refine Nx.is_at ?_); first | refine Nx.a ?_ | refine Nx.zd ?_ | refine Nx.zs (fun hc => ?_) (fun hc => ?_))
      | ((with_reducible refine Nx.is_mix ?_); first | refine Nx.m ?_ | refine Nx.zm ?_ | refine Nx.zt (fun hc => ?_) (fun hc => ?_))
      | refine Nx.zx ?_ | fail
    exact Nx.ret_fn rfl [] ⟨rfl, rfl⟩ (by (exact Ent.auto))
  rw [drop_atI hql, firstNZ] at he
  have hrd : ∀ (W : World) (R : List Res), Rd W I R ((ad A).add (q * 1)) (.int .i64 (l.getD q default)) := fun W R => hl.rd hql
  generalize l.getD q default = x at he hrd
  by_cases hx : x = 0
  · rw [if_neg (fun h => h hx)] at he
    repeat' first
      | ((with_reducible refine Nx.is_wp ?_); first | refine Nx.wo ?_ | refine Nx.zp (fun hc => ?_) (fun hc => ?_))
      | (refine Nx.zo ?_; first | refine Nx.opr rfl rfl ?_ | refine Nx.indexAddr_nat (A := A) (i := q) (sz := 1) rfl rfl rfl rfl rfl hql (hl.isSome (by omega)) ?_ | refine Nx.load rfl rfl rfl (hrd _ _) ?_ | refine Nx.so ?_ | refine Nx.sb (fun bx => ?_) | refine Nx.sa (fun A2 c2 => ?_))
      | ((with_reducible refine Nx.is_at ?_); first | refine Nx.a ?_ | refine Nx.zd ?_ | refine Nx.zs (fun hc => ?_) (fun hc => ?_))
      | ((with_reducible refine Nx.is_mix ?_); first | refine Nx.m ?_ | refine Nx.zm ?_ | refine Nx.zt (fun hc => ?_) (fun hc => ?_))
      | refine Nx.zx ?_ | fail
    exact Nx.again (q + 1) ⟨hql, he⟩ (by omega) ⟨rfl, rfl, rfl, rfl, trivial⟩ (by (exact Ent.auto))
  · rw [if_pos hx] at he
    rw [he]
    repeat' first
      | ((with_reducible refine Nx.is_wp ?_); first | refine Nx.wo ?_ | refine Nx.zp (fun hc => ?_) (fun hc => ?_))
      | (refine Nx.zo ?_; first | refine Nx.opr rfl rfl ?_ | refine Nx.indexAddr_nat (A := A) (i := q) (sz := 1) rfl rfl rfl rfl rfl hql (hl.isSome (by omega)) ?_ | refine Nx.load rfl rfl rfl (hrd _ _) ?_ | refine Nx.so ?_ | refine Nx.sb (fun bx => ?_) | refine Nx.sa (fun A2 c2 => ?_))
      | ((with_reducible refine Nx.is_at ?_); first | refine Nx.a ?_ | refine Nx.zd ?_ | refine Nx.zs (fun hc => ?_) (fun hc => ?_))
      | ((with_reducible refine Nx.is_mix ?_); first | refine Nx.m ?_ | refine Nx.zm ?_ | refine Nx.zt (fun hc => ?_) (fun hc => ?_))
      | refine Nx.zx ?_ | fail
    exact Nx.ret_fn rfl [] ⟨rfl, rfl⟩ (by (exact Ent.auto))
set_option maxRecDepth 10000 in
set_option maxHeartbeats 8000000 in
theorem CompareL_spec (A B : Option Addr) (ca cb : Nat) (l r : List Int) (I : PH) (hl : Ints I A ca l) (hr : Ints I B cb r) : FnSpec Tryz.prog 65 [.slice A l.length ca, .slice B r.length cb] I [] (fun u R' => u = .int .i64 (cmpL l r) ∧ R' = []) := by
  have hlen := hl.len
  have hrlen := hr.len
  refine FnSpec.enterP Tryz.func65 rfl Tryz.ntmps65 rfl fun w F => ?_
  obtain ⟨z, hz⟩ : ∃ z, z = cmpL l r := ⟨_, rfl⟩
  rw [← hz]
  repeat' first
    | ((with_reducible refine Nx.is_wp ?_); first | refine Nx.wo ?_ | refine Nx.zp (fun hc => ?_) (fun hc => ?_))
    | (refine Nx.zo ?_; first | refine Nx.opr rfl rfl ?_ | refine Nx.so ?_ | refine Nx.sb (fun bx => ?_) | refine Nx.sa (fun A2 c2 => ?_))
    | ((with_reducible refine Nx.is_at ?_); first | refine Nx.a ?_ | refine Nx.zd ?_ | refine Nx.zs (fun hc => ?_) (fun hc => ?_))
    | ((with_reducible refine Nx.is_mix ?_); first | refine Nx.m ?_ | refine Nx.zm ?_ | refine Nx.zt (fun hc => ?_) (fun hc => ?_))
    | refine Nx.zx ?_ | fail
  refine Nx.p_loop (σ := Nat) (fun q => [(0, .slice A l.length ca), (1, .slice B r.length cb), (9, .slice A l.length ca), (10, .int .i64 l.length), (11, .int .i64 (q : Int))])
    (fun _ => [F]) (fun q => q ≤ l.length ∧ q ≤ r.length ∧ z = cmpL (l.drop q) (r.drop q)) (fun q => l.length - q) 0 rfl ⟨Nat.zero_le _, Nat.zero_le _, hz⟩ ⟨rfl, rfl, rfl, rfl, rfl, trivial⟩ (by (exact Ent.auto)) ?_
  rintro q ⟨hq, hqr, he⟩
  by_cases hql : q < l.length
  case neg =>
    have hdl : l.drop q = [] := List.drop_eq_nil_of_le (by omega)
    rw [hdl] at he
    by_cases hrq : q < r.length
    · rw [drop_atI hrq, cmpL] at he
      rw [he]
      repeat' first
        | ((with_reducible refine Nx.is_wp ?_); first | refine Nx.wo ?_ | refine Nx.zp (fun hc => ?_) (fun hc => ?_))
        | (refine Nx.zo ?_; first | refine Nx.opr rfl rfl ?_ | refine Nx.so ?_ | refine Nx.sb (fun bx => ?_) | refine Nx.sa (fun A2 c2 => ?_))
        | ((with_reducible refine Nx.is_at ?_); first | refine Nx.a ?_ | refine Nx.zd ?_ | refine Nx.zs (fun hc => ?_) (fun hc => ?_))
        | ((with_reducible refine Nx.is_mix ?_); first | refine Nx.m ?_ | refine Nx.zm ?_ | refine Nx.zt (fun hc => ?_) (fun hc => ?_))
        | refine Nx.zx ?_ | fail
      exact Nx.ret_fn rfl [] ⟨rfl, rfl⟩ (by (exact Ent.auto))
    · have hdr : r.drop q = [] := List.drop_eq_nil_of_le (by omega)
      rw [hdr, cmpL] at he
      rw [he]
      repeat' first
        | ((with_reducible refine Nx.is_wp ?_); first | refine Nx.wo ?_ | refine Nx.zp (fun hc => ?_) (fun hc => ?_))
        | (refine Nx.zo ?_; first | refine Nx.opr rfl rfl ?_ | refine Nx.so ?_ | refine Nx.sb (fun bx => ?_) | refine Nx.sa (fun A2 c2 => ?_))
        | ((with_reducible refine Nx.is_at ?_); first | refine Nx.a ?_ | refine Nx.zd ?_ | refine Nx.zs (fun hc => ?_) (fun hc => ?_))
        | ((with_reducible refine Nx.is_mix ?_); first | refine Nx.m ?_ | refine Nx.zm ?_ | refine Nx.zt (fun hc => ?_) (fun hc => ?_))
        | refine Nx.zx ?_ | fail
      exact Nx.ret_fn rfl [] ⟨rfl, rfl⟩ (by (exact Ent.auto))
  have h1 : ∀ (W : World) (R : List Res), Rd W I R ((ad A).add (q * 1)) (.int .i64 (l.getD q default)) := fun W R => hl.rd hql
  rw [drop_atI hql] at he
  by_cases hrq : q < r.length
  case neg =>
    have hdr : r.drop q = [] := List.drop_eq_nil_of_le (by omega)
    rw [hdr, cmpL] at he
    rw [he]
    repeat' first
      | ((with_reducible refine Nx.is_wp ?_); first | refine Nx.wo ?_ | refine Nx.zp (fun hc => ?_) (fun hc => ?_))
      | (refine Nx.zo ?_; first | refine Nx.opr rfl rfl ?_ | refine Nx.indexAddr_nat (A := A) (i := q) (sz := 1) rfl rfl rfl rfl rfl hql (hl.isSome (by omega)) ?_ | refine Nx.load rfl rfl rfl (h1 _ _) ?_ | refine Nx.so ?_ | refine Nx.sb (fun bx => ?_) | refine Nx.sa (fun A2 c2 => ?_))
      | ((with_reducible refine Nx.is_at ?_); first | refine Nx.a ?_ | refine Nx.zd ?_ | refine Nx.zs (fun hc => ?_) (fun hc => ?_))
      | ((with_reducible refine Nx.is_mix ?_); first | refine Nx.m ?_ | refine Nx.zm ?_ | refine Nx.zt (fun hc => ?_) (fun hc => ?_))
      | refine Nx.zx ?_ | fail
    exact Nx.ret_fn rfl [] ⟨rfl, rfl⟩ (by (exact Ent.auto))
  rw [drop_atI hrq, cmpL] at he
  have h2 : ∀ (W : World) (R : List Res), Rd W I R ((ad B).add (q * 1)) (.int .i64 (r.getD q default)) := fun W R => hr.rd hrq
  have hC := Compare_spec (l.getD q default) (r.getD q default) I
  generalize l.getD q default = x at he h1 hC
  generalize r.getD q default = y at he h2 hC
  generalize cmpI x y = d at he hC
  by_cases hd : d = 0
  · rw [if_neg (fun h => h hd)] at he
    repeat' first
      | ((with_reducible refine Nx.is_wp ?_); first | refine Nx.wo ?_ | refine Nx.zp (fun hc => ?_) (fun hc => ?_))
      | (refine Nx.zo ?_; first | refine Nx.opr rfl rfl ?_ | refine Nx.indexAddr_nat (A := A) (i := q) (sz := 1) rfl rfl rfl rfl rfl hql (hl.isSome (by omega)) ?_ | refine Nx.indexAddr_nat (A := B) (i := q) (sz := 1) rfl rfl rfl rfl rfl hrq (hr.isSome (by omega)) ?_ | refine Nx.load rfl rfl rfl (h1 _ _) ?_ | refine Nx.load rfl rfl rfl (h2 _ _) ?_ | refine Nx.callv rfl rfl rfl (by kernel_rfl) rfl hC ?_ | refine Nx.so ?_ | refine Nx.sb (fun bx => ?_) | refine Nx.sa (fun A2 c2 => ?_))
      | ((with_reducible refine Nx.is_at ?_); first | refine Nx.a ?_ | refine Nx.zd ?_ | refine Nx.zs (fun hc => ?_) (fun hc => ?_))
      | ((with_reducible refine Nx.is_mix ?_); first | refine Nx.m ?_ | refine Nx.zm ?_ | refine Nx.zt (fun hc => ?_) (fun hc => ?_))
      | refine Nx.zx ?_ | fail
    exact Nx.again (q + 1) ⟨hql, hrq, he⟩ (by omega) ⟨rfl, rfl, rfl, rfl, rfl, trivial⟩ (by (exact Ent.auto))
  · rw [if_pos hd] at he
    rw [he]
    repeat' first
      | ((with_reducible refine Nx.is_wp ?_); first | refine Nx.wo ?_ | refine Nx.zp (fun hc => ?_) (fun hc => ?_))
      | (refine Nx.zo ?_; first | refine Nx.opr rfl rfl ?_ | refine Nx.indexAddr_nat (A := A) (i := q) (sz := 1) rfl rfl rfl rfl rfl hql (hl.isSome (by omega)) ?_ | refine Nx.indexAddr_nat (A := B) (i := q) (sz := 1) rfl rfl rfl rfl rfl hrq (hr.isSome (by omega)) ?_ | refine Nx.load rfl rfl rfl (h1 _ _) ?_ | refine Nx.load rfl rfl rfl (h2 _ _) ?_ | refine Nx.callv rfl rfl rfl (by kernel_rfl) rfl hC ?_ | refine Nx.so ?_ | refine Nx.sb (fun bx => ?_) | refine Nx.sa (fun A2 c2 => ?_))
      | ((with_reducible refine Nx.is_at ?_); first | refine Nx.a ?_ | refine Nx.zd ?_ | refine Nx.zs (fun hc => ?_) (fun hc => ?_))
      | ((with_reducible refine Nx.is_mix ?_); first | refine Nx.m ?_ | refine Nx.zm ?_ | refine Nx.zt (fun hc => ?_) (fun hc => ?_))
      | refine Nx.zx ?_ | fail
    exact Nx.ret_fn rfl [] ⟨rfl, rfl⟩ (by (exact Ent.auto))
end Go.Proofs.YtjnhoemgceghlaaGreat
/- Contracts of functions of the given program, and lemmas about plain lists and numbers: what the laws of this seat lean on. -/
namespace Go.Proofs.YtjnhoemgceghlaaGreat
open Go.Eng Go.Sol
theorem QRun.convN {C : Cx} {e : Env} {S : World → Prop} {dst : Option Tmp} {ty : TypeId} {pos : String} {after : Array Edge} {g : Option (Nat × Bool)} {t u : TypeId} {x : Operand} {k : IntKind} {p : Int} {q : Nat} {s : TypeDesc} (hx : evo e x = some (.int k p)) (hs : C.P.underlying t = some s) (ht : C.P.underlying u = some (.int .u64)) (hp : p % B64 = (q : Int)) : QRun C e S ⟨dst, .convert t u x, ty, pos, after, g⟩ (.int .u64 (q : Int)) := fun a w ha _ => by
  simp only [execOp, ha.eval hx]
  refine run_v ?_
  unfold convert
  rw [Sem.run_bind, run_underlying hs, Result.andThen_ok, Sem.run_bind, run_underlying ht, Result.andThen_ok]
  show Result.ok (Value.int .u64 (IntKind.u64.wrap p)) w = _
  rw [IntKind.wrap_u64, ← hp]
attribute [local irreducible] opK wpList Code.wp Exit.then Exit.inBlock fnPost bodyPost Nx Calls Oper.wp Rd Rds Wr Ent Stars Blk Again Vec FnSpec wpMix QRun Stop Upto wpAt
/-! How many bits are set -/
section
variable {P : Program} {t : TypeId} {x y : Operand} {k : IntKind} {a b n q : Nat} {p z : Int}
theorem run_shrUN (hz : z = (n : Int)) (hn : n ≤ 64) (hq : q = a / 2 ^ n) : pureRun P (do eqGuard .shr t x y (.int .u64 (a : Int)) (.int k z); binOp .shr t (.int .u64 (a : Int)) (.int k z)) = some (.int .u64 (q : Int)) := by
  rw [hz, run_shrU hn, hq, Int.natCast_ediv, Int.natCast_pow]; rfl
theorem run_andUN (hz : z = (b : Int)) (ha : a < 18446744073709551616) (hb : b < 18446744073709551616) (hq : q = a &&& b) : pureRun P (do eqGuard .and t x y (.int .u64 (a : Int)) (.int .u64 z); binOp .and t (.int .u64 (a : Int)) (.int .u64 z)) = some (.int .u64 (q : Int)) := by
  rw [hz, hq, run_andU ha hb]
theorem run_addUN (hq : q = a + b) (hlt : q < 18446744073709551616) : pureRun P (do eqGuard .add t x y (.int .u64 (a : Int)) (.int .u64 (b : Int)); binOp .add t (.int .u64 (a : Int)) (.int .u64 (b : Int))) = some (.int .u64 (q : Int)) := by
  rw [run_addU, show ((a : Int) + b) % B64 = (q : Int) by unfold B64; omega]
theorem run_and127 (ha : a ≤ 6) : pureRun P (do eqGuard .and t x y (.int .i64 (a : Int)) (.int .i64 127); binOp .and t (.int .i64 (a : Int)) (.int .i64 127)) = some (.int .i64 (a : Int)) := by
  have : a = 0 ∨ a = 1 ∨ a = 2 ∨ a = 3 ∨ a = 4 ∨ a = 5 ∨ a = 6 := by omega
  rcases this with rfl | rfl | rfl | rfl | rfl | rfl | rfl <;> rfl
end
def oc8 (s : Nat) : Nat := (s / 2 ^ 1 &&& 6148914691236517205) + (s &&& 6148914691236517205)
def oc14 (s : Nat) : Nat := (oc8 s / 2 ^ 2 &&& 3689348814741910323) + (oc8 s &&& 3689348814741910323)
def oc18 (s : Nat) : Nat := oc14 s / 2 ^ 4 + oc14 s
def oc19 (s : Nat) : Nat := oc18 s &&& 1085102592571150095
def oc23 (s : Nat) : Nat := oc19 s + oc19 s / 2 ^ 8
def oc27 (s : Nat) : Nat := oc23 s + oc23 s / 2 ^ 16
def oc31 (s : Nat) : Nat := oc27 s + oc27 s / 2 ^ 32
theorem oc_ok : ∀ s, s < 64 → oc8 s < 1000 ∧ oc14 s < 1000 ∧ oc18 s < 1000 ∧ oc19 s < 1000 ∧ oc23 s < 1000 ∧ oc27 s < 1000 ∧ oc31 s = (bitsL s 6).length := by decide
set_option maxRecDepth 10000 in
set_option maxHeartbeats 8000000 in
theorem Ones64_spec (s : Nat) (hs : s < 64) (I : PH) : FnSpec Tryz.prog 89 [.int .u64 (s : Int)] I [] (fun u R' => u = .int .i64 ((bitsL s 6).length : Int) ∧ R' = []) := by
  obtain ⟨g8, g14, g18, g19, g23, g27, g31⟩ := oc_ok s hs
  have hl6 := bitsL_len s 6
  rw [← g31] at hl6 ⊢
  obtain ⟨v4, h4⟩ : ∃ v, v = s / 2 ^ 1 := ⟨_, rfl⟩
  obtain ⟨v5, h5⟩ : ∃ v, v = v4 &&& 6148914691236517205 := ⟨_, rfl⟩
  obtain ⟨v7, h7⟩ : ∃ v, v = s &&& 6148914691236517205 := ⟨_, rfl⟩
  have h8 : oc8 s = v5 + v7 := by rw [h5, h7, h4]; rfl
  have e10 : oc14 s = (oc8 s / 2 ^ 2 &&& 3689348814741910323) + (oc8 s &&& 3689348814741910323) := rfl
  have e18 : oc18 s = oc14 s / 2 ^ 4 + oc14 s := rfl
  have e19 : oc19 s = oc18 s &&& 1085102592571150095 := rfl
  have e23 : oc23 s = oc19 s + oc19 s / 2 ^ 8 := rfl
  have e27 : oc27 s = oc23 s + oc23 s / 2 ^ 16 := rfl
  have e31 : oc31 s = oc27 s + oc27 s / 2 ^ 32 := rfl
  generalize oc8 s = v8 at *
  generalize oc14 s = v14 at *
  generalize oc18 s = v18 at *
  generalize oc19 s = v19 at *
  generalize oc23 s = v23 at *
  generalize oc27 s = v27 at *
  generalize oc31 s = v31 at *
  obtain ⟨v10, h10⟩ : ∃ v, v = v8 / 2 ^ 2 := ⟨_, rfl⟩
  rw [← h10] at e10
  obtain ⟨v11, h11⟩ : ∃ v, v = v10 &&& 3689348814741910323 := ⟨_, rfl⟩
  obtain ⟨v13, h13⟩ : ∃ v, v = v8 &&& 3689348814741910323 := ⟨_, rfl⟩
  rw [← h11, ← h13] at e10
  obtain ⟨v16, h16⟩ : ∃ v, v = v14 / 2 ^ 4 := ⟨_, rfl⟩
  rw [← h16] at e18
  obtain ⟨v22, h22⟩ : ∃ v, v = v19 / 2 ^ 8 := ⟨_, rfl⟩
  rw [← h22] at e23
  obtain ⟨v26, h26⟩ : ∃ v, v = v23 / 2 ^ 16 := ⟨_, rfl⟩
  rw [← h26] at e27
  obtain ⟨v30, h30⟩ : ∃ v, v = v27 / 2 ^ 32 := ⟨_, rfl⟩
  rw [← h30] at e31
  have b4 : v4 < 64 := by rw [h4]; exact Nat.lt_of_le_of_lt (Nat.div_le_self _ _) hs
  have b10 : v10 < 1000 := by rw [h10]; exact Nat.lt_of_le_of_lt (Nat.div_le_self _ _) g8
  clear g31
  refine FnSpec.enterP Tryz.func89 rfl Tryz.ntmps89 rfl fun w F => ?_
  repeat' first
    | ((with_reducible refine Nx.is_wp ?_); first | refine Nx.wo ?_ | refine Nx.zp (fun hc => ?_) (fun hc => ?_))
    | (refine Nx.zo ?_; first | refine Nx.opr rfl rfl ?_ | refine Nx.bin rfl rfl (run_shrUN (n := 1) rfl (by omega) h4) rfl ?_ | refine Nx.bin rfl rfl (run_andUN (b := 6148914691236517205) rfl (by omega) (by omega) h5) rfl ?_ | refine Nx.bin rfl rfl (run_andUN (b := 6148914691236517205) rfl (by omega) (by omega) h7) rfl ?_ | refine Nx.bin rfl rfl (run_addUN h8 (by omega)) rfl ?_ | refine Nx.bin rfl rfl (run_shrUN (n := 2) rfl (by omega) h10) rfl ?_ | refine Nx.bin rfl rfl (run_andUN (b := 3689348814741910323) rfl (by omega) (by omega) h11) rfl ?_ | refine Nx.bin rfl rfl (run_andUN (b := 3689348814741910323) rfl (by omega) (by omega) h13) rfl ?_ | refine Nx.bin rfl rfl (run_addUN e10 (by omega)) rfl ?_ | refine Nx.bin rfl rfl (run_shrUN (n := 4) rfl (by omega) h16) rfl ?_ | refine Nx.bin rfl rfl (run_addUN e18 (by omega)) rfl ?_ | refine Nx.bin rfl rfl (run_andUN (b := 1085102592571150095) rfl (by omega) (by omega) e19) rfl ?_ | refine Nx.bin rfl rfl (run_shrUN (n := 8) rfl (by omega) h22) rfl ?_ | refine Nx.bin rfl rfl (run_addUN e23 (by omega)) rfl ?_ | refine Nx.bin rfl rfl (run_shrUN (n := 16) rfl (by omega) h26) rfl ?_ | refine Nx.bin rfl rfl (run_addUN e27 (by omega)) rfl ?_ | refine Nx.bin rfl rfl (run_shrUN (n := 32) rfl (by omega) h30) rfl ?_ | refine Nx.bin rfl rfl (run_addUN e31 (by omega)) rfl ?_ | refine Nx.conv_i64 (p := (v31 : Int)) rfl rfl rfl (by unfold I64; omega) rfl ?_ | refine Nx.bin rfl rfl (run_and127 hl6) rfl ?_ | refine Nx.so ?_ | refine Nx.sb (fun bx => ?_) | refine Nx.sa (fun A2 c2 => ?_))
    | ((with_reducible refine Nx.is_at ?_); first | refine Nx.a ?_ | refine Nx.zd ?_ | refine Nx.zs (fun hc => ?_) (fun hc => ?_))
    | ((with_reducible refine Nx.is_mix ?_); first | refine Nx.m ?_ | refine Nx.zm ?_ | refine Nx.zt (fun hc => ?_) (fun hc => ?_))
    | refine Nx.zx ?_ | fail
  exact Nx.ret_fn rfl [] ⟨rfl, rfl⟩ (by (exact Ent.auto))
set_option maxHeartbeats 8000000 in
set_option maxRecDepth 10000 in
theorem Ones_spec (s : Nat) (hs : s < 64) (I : PH) : FnSpec Tryz.prog 64 [.int .u64 (s : Int)] I [] (fun u R' => u = .int .i64 ((bitsL s 6).length : Int) ∧ R' = []) := by
  have h := Ones64_spec s hs I
  refine FnSpec.enterP Tryz.func64 rfl Tryz.ntmps64 rfl fun w F => ?_
  repeat' first
    | ((with_reducible refine Nx.is_wp ?_); first | refine Nx.wo ?_ | refine Nx.zp (fun hc => ?_) (fun hc => ?_))
    | (refine Nx.zo ?_; first | refine Nx.opr rfl rfl ?_ | refine Nx.callv rfl rfl rfl (by kernel_rfl) rfl h ?_ | refine Nx.so ?_ | refine Nx.sb (fun bx => ?_) | refine Nx.sa (fun A2 c2 => ?_))
    | ((with_reducible refine Nx.is_at ?_); first | refine Nx.a ?_ | refine Nx.zd ?_ | refine Nx.zs (fun hc => ?_) (fun hc => ?_))
    | ((with_reducible refine Nx.is_mix ?_); first | refine Nx.m ?_ | refine Nx.zm ?_ | refine Nx.zt (fun hc => ?_) (fun hc => ?_))
    | refine Nx.zx ?_ | fail
  exact Nx.ret_fn rfl [] ⟨rfl, rfl⟩ (by (exact Ent.auto))
/-! The order of sets -/
def cfN (w : List Int) (n : Nat) : Nat → Nat → Int := orC (fun a b => cmpI (wSum w (bitsL a n)) (wSum w (bitsL b n))) (orC (fun a b => cmpI ((bitsL a n).length : Int) ((bitsL b n).length : Int)) (fun a b => cmpL (bitsL a n) (bitsL b n)))
theorem cfN_le (w : List Int) (n : Nat) : LeC (cfN w n) := (cmpI_le.comap fun a => wSum w (bitsL a n)).or ((cmpI_le.comap fun a => ((bitsL a n).length : Int)).or (cmpL_le.comap fun a => bitsL a n))
theorem cfN_nz (w : List Int) (n a b : Nat) : firstNZ [cmpI (wSum w (bitsL a n)) (wSum w (bitsL b n)), cmpI ((bitsL a n).length : Int) ((bitsL b n).length : Int), cmpL (bitsL a n) (bitsL b n)] = cfN w n a b := by
  unfold cfN orC
  dsimp only
  unfold firstNZ firstNZ firstNZ firstNZ
  split
  · rfl
  · split
    · rfl
    · split <;> omega
set_option maxRecDepth 10000 in
set_option maxHeartbeats 16000000 in
theorem ord_spec (A : Option Addr) (ca bb : Nat) (w : List Int) (a b : Nat) (I : PH) (hA : Ints I A ca w) (hw : WOk w) (hw6 : w.length ≤ 6) (ha : a < 2 ^ w.length) (hb : b < 2 ^ w.length) (rb : ∀ (W : World) (R : List Res), Rd W I R ⟨bb, 0, none⟩ (.slice A w.length ca)) :
    FnSpec Tryz.prog 61 [.int .i64 (a : Int), .int .i64 (b : Int), .pointer (some ⟨bb, 0, none⟩)] I [] (fun u R' => u = .int .i64 (cfN w w.length a b) ∧ R' = []) := by
  have h64 : ∀ s, s < 2 ^ w.length → s < 64 := fun s hs => Nat.lt_of_lt_of_le hs (by have := Nat.pow_le_pow_right (n := 2) (by decide) hw6; simpa using this)
  have h6 : ∀ s, s < 2 ^ w.length → bitsL s 6 = bitsL s w.length := fun s hs => by
    have := bitsL_same hs (6 - w.length)
    rwa [show w.length + (6 - w.length) = 6 by omega] at this
  have hSa := sum_spec A ca w a I hA hw hw6 ha
  have hSb := sum_spec A ca w b I hA hw hw6 hb
  have hOa := Ones_spec a (h64 a ha) I
  have hOb := Ones_spec b (h64 b hb) I
  have hLa := list_spec a (h64 a ha) I
  have hLb := list_spec b (h64 b hb) I
  have hca : (a : Int) % B64 = (a : Int) := by unfold B64; have := h64 a ha; omega
  have hcb : (b : Int) % B64 = (b : Int) := by unfold B64; have := h64 b hb; omega
  have hnz := cfN_nz w w.length a b
  rw [h6 a ha] at hOa hLa
  rw [h6 b hb] at hOb hLb
  have hC1 := Compare_spec (wSum w (bitsL a w.length)) (wSum w (bitsL b w.length)) I
  have hC2 := Compare_spec ((bitsL a w.length).length : Int) ((bitsL b w.length).length : Int) I
  generalize wSum w (bitsL a w.length) = wa at *
  generalize wSum w (bitsL b w.length) = wb at *
  have hC3 := fun (A1 A2 : Option Addr) (c1 c2 : Nat) (m' I' : PH) (hle : PH.le I I') (hm : PH.le m' I') (hv : Stars [iR A1 c1 (bitsL a w.length), iR A2 c2 (bitsL b w.length)] m') => (by
    obtain ⟨q0, z0, y0⟩ := Stars.get 0 hv rfl
    obtain ⟨q1, z1, y1⟩ := Stars.get 1 hv rfl
    exact CompareL_spec A1 A2 c1 c2 _ _ I' (Vec.sliceOf (z0.trans hm) y0) (Vec.sliceOf (z1.trans hm) y1) :
    FnSpec Tryz.prog 65 [.slice A1 (bitsL a w.length).length c1, .slice A2 (bitsL b w.length).length c2] I' [] (fun u R' => u = .int .i64 (cmpL (bitsL a w.length) (bitsL b w.length)) ∧ R' = []))
  generalize cmpI wa wb = d1 at hC1 hnz
  generalize cmpI ((bitsL a w.length).length : Int) ((bitsL b w.length).length : Int) = d2 at hC2 hnz
  generalize cmpL (bitsL a w.length) (bitsL b w.length) = d3 at hC3 hnz
  have hOr := fun (bp : Nat) (m' I' : PH) (hle : PH.le I I') (hm : PH.le m' I') (hv : Stars [Blk bp 3 [.int .i64 d1, .int .i64 d2, .int .i64 d3]] m') => (by
    obtain ⟨q0, z0, y0⟩ := Stars.get 0 hv rfl
    have := Or_spec (some ⟨bp, 0, none⟩) 3 [d1, d2, d3] I' (Blk.sliceOf (t := 3) (l := [d1, d2, d3]) (z0.trans hm) y0 (by unfold maxLen; simp))
    rw [hnz] at this
    exact this :
    FnSpec Tryz.prog 62 [.slice (some ⟨bp, 0, none⟩) 3 3] I' [] (fun u R' => u = .int .i64 (cfN w w.length a b) ∧ R' = []))
  generalize cfN w w.length a b = z at hOr hnz
  clear hnz
  refine FnSpec.enterP Tryz.func61 rfl Tryz.ntmps61 rfl fun w0 F => ?_
  repeat' first
    | ((with_reducible refine Nx.is_wp ?_); first | refine Nx.wo ?_ | refine Nx.p_draw (id := 1) rfl [0, 1, 3, 4, 7, 8, 10, 11, 14, 16, 2, 5, 6, 9, 12, 13, 15, 17, 18, 19, 20, 21] [2, 5, 6, 9, 12, 13, 15, 17, 18, 19, 20] _ rfl rfl (by kernel_rfl) (by kernel_rfl) rfl (by repeat first | exact PanicOk.fn | refine PanicOk.then_ ?_ | refine PanicOk.inB ?_) (Ent.refl _) ?_ | refine Nx.zp (fun hc => ?_) (fun hc => ?_))
    | (refine Nx.zo ?_; first | refine Nx.opr rfl rfl ?_ | refine Nx.callv rfl rfl rfl (by kernel_rfl) rfl hSa ?_ | refine Nx.callv rfl rfl rfl (by kernel_rfl) rfl hSb ?_ | refine Nx.callv rfl rfl rfl (by kernel_rfl) rfl hC1 ?_ | refine Nx.callv rfl rfl rfl (by kernel_rfl) rfl hOa ?_ | refine Nx.callv rfl rfl rfl (by kernel_rfl) rfl hOb ?_ | refine Nx.callv rfl rfl rfl (by kernel_rfl) rfl hC2 ?_ | (refine Nx.call (Rpre := []) rfl rfl rfl (by kernel_rfl) rfl hLa (Ent.refl _) ?_; rintro _ _ ⟨A1, c1, rfl, rfl⟩) | (refine Nx.call (Rpre := []) rfl rfl rfl (by kernel_rfl) rfl hLb (Ent.refl _) ?_; rintro _ _ ⟨A2, c2, rfl, rfl⟩) | (refine Nx.call rfl rfl rfl (by kernel_rfl) rfl (FnSpec.keep [iR _ _ (bitsL a w.length), iR _ _ (bitsL b w.length)] fun m' I' hle hm' hv => hC3 _ _ _ _ m' I' hle hm' hv) (by (exact Ent.auto)) ?_; rintro _ _ ⟨_, ⟨rfl, rfl⟩, rfl⟩) | (refine Nx.call rfl rfl rfl (by kernel_rfl) rfl (FnSpec.keep [Blk _ 3 [.int .i64 d1, .int .i64 d2, .int .i64 d3]] fun m' I' hle hm' hv => hOr _ m' I' hle hm' hv) (by (exact Ent.auto)) ?_; rintro _ _ ⟨_, ⟨rfl, rfl⟩, rfl⟩) | refine Nx.so ?_ | refine Nx.sb (fun bx => ?_) | refine Nx.sa (fun A2 c2 => ?_))
    | ((with_reducible refine Nx.is_at ?_); first | refine Nx.a ?_ | refine Nx.zd ?_ | refine Nx.zs (fun hc => ?_) (fun hc => ?_))
    | ((with_reducible refine Nx.is_mix ?_); first | refine Nx.m_quiet rfl rfl rfl rfl rfl (by first | exact QRun.opr rfl | exact QRun.load rfl rfl (rb _ _) | exact QRun.convN (q := a) rfl rfl rfl hca | exact QRun.convN (q := b) rfl rfl rfl hcb) ?_ | refine Nx.m_quiet_do rfl rfl rfl rfl rfl rfl rfl (by first | exact QRun.opr rfl | exact QRun.load rfl rfl (rb _ _) | exact QRun.convN (q := a) rfl rfl rfl hca | exact QRun.convN (q := b) rfl rfl rfl hcb) ?_ | refine Nx.m ?_ | refine Nx.zm ?_ | refine Nx.zt (fun hc => ?_) (fun hc => ?_))
    | refine Nx.zx ?_ | fail
  exact Nx.ret_fn rfl [] ⟨rfl, rfl⟩ (by (exact Ent.auto))
/-- All sets of n bits. -/
abbrev Sb (n : Nat) := {s : Nat // s < 2 ^ n}
instance (n : Nat) : Inhabited (Sb n) := ⟨⟨0, Nat.two_pow_pos n⟩⟩
def allS (n : Nat) : List (Sb n) := (List.range (2 ^ n)).attach.map fun x => ⟨x.1, List.mem_range.1 x.2⟩
theorem allS_val (n : Nat) : (allS n).map (fun x => (x.1 : Int)) = (List.range (2 ^ n)).map fun k : Nat => (k : Int) := by
  unfold allS
  rw [List.map_map]
  conv => rhs; rw [← List.attach_map_subtype_val (List.range (2 ^ n)), List.map_map]
  rfl
theorem mem_allS {n : Nat} (s : Sb n) : s ∈ allS n := by
  unfold allS
  exact List.mem_map.2 ⟨⟨s.1, List.mem_range.2 s.2⟩, List.mem_attach _ _, rfl⟩
theorem allS_len (n : Nat) : (allS n).length = 2 ^ n := by unfold allS; simp
end Go.Proofs.YtjnhoemgceghlaaGreat
/- Contracts of functions of the given program, and lemmas about plain lists and numbers: what the laws of this seat lean on. -/
namespace Go.Proofs.YtjnhoemgceghlaaGreat
open Go.Eng Go.Sol
/-! All sets, the least one first -/
def setsI {n : Nat} (L : List (Sb n)) : List Int := L.map fun x => (x.1 : Int)
theorem setsI_len {n : Nat} (L : List (Sb n)) : (setsI L).length = L.length := by unfold setsI; rw [List.length_map]
def encS {n : Nat} (x : Sb n) : Value := .int .i64 (x.1 : Int)
theorem setsI_enc {n : Nat} (L : List (Sb n)) : (setsI L).map (Value.int .i64) = L.map encS := by unfold setsI; rw [List.map_map]; rfl
set_option maxHeartbeats 8000000 in
theorem SortS_spec (A : Option Addr) (c : Nat) (Aw : Option Addr) (ca bb : Nat) (w : List Int) (I : PH) (hA : Ints I Aw ca w) (hw : WOk w) (hw6 : w.length ≤ 6) (rb : ∀ (W : World) (R : List Res), Rd W I R ⟨bb, 0, none⟩ (.slice Aw w.length ca)) :
    FnSpec Tryz.prog 60 [.slice A (setsI (allS w.length)).length c, .func (.func 61) #[] #[.pointer (some ⟨bb, 0, none⟩)]] I [iR A c (setsI (allS w.length))]
      (fun v R' => v = .tuple #[] ∧ ∃ L : List (Sb w.length), L.Perm (allS w.length) ∧ L.Pairwise (fun x y => ltOf (fun a b : Sb w.length => cfN w w.length a.1 b.1) y x = false) ∧ R' = [iR A c (setsI L)]) := by
  intro w0 F hw0
  rcases vec_cases (l := setsI (allS w.length)) hw0 with ⟨_, h0, _⟩ | ⟨b, rfl, _⟩
  · have h1 := setsI_len (allS w.length)
    rw [h0, allS_len] at h1
    have := Nat.two_pow_pos w.length
    simp only [List.length_nil] at h1
    omega
  · have h := sort1_spec (I := I) (t := 3) srtF encS (fun _ => rfl) (fun a b : Sb w.length => cfN w w.length a.1 b.1) ((cfN_le w w.length).comap fun a : Sb w.length => a.1).swo 61 [.pointer (some ⟨bb, 0, none⟩)] (enters_of Tryz.func61 (by kernel_rfl) rfl) (fun x y => ord_spec Aw ca bb w x.1 y.1 I hA hw hw6 x.2 y.2 rb) b c (allS w.length) (by rw [allS_len]; have := Nat.pow_le_pow_right (n := 2) (by decide) hw6; omega)
    have hw1 : St w0 I ([Vec 3 1 (some ⟨b, 0, none⟩) (allS w.length).length c ((allS w.length).map encS)] ++ [F]) w0 := by
      unfold iR at hw0
      rw [setsI_len, setsI_enc] at hw0
      exact hw0
    rw [setsI_len]
    refine (h w0 F hw1).mono fun e w' => ?_
    rintro ⟨v, R', rfl, ⟨rfl, L, hp, hs, rfl⟩, hst⟩
    refine ⟨_, _, rfl, ⟨rfl, L, hp, hs, rfl⟩, ?_⟩
    unfold iR
    rw [setsI_len, setsI_enc]
    exact hst
attribute [local irreducible] opK wpList Code.wp Exit.then Exit.inBlock fnPost bodyPost Nx Calls Oper.wp Rd Rds Wr Ent Stars Blk Again Vec FnSpec wpMix QRun Stop Upto wpAt
def rangeI (k : Nat) : List Int := (List.range k).map fun j : Nat => (j : Int)
theorem rangeI_len (k : Nat) : (rangeI k).length = k := by unfold rangeI; simp
theorem rangeI_succ (k : Nat) : rangeI (k + 1) = rangeI k ++ [(k : Int)] := by unfold rangeI; rw [List.range_succ, List.map_append]; rfl
set_option maxRecDepth 10000 in
set_option maxHeartbeats 8000000 in
theorem ordered_spec (A : Option Addr) (ca : Nat) (w : List Int) (I : PH) (hA : Ints I A ca w) (hw : WOk w) (hw6 : w.length ≤ 6) :
    FnSpec Tryz.prog 37 [.slice A w.length ca] I [] (fun u R' => ∃ (A' : Option Addr) (c' : Nat) (L : List (Sb w.length)), u = .slice A' (setsI L).length c' ∧ L.Perm (allS w.length) ∧ L.Pairwise (fun x y => ltOf (fun a b : Sb w.length => cfN w w.length a.1 b.1) y x = false) ∧ R' = [iR A' c' (setsI L)]) := by
  obtain ⟨p, hp⟩ : ∃ p, p = 2 ^ w.length := ⟨_, rfl⟩
  have hp64 : p ≤ 64 := by rw [hp]; have := Nat.pow_le_pow_right (n := 2) (by decide) hw6; simpa using this
  have hall : setsI (allS w.length) = rangeI p := by rw [hp]; exact allS_val w.length
  have hSt := fun (A' : Option Addr) (c' bb : Nat) (I' : PH) (hle : PH.le I I') (rb : ∀ (W : World) (R : List Res), Rd W I' R ⟨bb, 0, none⟩ (.slice A w.length ca)) => SortS_spec A' c' A ca bb w I' (hA.mono hle) hw hw6 rb
  rw [hall, rangeI_len] at hSt
  refine FnSpec.enterP Tryz.func37 rfl Tryz.ntmps37 rfl fun w0 F => ?_
  repeat' first
    | ((with_reducible refine Nx.is_wp ?_); first | refine Nx.wo ?_ | refine Nx.zp (fun hc => ?_) (fun hc => ?_))
    | (refine Nx.zo ?_; first | refine Nx.opr rfl rfl ?_ | refine Nx.bin rfl rfl (run_shlK (.inl rfl) rfl hw6 hp) rfl ?_ | refine Nx.so ?_ | refine Nx.sb (fun bx => ?_) | refine Nx.sa (fun A2 c2 => ?_))
    | ((with_reducible refine Nx.is_at ?_); first | refine Nx.a ?_ | refine Nx.zd ?_ | refine Nx.zs (fun hc => ?_) (fun hc => ?_))
    | ((with_reducible refine Nx.is_mix ?_); first | refine Nx.m ?_ | refine Nx.zm ?_ | refine Nx.zt (fun hc => ?_) (fun hc => ?_))
    | refine Nx.zx ?_ | fail
  revert bx; intro b1
  refine Nx.p_loop (σ := Nat × Option Addr × Nat) (fun q => [(1, .pointer (some ⟨b1, 0, none⟩)), (3, .slice q.2.1 q.1 q.2.2), (7, .int .i64 (p : Int)), (8, .int .i64 (q.1 : Int))])
    (fun q => [Vec 3 1 q.2.1 q.1 q.2.2 ((rangeI q.1).map (Value.int .i64)), Blk b1 25 [.slice A w.length ca], F]) (fun q => q.1 ≤ p) (fun q => p - q.1) (0, none, 0) rfl (Nat.zero_le _) ⟨rfl, rfl, rfl, rfl, trivial⟩ ((Ent.vec_nil 3 1 _).trans (by (exact Ent.auto))) ?_
  rintro ⟨k, A', c'⟩ hk
  dsimp only at hk ⊢
  by_cases hkp : k < p
  · repeat' first
      | ((with_reducible refine Nx.is_wp ?_); first | refine Nx.wo ?_ | refine Nx.zp (fun hc => ?_) (fun hc => ?_))
      | (refine Nx.zo ?_; first | refine Nx.opr rfl rfl ?_ | refine Nx.so ?_ | refine Nx.sb (fun bx => ?_) | refine Nx.sa (fun A2 c2 => ?_))
      | ((with_reducible refine Nx.is_at ?_); first | refine Nx.a ?_ | refine Nx.zd ?_ | refine Nx.zs (fun hc => ?_) (fun hc => ?_))
      | ((with_reducible refine Nx.is_mix ?_); first | refine Nx.m ?_ | refine Nx.zm ?_ | refine Nx.zt (fun hc => ?_) (fun hc => ?_))
      | refine Nx.zx ?_ | fail
    exact Nx.again (k + 1, A2, c2) hkp (by dsimp only; omega) ⟨rfl, rfl, rfl, rfl, trivial⟩ (by dsimp only; rw [rangeI_succ, List.map_append]; (exact Ent.auto))
  obtain rfl : k = p := by omega
  refine Nx.freezeAt 1 rfl fun I2 m2 hI2 hm2 hb2 => ?_
  have rb : ∀ (W : World) (R : List Res), Rd W I2 R ⟨b1, 0, none⟩ (.slice A w.length ca) := fun W R => Rd.imm (cellH_mono hm2 (Blk.cell hb2 rfl))
  repeat' first
    | ((with_reducible refine Nx.is_wp ?_); first | refine Nx.wo ?_ | refine Nx.zp (fun hc => ?_) (fun hc => ?_))
    | (refine Nx.zo ?_; first | refine Nx.opr rfl rfl ?_ | (refine Nx.call rfl rfl rfl (by kernel_rfl) rfl (hSt _ _ b1 I2 hI2 rb) (by unfold iR; rw [rangeI_len]; (exact Ent.auto)) ?_; rintro _ _ ⟨rfl, L, hpm, hps, rfl⟩) | refine Nx.so ?_ | refine Nx.sb (fun bx => ?_) | refine Nx.sa (fun A2 c2 => ?_))
    | ((with_reducible refine Nx.is_at ?_); first | refine Nx.a ?_ | refine Nx.zd ?_ | refine Nx.zs (fun hc => ?_) (fun hc => ?_))
    | ((with_reducible refine Nx.is_mix ?_); first | refine Nx.m ?_ | refine Nx.zm ?_ | refine Nx.zt (fun hc => ?_) (fun hc => ?_))
    | refine Nx.zx ?_ | fail
  have hl : (setsI L).length = k := by rw [setsI_len, hpm.length_eq, allS_len, hp]
  exact Nx.imm_le hI2 (Nx.ret_fn rfl [_] ⟨A', c', L, by rw [hl], hpm, hps, rfl⟩ (by (exact Ent.auto)))
end Go.Proofs.YtjnhoemgceghlaaGreat
/- Contracts of functions of the given program, and lemmas about plain lists and numbers: what the laws of this seat lean on. -/
namespace Go.Proofs.YtjnhoemgceghlaaGreat
open Go.Eng Go.Sol
/-! What releases say does not lean on where they lie -/
def vStrip (v : List Row) : List Row := v.map fun r => (none, 0, r.2.2)
theorem vStrip_len (v : List Row) : (vStrip v).length = v.length := by unfold vStrip; rw [List.length_map]
theorem vStrip_at (v : List Row) (k : Nat) : ((vStrip v).getD k default).2.2 = (v.getD k default).2.2 := by
  unfold vStrip
  rw [List.getD_eq_getElem?_getD, List.getElem?_map, List.getD_eq_getElem?_getD]
  cases v[k]? <;> rfl
theorem szs_strip (v : List Row) : szs (vStrip v) = szs v := by unfold szs vStrip; rw [List.map_map]; rfl
theorem gsOf_strip (v : List Row) (xs : List Int) : gsOf (vStrip v) xs = gsOf v xs := by
  unfold gsOf
  rw [vStrip_len]
  exact List.map_congr_left fun i _ => by rw [vStrip_at]
theorem pubOf_strip (l : List Int) (v : List Row) (n : Nat) : pubOf l (vStrip v) n = pubOf l v n := by unfold pubOf; rw [gsOf_strip, szs_strip, vStrip_len]
theorem memK_strip (l : List Int) (v : List Row) (k : Int) (n : Nat) : memK l (vStrip v) k n = memK l v k n := by
  unfold memK
  congr 1
  exact List.filter_congr fun j _ => by rw [pubOf_strip]
theorem toldK_strip (l : List Int) (v : List Row) (vs : List Int) : ∀ j, toldK l (vStrip v) vs j = toldK l v vs j
  | 0 => rfl
  | j + 1 => by rw [toldK, toldK, toldK_strip l v vs j, memK_strip]
def rStrip (r : Rel) : Rel := ⟨r.num, none, 0, vStrip r.v, (none, 0, r.val.2.2)⟩
theorem told_strip (l : List Int) (r : Rel) : told l (rStrip r) = told l r := toldK_strip l r.v r.val.2.2 _
theorem relE_strip (l : List Int) (r : Rel) (b : Int) : relE l (rStrip r) b = relE l r b := by
  unfold relE rStrip
  dsimp only
  rw [szs_strip]
theorem relsF_strip (l : List Int) : ∀ (rs : List Rel) (b : Int), relsF l b (rs.map rStrip) = relsF l b rs
  | [], _ => rfl
  | r :: rs, b => by
    rw [List.map_cons, relsF, relsF, relE_strip, relsF_strip l rs]
    rfl
theorem relsE_strip (l : List Int) (rs : List Rel) : relsE l (rs.map rStrip) = relsE l rs := by unfold relsE; rw [List.length_map, relsF_strip]
theorem qsOf_strip (l : List Int) (rs : List Rel) : qsOf l (rs.map rStrip) = qsOf l rs := by
  unfold qsOf
  rw [List.flatMap_map]
  rw [List.flatMap_def, List.flatMap_def, List.map_congr_left fun r _ => told_strip l r]
theorem rchD_strip (l : List Int) (rs : List Rel) : rchD l (rs.map rStrip) = rchD l rs := by unfold rchD; rw [relsE_strip, qsOf_strip]
theorem chkD_strip (l : List Int) (rs : List Rel) (p : List Int) (m : Int) : chkD l (rs.map rStrip) p m = chkD l rs p m := by unfold chkD; rw [relsE_strip]
theorem findD_strip (l : List Int) (rs : List Rel) (p : List Int) (m : Int) : findD l (rs.map rStrip) p m = findD l rs p m := by unfold findD; rw [chkD_strip, rchD_strip]
theorem find_same {l : List Int} {rs rs' : List Rel} (h : rs.map rStrip = rs'.map rStrip) (p : List Int) (m : Int) : findD l rs p m = findD l rs' p m := by rw [← findD_strip l rs, h, findD_strip]
theorem viewed_strip {l : List Int} {v v' : List Row} (h : vStrip v = vStrip v') (hw : Viewed l v) : Viewed l v' := by
  have hl : v.length = v'.length := by rw [← vStrip_len v, h, vStrip_len]
  refine ⟨by rw [← hl]; exact hw.len, fun k hk => ?_⟩
  have h1 := vStrip_at v k
  rw [h, vStrip_at] at h1
  rw [h1]
  exact hw.each k hk
/-! Hidden values -/
def hidL (vs L : List Int) : List Int := L.foldl (fun vs k => vs.set k.toNat (-1)) vs
theorem hidL_snoc (vs L : List Int) (x : Int) : hidL vs (L ++ [x]) = (hidL vs L).set x.toNat (-1) := by unfold hidL; rw [List.foldl_append]; rfl
theorem hidL_len : ∀ (L vs : List Int), (hidL vs L).length = vs.length
  | [], _ => rfl
  | x :: L, vs => by
    have := hidL_len L (vs.set x.toNat (-1))
    rw [List.length_set] at this
    exact this
def inB (n k : Int) : Bool := decide (0 ≤ k ∧ k < n)
/-- Why a set cannot be hidden. -/
def hideE (vs L : List Int) : Int := if L.Pairwise (· < ·) then if L.all (inB vs.length) = true then 0 else 2 else 11
/-- A release with a set hidden: what it says. -/
def hidR (r : Rel) (L : List Int) : Rel := ⟨r.num, none, 0, vStrip r.v, (none, 0, hidL r.val.2.2 L)⟩
theorem vStrip_idem (v : List Row) : vStrip (vStrip v) = vStrip v := by unfold vStrip; rw [List.map_map]; rfl
/-- The answer of Safe behind earlier releases, with a set hidden. -/
def protF (l : List Int) (es : List Rel) (r : Rel) (L p : List Int) (m : Int) : Bool × Int :=
  if hideE r.val.2.2 L ≠ 0 then (false, hideE r.val.2.2 L) else (safeB l (es ++ [hidR r L]) p m, (findD l (es ++ [hidR r L]) p m).2)
theorem prot_same {l : List Int} {es : List Rel} {r r' : Rel} {L p : List Int} {m : Int} (h1 : r'.num = r.num) (h2 : vStrip r'.v = vStrip r.v) (h3 : r'.val.2.2 = hidL r.val.2.2 L) : findD l (es ++ [r']) p m = findD l (es ++ [hidR r L]) p m := by
  refine find_same ?_ p m
  rw [List.map_append, List.map_append]
  congr 1
  unfold hidR rStrip
  simp only [List.map_cons, List.map_nil]
  rw [h1, h2, h3, vStrip_idem]
end Go.Proofs.YtjnhoemgceghlaaGreat
