/- Contracts of functions of the given program, and lemmas about plain lists and numbers: what the laws of this seat lean on. -/
import Derived.Test.YtcmdemfhbekabaaAl8
namespace Go.Proofs.Ytcmdemfhbekabaa
open Go.Eng Go.Sol
attribute [local irreducible] opK wpList Code.wp Exit.then Exit.inBlock fnPost bodyPost Nx Calls Oper.wp Rd Rds Wr Ent Stars Blk Again Vec FnSpec wpMix QRun Stop Upto wpAt
/-! Plain: what the laws on the attacker say -/
theorem vals_ne {n k : Nat} {L : List Eqn} (hne : solsOf n L ≠ []) : 0 < (valsOf n L k).length := by
  obtain ⟨s, hs⟩ := List.exists_mem_of_ne_nil _ hne
  exact List.length_pos_of_mem (((vals_set n L k).mem _).2 ⟨s, hs, rfl⟩)
theorem asc_lt {l : List Int} (h : l.Pairwise (· < ·)) {i j : Nat} (hij : i < j) (hj : j < l.length) : l.getD i default < l.getD j default := by
  rw [List.pairwise_iff_getElem] at h
  have := h i j (by omega) hj hij
  rw [List.getD_eq_getElem?_getD, List.getD_eq_getElem?_getD, List.getElem?_eq_getElem (show i < l.length by omega), List.getElem?_eq_getElem hj]
  exact this
theorem vals_one {n k : Nat} {L : List Eqn} {s : List Int} (h1 : (valsOf n L k).length = 1) (hs : s ∈ solsOf n L) : (valsOf n L k).getD 0 default = s.getD k 0 := by
  obtain ⟨j, hj, he⟩ := mem_getDI (((vals_set n L k).mem _).2 ⟨s, hs, rfl⟩)
  obtain rfl : j = 0 := by omega
  exact he
theorem mem_cert {n : Nat} {L : List Eqn} {x : Int} : x ∈ certL n L ↔ ∃ k ∈ touch n L, (valsOf n L k).length = 1 ∧ x = (k : Int) := by
  unfold certL certU natI
  rw [List.mem_map]
  constructor
  · rintro ⟨k, hk, rfl⟩
    rw [List.mem_filter, decide_eq_true_eq] at hk
    exact ⟨k, hk.1, hk.2, rfl⟩
  · rintro ⟨k, h1, h2, rfl⟩
    exact ⟨k, List.mem_filter.2 ⟨h1, decide_eq_true h2⟩, rfl⟩
theorem cert_asc (n : Nat) (L : List Eqn) : (certL n L).Pairwise (· < ·) := by
  unfold certL certU natI
  rw [List.pairwise_map]
  exact ((touch_asc n L).filter _).imp fun h => Int.ofNat_lt.2 h
/-- Releases of a made table. -/
structure MadeA (l t : List Int) (rs : List Rel) : Prop where
  rel : relsE l rs = 0
  good : ∀ q ∈ qsOf l rs, GoodE (prod l).toNat q
  len : (qsOf l rs).length ≤ 1152
  ne : solsOf (prod l).toNat (eqns (qsOf l rs)) ≠ []
  want : wantL (prod l).toNat (touch (prod l).toNat (eqns (qsOf l rs))) t ∈ solsOf (prod l).toNat (eqns (qsOf l rs))
  chk : chkQ (prod l) (qsOf l rs) = if smallB (prod l).toNat (eqns (qsOf l rs)) = false then 1 else 0
theorem made_a {l t : List Int} {rs : List Rel} (hs : Sizes l) (hT : tabOk l t 2) (h : RelsOk l t rs) (hn : rs.length ≤ 24) : MadeA l t rs := by
  have hV := relsV_of hs hT (by decide) (by decide) h hn
  have hz := size_ok hs
  have hg := told_good hs hV
  have hchk := chk_of (N := (prod l).toNat) (qs := qsOf l rs) (by omega) (hV.qlen hs) hg
  rw [hz.2.2] at hchk
  have hw := want_sol (t := t) hg (fun c _ => by
    by_cases hct : c < t.length
    · have := hT.2 c hct
      show 0 ≤ t.getD c default ∧ t.getD c default ≤ 1000000
      omega
    · rw [getD_ge (by omega)]; decide) fun q hq => by
      obtain ⟨p, hp, rfl⟩ := List.mem_map.1 hq
      exact (told_eq (q := canonE p) hs hT (by decide) (by decide) h hn hp).2
  exact ⟨(relsE_iff hs (views_of h)).2 hV, hg, hV.qlen hs, List.ne_nil_of_mem hw, hw, hchk⟩
theorem MadeA.tol {l t : List Int} {rs : List Rel} (h : MadeA l t rs) : tolE l rs = chkQ (prod l) (qsOf l rs) := by unfold tolE; rw [if_pos h.rel]
theorem MadeA.tol2 {l t : List Int} {rs : List Rel} (h : MadeA l t rs) : tolE l rs = if smallB (prod l).toNat (eqns (qsOf l rs)) = false then 1 else 0 := h.tol.trans h.chk
theorem MadeA.cer {l t : List Int} {rs : List Rel} (h : MadeA l t rs) : cerD l rs = if tolE l rs = 0 then (certL (prod l).toNat (eqns (qsOf l rs)), 0) else ([], tolE l rs) := by
  unfold cerD certF
  rw [if_neg h.ne]
theorem vals_fewer {N k : Nat} {l r : List EqR} (hr : ∀ q ∈ r, GoodE N q) (h : ∀ q ∈ l, q ∈ r) (hk : k ∈ touch N (eqns l)) (hne : solsOf N (eqns r) ≠ []) (h1 : (valsOf N (eqns l) k).length = 1) : (valsOf N (eqns r) k).length = 1 := by
  have h0 := vals_ne (k := k) hne
  have hin : ∀ z ∈ valsOf N (eqns r) k, z = (valsOf N (eqns l) k).getD 0 default := fun z hz => by
    obtain ⟨s, hs, rfl⟩ := ((vals_set N (eqns r) k).mem _).1 hz
    rw [vals_one h1 (sols_fewer hr h hs), wantL_at (mem_touch.1 hk).1, if_pos hk]
  by_cases h2 : 1 < (valsOf N (eqns r) k).length
  · exfalso
    have := asc_lt (vals_set N (eqns r) k).asc (i := 0) (j := 1) (by decide) h2
    rw [hin _ (getD_memI h0), hin _ (getD_memI h2)] at this
    omega
  · omega
theorem cert_more {N : Nat} {l r : List EqR} (hr : ∀ q ∈ r, GoodE N q) (h : ∀ q ∈ l, q ∈ r) (hne : solsOf N (eqns r) ≠ []) {x : Int} (hx : x ∈ certL N (eqns l)) : x ∈ certL N (eqns r) := by
  obtain ⟨k, h1, h2, rfl⟩ := mem_cert.1 hx
  exact mem_cert.2 ⟨k, touch_mono h h1, vals_fewer hr h h1 hne h2, rfl⟩
theorem len_split (p : Int → Bool) : ∀ b : List Int, b.length = (b.filter p).length + (b.filter fun x => !p x).length
  | [] => rfl
  | x :: b => by
    have ih := len_split p b
    rw [List.length_cons]
    cases h : p x with
    | true => rw [List.filter_cons_of_pos h, List.filter_cons_of_neg (by rw [h]; decide), List.length_cons]; omega
    | false => rw [List.filter_cons_of_neg (by rw [h]; decide), List.filter_cons_of_pos (by rw [h]; rfl), List.length_cons]; omega
theorem len_but {a b : List Int} (ha : a.Pairwise (· < ·)) (hb : b.Pairwise (· < ·)) (h : ∀ x ∈ a, x ∈ b) : b.length = a.length + (b.filter fun x => !decide (x ∈ a)).length := by
  have e : (b.filter fun x => decide (x ∈ a)) = a := asc_ext (hb.filter _) ha fun x => by
    rw [List.mem_filter, decide_eq_true_eq]
    exact ⟨fun h => h.2, fun hx => ⟨h x hx, hx⟩⟩
  have := len_split (fun x => decide (x ∈ a)) b
  rw [e] at this
  exact this
theorem told_num {l : List Int} {r : Rel} {n : Int} : told l ⟨n, r.va, r.vc, r.v, r.val⟩ = told l r := rfl
theorem rel_num {l t : List Int} {r : Rel} {n : Int} (h : RelOk l t r) : RelOk l t ⟨n, r.va, r.vc, r.v, r.val⟩ := ⟨h.view, h.len, h.each⟩
/-- The law on what is learned from one more release. -/
theorem learn_law {l t : List Int} {rs : List Rel} {r rh : Rel} (hs : Sizes l) (hT : tabOk l t 2) (h : RelsOk l t rs) (hn : rs.length ≤ 22) (hr : RelOk l t r) (hrn : r.num = rs.length) (hrh : RelOk l t rh) (hrhn : rh.num = rs.length) (hh : ∀ z ∈ rh.val.2.2, z = -1) :
    (((cerD l rs).2 ≠ 0 ∨ (cerD l (rs ++ [r])).2 ≠ 0) → (lrnD l rs r).2 ≠ 0) ∧
    ((cerD l rs).2 = 0 → (cerD l (rs ++ [r])).2 = 0 → (lrnD l rs r).2 = 0 ∧ lrnD l (rs ++ [r]) ⟨rs.length + 1, r.va, r.vc, r.v, r.val⟩ = ([], 0) ∧ lrnD l rs rh = ([], 0) ∧ (cerD l (rs ++ [r])).1.length = (cerD l rs).1.length + (lrnD l rs r).1.length ∧ ∀ k ∈ (lrnD l rs r).1, k ∉ (cerD l rs).1) := by
  have hz := size_ok hs
  have hl1 : (rs ++ [r]).length = rs.length + 1 := by rw [List.length_append]; rfl
  have o1 := rels_snoc h hr hrn
  have o2 := rels_snoc (r := ⟨rs.length + 1, r.va, r.vc, r.v, r.val⟩) o1 (rel_num hr) (by rw [hl1]; rfl)
  have o3 := rels_snoc h hrh hrhn
  have m0 := made_a hs hT h (by omega)
  have m1 := made_a hs hT o1 (by omega)
  have m2 := made_a hs hT o2 (by rw [List.length_append, hl1]; show rs.length + 1 + 1 ≤ 24; omega)
  have m3 := made_a hs hT o3 (by rw [List.length_append]; show rs.length + 1 ≤ 24; omega)
  have q3 : qsOf l (rs ++ [rh]) = qsOf l rs := by rw [qsOf_snoc, told_hid hh, List.map_nil, List.append_nil]
  have q2 : ∀ q, q ∈ qsOf l (rs ++ [r] ++ [⟨rs.length + 1, r.va, r.vc, r.v, r.val⟩]) ↔ q ∈ qsOf l (rs ++ [r]) := fun q => by
    rw [qsOf_snoc l (rs ++ [r]), told_num, qsOf_snoc l rs, List.mem_append, List.mem_append]
    constructor
    · rintro ((h | h) | h)
      · exact .inl h
      · exact .inr h
      · exact .inr h
    · exact fun h => .inl h
  have t2 : tolE l (rs ++ [r] ++ [⟨rs.length + 1, r.va, r.vc, r.v, r.val⟩]) = tolE l (rs ++ [r]) := by rw [m2.tol2, m1.tol2, small_same q2]
  have t3 : tolE l (rs ++ [rh]) = tolE l rs := by rw [m3.tol2, m0.tol2, q3]
  have c2 : cerD l (rs ++ [r] ++ [⟨rs.length + 1, r.va, r.vc, r.v, r.val⟩]) = cerD l (rs ++ [r]) := by
    rw [m2.cer, m1.cer, t2]
    have : certL (prod l).toNat (eqns (qsOf l (rs ++ [r] ++ [⟨rs.length + 1, r.va, r.vc, r.v, r.val⟩]))) = certL (prod l).toNat (eqns (qsOf l (rs ++ [r]))) := by
      unfold certL certU valsOf
      rw [touch_same q2, sols_same m2.good q2]
    rw [this]
  have c3 : cerD l (rs ++ [rh]) = cerD l rs := by rw [m3.cer, m0.cer, t3, q3]
  have e0 := m0.cer
  have e1 := m1.cer
  have d0 : (cerD l rs).2 = tolE l rs := by rw [e0]; split <;> simp_all
  have d1 : (cerD l (rs ++ [r])).2 = tolE l (rs ++ [r]) := by rw [e1]; split <;> simp_all
  constructor
  · intro hor
    unfold lrnD
    rw [d0, d1] at hor
    by_cases ha : tolE l (rs ++ [r]) = 0
    · have hb : tolE l rs ≠ 0 := by omega
      rw [if_neg (by omega), if_pos hb]; exact hb
    · rw [if_pos ha]; exact ha
  · intro ha hb
    rw [d0] at ha
    rw [d1] at hb
    rw [if_pos ha] at e0
    rw [if_pos hb] at e1
    have hl : lrnD l rs r = ((certL (prod l).toNat (eqns (qsOf l (rs ++ [r])))).filter fun x => !decide (x ∈ certL (prod l).toNat (eqns (qsOf l rs))), 0) := by
      unfold lrnD
      rw [if_neg (by omega), if_neg (by omega), if_neg (by rw [d1]; omega), if_neg (by rw [d0]; omega), e0, e1]
    have hself : ∀ a : List Int, (a.filter fun x => !decide (x ∈ a)) = [] := fun a => by
      rw [List.filter_eq_nil_iff]
      intro x hx
      rw [decide_eq_true hx]; decide
    refine ⟨by rw [hl], ?_, ?_, ?_, ?_⟩
    · unfold lrnD
      rw [t2, c2, if_neg (by omega), if_neg (by omega), if_neg (by rw [d1]; omega), if_neg (by rw [d1]; omega), hself]
    · unfold lrnD
      rw [t3, c3, if_neg (by omega), if_neg (by omega), if_neg (by rw [d0]; omega), if_neg (by rw [d0]; omega), hself]
    · rw [hl, e0, e1]
      exact len_but (cert_asc _ _) (cert_asc _ _) fun x hx => cert_more m1.good (fun q hq => by rw [qsOf_snoc]; exact List.mem_append.2 (.inl hq)) m1.ne hx
    · rw [hl, e0]
      intro k hk hc
      rw [List.mem_filter, decide_eq_true hc] at hk
      exact absurd hk.2 (by decide)
end Go.Proofs.Ytcmdemfhbekabaa
/- Contracts of functions of the given program, and lemmas about plain lists and numbers: what the laws of this seat lean on. -/
namespace Go.Proofs.Ytcmdemfhbekabaa
open Go.Eng Go.Sol
attribute [local irreducible] opK wpList Code.wp Exit.then Exit.inBlock fnPost bodyPost Nx Calls Oper.wp Rd Rds Wr Ent Stars Blk Again Vec FnSpec wpMix QRun Stop Upto wpAt
attribute [local irreducible] wpFork
/-! One more release behind others, in AttackerLearns: allocations in any order (written by mkV30.py) -/
set_option maxRecDepth 10000 in
set_option maxHeartbeats 8000000 in
theorem learn7 (B As Av Ap : Option Addr) (cs ca cv cz sn vn zn b4 b10 : Nat) (num : Int) (rs : List Rel) (v7 v8 v11 v12 : Value) (xs : List Int) (er : Int) (I : PH) (hr : SliceN relC 3 I As ca rs) (h9 : rs.length ≤ 1000) (w : World) (X F : Res) (Q : Exit → Act → World → Prop) (hQ : PanicOk Q)
    (spec : ∀ A3 c3 q I', PH.le I I' → PH.le q I' → Stars [Vec 44 3 A3 (rs.length + 1) c3 (rs.flatMap relC ++ [.int .i64 num, .slice Av vn cv, .slice Ap zn cz])] q → FnSpec Try.prog 16 [.agg #[.slice B sn cs], .slice A3 (rs.length + 1) c3] I' [] (fun u R' => ∃ (A' : Option Addr) (c' : Nat), u = .tuple #[.slice A' xs.length c', .int .i64 er] ∧ R' = [iR A' c' xs]))
    (h : ∀ (A5 : Option Addr) (c5 : Nat), Nx ⟨Try.prog, 177, w⟩ [(13, .slice A5 xs.length c5), (14, .int .i64 er), (4, .pointer (some ⟨b4, 0, none⟩)), (6, .slice As rs.length ca), (10, .pointer (some ⟨b10, 0, none⟩)), (7, v7), (8, v8), (11, v11), (12, v12)] I [iR A5 c5 xs, Blk b4 27 [.slice B sn cs], Blk b10 44 [.int .i64 num, .slice Av vn cv, .slice Ap zn cz], X, F] (Q .normal)) :
    Nx ⟨Try.prog, 177, w⟩ [(4, .pointer (some ⟨b4, 0, none⟩)), (6, .slice As rs.length ca), (10, .pointer (some ⟨b10, 0, none⟩)), (7, v7), (8, v8), (11, v11), (12, v12)] I [Blk b4 27 [.slice B sn cs], Blk b10 44 [.int .i64 num, .slice Av vn cv, .slice Ap zn cz], X, F]
      (Code.wp Try.prog (cl (cr (cr (cr (cr (cr (cr (cr (bodyOf Try.f5))))))))) Q) := by
  have hcap := hr.cap
  refine Nx.p_fork (id := 7) rfl [0, 2, 4] [8, 9, 10, 11, 12] [1, 3, 5, 6, 7] [Blk b4 27 [.slice B sn cs], Blk b10 44 [.int .i64 num, .slice Av vn cv, .slice Ap zn cz]] 10 rfl rfl (by kernel_rfl) (by kernel_rfl) (by kernel_rfl) hQ (by (exact Ent.auto)) ?_
  repeat' first
    | ((with_reducible refine Nx.is_wp ?_); first | refine Nx.wo ?_ | refine Nx.zp (fun hc => ?_) (fun hc => ?_))
    | (refine Nx.zo ?_; first | refine Nx.opr rfl rfl ?_ | refine Nx.so ?_ | refine Nx.sb (fun bx => ?_) | refine Nx.sa (fun A2 c2 => ?_))
    | ((with_reducible refine Nx.is_at ?_); first | refine Nx.a ?_ | refine Nx.zd ?_ | refine Nx.zs (fun hc => ?_) (fun hc => ?_))
    | ((with_reducible refine Nx.is_mix ?_); first | refine Nx.m ?_ | refine Nx.zm ?_ | refine Nx.zt (fun hc => ?_) (fun hc => ?_))
    | refine Nx.zx ?_ | fail
  refine Nx.fork2 (i := 1) (j := 5) (by kernel_rfl) rfl rfl rfl rfl ?_ ?_
  · refine Nx.sb (fun b0 => ?_)
    refine Nx.mix_S (by (exact Ent.auto)) ?_
    refine Nx.fork2 (i := 3) (j := 5) (by kernel_rfl) rfl rfl rfl rfl ?_ ?_
    · refine Nx.blk_vec 0 0 3 rfl rfl (by omega) ?_
      refine Nx.append rfl rfl rfl rfl (by kernel_rfl) rfl (Src.arr hr.arr (flat_len relC_len rs) (by omega) (rel_one rs)) (by omega) fun A2 c2 => ?_
      rw [Nat.zero_add, List.nil_append]
      refine Nx.mix_S (by (exact Ent.auto)) ?_
      refine Nx.fork1 (i := 5) (by kernel_rfl) rfl rfl ?_
      refine Nx.sb (fun b9 => ?_)
      refine Nx.mix_S (by (exact Ent.auto)) ?_
      refine Nx.fork1 (i := 6) (by kernel_rfl) rfl rfl ?_
      refine Nx.ent (R' := [Blk b9 44 [.int .i64 num, .slice Av vn cv, .slice Ap zn cz], Vec 44 3 A2 rs.length c2 (rs.flatMap relC), Blk b4 27 [.slice B sn cs], Blk b10 44 [.int .i64 num, .slice Av vn cv, .slice Ap zn cz], X, F]) (by (exact Ent.auto)) ?_
      refine Nx.append_lit 0 rfl rfl rfl rfl (by kernel_rfl) rfl rfl rfl rfl (by omega) fun A3 c3 => ?_
      refine Nx.mix_S (by (exact Ent.auto)) ?_
      refine Nx.fork1 (i := 7) (by kernel_rfl) rfl rfl ?_
      refine Nx.call rfl rfl rfl (by kernel_rfl) rfl (FnSpec.keep [Vec 44 3 A3 (rs.length + 1) c3 (rs.flatMap relC ++ [.int .i64 num, .slice Av vn cv, .slice Ap zn cz])] (spec A3 c3)) (by (exact Ent.auto)) ?_
      rintro _ _ ⟨_, ⟨A5, c5, rfl, rfl⟩, rfl⟩
      refine Nx.mix_S (by (exact Ent.auto)) ?_
      refine Nx.fork_fin (by kernel_rfl) rfl ?_
      repeat' first
        | ((with_reducible refine Nx.is_wp ?_); first | refine Nx.wo ?_ | refine Nx.zp (fun hc => ?_) (fun hc => ?_))
        | (refine Nx.zo ?_; first | refine Nx.opr rfl rfl ?_ | refine Nx.so ?_ | refine Nx.sb (fun bx => ?_) | refine Nx.sa (fun A2 c2 => ?_))
        | ((with_reducible refine Nx.is_at ?_); first | refine Nx.a ?_ | refine Nx.zd ?_ | refine Nx.zs (fun hc => ?_) (fun hc => ?_))
        | ((with_reducible refine Nx.is_mix ?_); first | refine Nx.m ?_ | refine Nx.zm ?_ | refine Nx.zt (fun hc => ?_) (fun hc => ?_))
        | refine Nx.zx ?_ | fail
      refine Nx.weak ?_ ?_ (h A5 c5)
      · exact ⟨rfl, rfl, rfl, rfl, rfl, rfl, rfl, rfl, rfl, trivial⟩
      · (exact Ent.auto)
    · refine Nx.sb (fun b9 => ?_)
      refine Nx.mix_S (by (exact Ent.auto)) ?_
      refine Nx.fork1 (i := 3) (by kernel_rfl) rfl rfl ?_
      refine Nx.blk_vec 1 0 3 rfl rfl (by omega) ?_
      refine Nx.append rfl rfl rfl rfl (by kernel_rfl) rfl (Src.arr hr.arr (flat_len relC_len rs) (by omega) (rel_one rs)) (by omega) fun A2 c2 => ?_
      rw [Nat.zero_add, List.nil_append]
      refine Nx.mix_S (by (exact Ent.auto)) ?_
      refine Nx.fork1 (i := 6) (by kernel_rfl) rfl rfl ?_
      refine Nx.ent (R' := [Blk b9 44 [.int .i64 num, .slice Av vn cv, .slice Ap zn cz], Vec 44 3 A2 rs.length c2 (rs.flatMap relC), Blk b4 27 [.slice B sn cs], Blk b10 44 [.int .i64 num, .slice Av vn cv, .slice Ap zn cz], X, F]) (by (exact Ent.auto)) ?_
      refine Nx.append_lit 0 rfl rfl rfl rfl (by kernel_rfl) rfl rfl rfl rfl (by omega) fun A3 c3 => ?_
      refine Nx.mix_S (by (exact Ent.auto)) ?_
      refine Nx.fork1 (i := 7) (by kernel_rfl) rfl rfl ?_
      refine Nx.call rfl rfl rfl (by kernel_rfl) rfl (FnSpec.keep [Vec 44 3 A3 (rs.length + 1) c3 (rs.flatMap relC ++ [.int .i64 num, .slice Av vn cv, .slice Ap zn cz])] (spec A3 c3)) (by (exact Ent.auto)) ?_
      rintro _ _ ⟨_, ⟨A5, c5, rfl, rfl⟩, rfl⟩
      refine Nx.mix_S (by (exact Ent.auto)) ?_
      refine Nx.fork_fin (by kernel_rfl) rfl ?_
      repeat' first
        | ((with_reducible refine Nx.is_wp ?_); first | refine Nx.wo ?_ | refine Nx.zp (fun hc => ?_) (fun hc => ?_))
        | (refine Nx.zo ?_; first | refine Nx.opr rfl rfl ?_ | refine Nx.so ?_ | refine Nx.sb (fun bx => ?_) | refine Nx.sa (fun A2 c2 => ?_))
        | ((with_reducible refine Nx.is_at ?_); first | refine Nx.a ?_ | refine Nx.zd ?_ | refine Nx.zs (fun hc => ?_) (fun hc => ?_))
        | ((with_reducible refine Nx.is_mix ?_); first | refine Nx.m ?_ | refine Nx.zm ?_ | refine Nx.zt (fun hc => ?_) (fun hc => ?_))
        | refine Nx.zx ?_ | fail
      refine Nx.weak ?_ ?_ (h A5 c5)
      · exact ⟨rfl, rfl, rfl, rfl, rfl, rfl, rfl, rfl, rfl, trivial⟩
      · (exact Ent.auto)
  · refine Nx.sb (fun b9 => ?_)
    refine Nx.mix_S (by (exact Ent.auto)) ?_
    refine Nx.fork1 (i := 1) (by kernel_rfl) rfl rfl ?_
    refine Nx.sb (fun b0 => ?_)
    refine Nx.mix_S (by (exact Ent.auto)) ?_
    refine Nx.fork1 (i := 3) (by kernel_rfl) rfl rfl ?_
    refine Nx.blk_vec 0 0 3 rfl rfl (by omega) ?_
    refine Nx.append rfl rfl rfl rfl (by kernel_rfl) rfl (Src.arr hr.arr (flat_len relC_len rs) (by omega) (rel_one rs)) (by omega) fun A2 c2 => ?_
    rw [Nat.zero_add, List.nil_append]
    refine Nx.mix_S (by (exact Ent.auto)) ?_
    refine Nx.fork1 (i := 6) (by kernel_rfl) rfl rfl ?_
    refine Nx.ent (R' := [Blk b9 44 [.int .i64 num, .slice Av vn cv, .slice Ap zn cz], Vec 44 3 A2 rs.length c2 (rs.flatMap relC), Blk b4 27 [.slice B sn cs], Blk b10 44 [.int .i64 num, .slice Av vn cv, .slice Ap zn cz], X, F]) (by (exact Ent.auto)) ?_
    refine Nx.append_lit 0 rfl rfl rfl rfl (by kernel_rfl) rfl rfl rfl rfl (by omega) fun A3 c3 => ?_
    refine Nx.mix_S (by (exact Ent.auto)) ?_
    refine Nx.fork1 (i := 7) (by kernel_rfl) rfl rfl ?_
    refine Nx.call rfl rfl rfl (by kernel_rfl) rfl (FnSpec.keep [Vec 44 3 A3 (rs.length + 1) c3 (rs.flatMap relC ++ [.int .i64 num, .slice Av vn cv, .slice Ap zn cz])] (spec A3 c3)) (by (exact Ent.auto)) ?_
    rintro _ _ ⟨_, ⟨A5, c5, rfl, rfl⟩, rfl⟩
    refine Nx.mix_S (by (exact Ent.auto)) ?_
    refine Nx.fork_fin (by kernel_rfl) rfl ?_
    repeat' first
      | ((with_reducible refine Nx.is_wp ?_); first | refine Nx.wo ?_ | refine Nx.zp (fun hc => ?_) (fun hc => ?_))
      | (refine Nx.zo ?_; first | refine Nx.opr rfl rfl ?_ | refine Nx.so ?_ | refine Nx.sb (fun bx => ?_) | refine Nx.sa (fun A2 c2 => ?_))
      | ((with_reducible refine Nx.is_at ?_); first | refine Nx.a ?_ | refine Nx.zd ?_ | refine Nx.zs (fun hc => ?_) (fun hc => ?_))
      | ((with_reducible refine Nx.is_mix ?_); first | refine Nx.m ?_ | refine Nx.zm ?_ | refine Nx.zt (fun hc => ?_) (fun hc => ?_))
      | refine Nx.zx ?_ | fail
    refine Nx.weak ?_ ?_ (h A5 c5)
    · exact ⟨rfl, rfl, rfl, rfl, rfl, rfl, rfl, rfl, rfl, trivial⟩
    · (exact Ent.auto)
set_option maxRecDepth 10000 in
set_option maxHeartbeats 8000000 in
theorem learn12 (B As Av Ap : Option Addr) (cs ca cv cz sn vn zn b4 b10 b17 : Nat) (num num2 : Int) (rs : List Rel) (v7 v8 v11 v13 v15 v16 : Value) (xs : List Int) (er : Int) (I : PH) (hr : SliceN relC 3 I As ca rs) (h9 : rs.length ≤ 1000) (w : World) (X F : Res) (Q : Exit → Act → World → Prop) (hQ : PanicOk Q)
    (spec : ∀ A3 c3 q I', PH.le I I' → PH.le q I' → Stars [Vec 44 3 A3 (rs.length + 1) c3 (rs.flatMap relC ++ [.int .i64 num, .slice Av vn cv, .slice Ap zn cz])] q → FnSpec Try.prog 17 [.agg #[.slice B sn cs], .slice A3 (rs.length + 1) c3, .agg #[.int .i64 num2, .slice Av vn cv, .slice Ap zn cz]] I' [] (fun u R' => ∃ (A' : Option Addr) (c' : Nat), u = .tuple #[.slice A' xs.length c', .int .i64 er] ∧ R' = [iR A' c' xs]))
    (h : ∀ (A5 : Option Addr) (c5 : Nat), Nx ⟨Try.prog, 177, w⟩ [(18, .slice A5 xs.length c5), (19, .int .i64 er), (4, .pointer (some ⟨b4, 0, none⟩)), (6, .slice As rs.length ca), (10, .pointer (some ⟨b10, 0, none⟩)), (17, .pointer (some ⟨b17, 0, none⟩)), (7, v7), (8, v8), (11, v11), (13, v13), (15, v15), (16, v16)] I [iR A5 c5 xs, Blk b4 27 [.slice B sn cs], Blk b10 44 [.int .i64 num, .slice Av vn cv, .slice Ap zn cz], Blk b17 44 [.int .i64 num2, .slice Av vn cv, .slice Ap zn cz], X, F] (Q .normal)) :
    Nx ⟨Try.prog, 177, w⟩ [(4, .pointer (some ⟨b4, 0, none⟩)), (6, .slice As rs.length ca), (10, .pointer (some ⟨b10, 0, none⟩)), (17, .pointer (some ⟨b17, 0, none⟩)), (7, v7), (8, v8), (11, v11), (13, v13), (15, v15), (16, v16)] I [Blk b4 27 [.slice B sn cs], Blk b10 44 [.int .i64 num, .slice Av vn cv, .slice Ap zn cz], Blk b17 44 [.int .i64 num2, .slice Av vn cv, .slice Ap zn cz], X, F]
      (Code.wp Try.prog (cl (cr (cr (cr (cr (cr (cr (cr (cr (cr (cr (cr (bodyOf Try.f5))))))))))))) Q) := by
  have hcap := hr.cap
  refine Nx.p_fork (id := 12) rfl [0, 2, 4, 7] [9, 10, 11, 12, 13] [1, 3, 5, 6, 8] [Blk b4 27 [.slice B sn cs], Blk b10 44 [.int .i64 num, .slice Av vn cv, .slice Ap zn cz], Blk b17 44 [.int .i64 num2, .slice Av vn cv, .slice Ap zn cz]] 10 rfl rfl (by kernel_rfl) (by kernel_rfl) (by kernel_rfl) hQ (by (exact Ent.auto)) ?_
  repeat' first
    | ((with_reducible refine Nx.is_wp ?_); first | refine Nx.wo ?_ | refine Nx.zp (fun hc => ?_) (fun hc => ?_))
    | (refine Nx.zo ?_; first | refine Nx.opr rfl rfl ?_ | refine Nx.so ?_ | refine Nx.sb (fun bx => ?_) | refine Nx.sa (fun A2 c2 => ?_))
    | ((with_reducible refine Nx.is_at ?_); first | refine Nx.a ?_ | refine Nx.zd ?_ | refine Nx.zs (fun hc => ?_) (fun hc => ?_))
    | ((with_reducible refine Nx.is_mix ?_); first | refine Nx.m ?_ | refine Nx.zm ?_ | refine Nx.zt (fun hc => ?_) (fun hc => ?_))
    | refine Nx.zx ?_ | fail
  refine Nx.fork2 (i := 1) (j := 5) (by kernel_rfl) rfl rfl rfl rfl ?_ ?_
  · refine Nx.sb (fun b0 => ?_)
    refine Nx.mix_S (by (exact Ent.auto)) ?_
    refine Nx.fork2 (i := 3) (j := 5) (by kernel_rfl) rfl rfl rfl rfl ?_ ?_
    · refine Nx.blk_vec 0 0 3 rfl rfl (by omega) ?_
      refine Nx.append rfl rfl rfl rfl (by kernel_rfl) rfl (Src.arr hr.arr (flat_len relC_len rs) (by omega) (rel_one rs)) (by omega) fun A2 c2 => ?_
      rw [Nat.zero_add, List.nil_append]
      refine Nx.mix_S (by (exact Ent.auto)) ?_
      refine Nx.fork1 (i := 5) (by kernel_rfl) rfl rfl ?_
      refine Nx.sb (fun b9 => ?_)
      refine Nx.mix_S (by (exact Ent.auto)) ?_
      refine Nx.fork1 (i := 6) (by kernel_rfl) rfl rfl ?_
      refine Nx.ent (R' := [Blk b9 44 [.int .i64 num, .slice Av vn cv, .slice Ap zn cz], Vec 44 3 A2 rs.length c2 (rs.flatMap relC), Blk b4 27 [.slice B sn cs], Blk b10 44 [.int .i64 num, .slice Av vn cv, .slice Ap zn cz], Blk b17 44 [.int .i64 num2, .slice Av vn cv, .slice Ap zn cz], X, F]) (by (exact Ent.auto)) ?_
      refine Nx.append_lit 0 rfl rfl rfl rfl (by kernel_rfl) rfl rfl rfl rfl (by omega) fun A3 c3 => ?_
      refine Nx.mix_S (by (exact Ent.auto)) ?_
      refine Nx.fork1 (i := 8) (by kernel_rfl) rfl rfl ?_
      refine Nx.call rfl rfl rfl (by kernel_rfl) rfl (FnSpec.keep [Vec 44 3 A3 (rs.length + 1) c3 (rs.flatMap relC ++ [.int .i64 num, .slice Av vn cv, .slice Ap zn cz])] (spec A3 c3)) (by (exact Ent.auto)) ?_
      rintro _ _ ⟨_, ⟨A5, c5, rfl, rfl⟩, rfl⟩
      refine Nx.mix_S (by (exact Ent.auto)) ?_
      refine Nx.fork_fin (by kernel_rfl) rfl ?_
      repeat' first
        | ((with_reducible refine Nx.is_wp ?_); first | refine Nx.wo ?_ | refine Nx.zp (fun hc => ?_) (fun hc => ?_))
        | (refine Nx.zo ?_; first | refine Nx.opr rfl rfl ?_ | refine Nx.so ?_ | refine Nx.sb (fun bx => ?_) | refine Nx.sa (fun A2 c2 => ?_))
        | ((with_reducible refine Nx.is_at ?_); first | refine Nx.a ?_ | refine Nx.zd ?_ | refine Nx.zs (fun hc => ?_) (fun hc => ?_))
        | ((with_reducible refine Nx.is_mix ?_); first | refine Nx.m ?_ | refine Nx.zm ?_ | refine Nx.zt (fun hc => ?_) (fun hc => ?_))
        | refine Nx.zx ?_ | fail
      refine Nx.weak ?_ ?_ (h A5 c5)
      · exact ⟨rfl, rfl, rfl, rfl, rfl, rfl, rfl, rfl, rfl, rfl, rfl, rfl, trivial⟩
      · (exact Ent.auto)
    · refine Nx.sb (fun b9 => ?_)
      refine Nx.mix_S (by (exact Ent.auto)) ?_
      refine Nx.fork1 (i := 3) (by kernel_rfl) rfl rfl ?_
      refine Nx.blk_vec 1 0 3 rfl rfl (by omega) ?_
      refine Nx.append rfl rfl rfl rfl (by kernel_rfl) rfl (Src.arr hr.arr (flat_len relC_len rs) (by omega) (rel_one rs)) (by omega) fun A2 c2 => ?_
      rw [Nat.zero_add, List.nil_append]
      refine Nx.mix_S (by (exact Ent.auto)) ?_
      refine Nx.fork1 (i := 6) (by kernel_rfl) rfl rfl ?_
      refine Nx.ent (R' := [Blk b9 44 [.int .i64 num, .slice Av vn cv, .slice Ap zn cz], Vec 44 3 A2 rs.length c2 (rs.flatMap relC), Blk b4 27 [.slice B sn cs], Blk b10 44 [.int .i64 num, .slice Av vn cv, .slice Ap zn cz], Blk b17 44 [.int .i64 num2, .slice Av vn cv, .slice Ap zn cz], X, F]) (by (exact Ent.auto)) ?_
      refine Nx.append_lit 0 rfl rfl rfl rfl (by kernel_rfl) rfl rfl rfl rfl (by omega) fun A3 c3 => ?_
      refine Nx.mix_S (by (exact Ent.auto)) ?_
      refine Nx.fork1 (i := 8) (by kernel_rfl) rfl rfl ?_
      refine Nx.call rfl rfl rfl (by kernel_rfl) rfl (FnSpec.keep [Vec 44 3 A3 (rs.length + 1) c3 (rs.flatMap relC ++ [.int .i64 num, .slice Av vn cv, .slice Ap zn cz])] (spec A3 c3)) (by (exact Ent.auto)) ?_
      rintro _ _ ⟨_, ⟨A5, c5, rfl, rfl⟩, rfl⟩
      refine Nx.mix_S (by (exact Ent.auto)) ?_
      refine Nx.fork_fin (by kernel_rfl) rfl ?_
      repeat' first
        | ((with_reducible refine Nx.is_wp ?_); first | refine Nx.wo ?_ | refine Nx.zp (fun hc => ?_) (fun hc => ?_))
        | (refine Nx.zo ?_; first | refine Nx.opr rfl rfl ?_ | refine Nx.so ?_ | refine Nx.sb (fun bx => ?_) | refine Nx.sa (fun A2 c2 => ?_))
        | ((with_reducible refine Nx.is_at ?_); first | refine Nx.a ?_ | refine Nx.zd ?_ | refine Nx.zs (fun hc => ?_) (fun hc => ?_))
        | ((with_reducible refine Nx.is_mix ?_); first | refine Nx.m ?_ | refine Nx.zm ?_ | refine Nx.zt (fun hc => ?_) (fun hc => ?_))
        | refine Nx.zx ?_ | fail
      refine Nx.weak ?_ ?_ (h A5 c5)
      · exact ⟨rfl, rfl, rfl, rfl, rfl, rfl, rfl, rfl, rfl, rfl, rfl, rfl, trivial⟩
      · (exact Ent.auto)
  · refine Nx.sb (fun b9 => ?_)
    refine Nx.mix_S (by (exact Ent.auto)) ?_
    refine Nx.fork1 (i := 1) (by kernel_rfl) rfl rfl ?_
    refine Nx.sb (fun b0 => ?_)
    refine Nx.mix_S (by (exact Ent.auto)) ?_
    refine Nx.fork1 (i := 3) (by kernel_rfl) rfl rfl ?_
    refine Nx.blk_vec 0 0 3 rfl rfl (by omega) ?_
    refine Nx.append rfl rfl rfl rfl (by kernel_rfl) rfl (Src.arr hr.arr (flat_len relC_len rs) (by omega) (rel_one rs)) (by omega) fun A2 c2 => ?_
    rw [Nat.zero_add, List.nil_append]
    refine Nx.mix_S (by (exact Ent.auto)) ?_
    refine Nx.fork1 (i := 6) (by kernel_rfl) rfl rfl ?_
    refine Nx.ent (R' := [Blk b9 44 [.int .i64 num, .slice Av vn cv, .slice Ap zn cz], Vec 44 3 A2 rs.length c2 (rs.flatMap relC), Blk b4 27 [.slice B sn cs], Blk b10 44 [.int .i64 num, .slice Av vn cv, .slice Ap zn cz], Blk b17 44 [.int .i64 num2, .slice Av vn cv, .slice Ap zn cz], X, F]) (by (exact Ent.auto)) ?_
    refine Nx.append_lit 0 rfl rfl rfl rfl (by kernel_rfl) rfl rfl rfl rfl (by omega) fun A3 c3 => ?_
    refine Nx.mix_S (by (exact Ent.auto)) ?_
    refine Nx.fork1 (i := 8) (by kernel_rfl) rfl rfl ?_
    refine Nx.call rfl rfl rfl (by kernel_rfl) rfl (FnSpec.keep [Vec 44 3 A3 (rs.length + 1) c3 (rs.flatMap relC ++ [.int .i64 num, .slice Av vn cv, .slice Ap zn cz])] (spec A3 c3)) (by (exact Ent.auto)) ?_
    rintro _ _ ⟨_, ⟨A5, c5, rfl, rfl⟩, rfl⟩
    refine Nx.mix_S (by (exact Ent.auto)) ?_
    refine Nx.fork_fin (by kernel_rfl) rfl ?_
    repeat' first
      | ((with_reducible refine Nx.is_wp ?_); first | refine Nx.wo ?_ | refine Nx.zp (fun hc => ?_) (fun hc => ?_))
      | (refine Nx.zo ?_; first | refine Nx.opr rfl rfl ?_ | refine Nx.so ?_ | refine Nx.sb (fun bx => ?_) | refine Nx.sa (fun A2 c2 => ?_))
      | ((with_reducible refine Nx.is_at ?_); first | refine Nx.a ?_ | refine Nx.zd ?_ | refine Nx.zs (fun hc => ?_) (fun hc => ?_))
      | ((with_reducible refine Nx.is_mix ?_); first | refine Nx.m ?_ | refine Nx.zm ?_ | refine Nx.zt (fun hc => ?_) (fun hc => ?_))
      | refine Nx.zx ?_ | fail
    refine Nx.weak ?_ ?_ (h A5 c5)
    · exact ⟨rfl, rfl, rfl, rfl, rfl, rfl, rfl, rfl, rfl, rfl, rfl, rfl, trivial⟩
    · (exact Ent.auto)
end Go.Proofs.Ytcmdemfhbekabaa
/- Contracts of functions of the given program, and lemmas about plain lists and numbers: what the laws of this seat lean on. -/
namespace Go.Proofs.Ytcmdemfhbekabaa
open Go.Eng Go.Sol
attribute [local irreducible] opK wpList Code.wp Exit.then Exit.inBlock fnPost bodyPost Nx Calls Oper.wp Rd Rds Wr Ent Stars Blk Again Vec FnSpec wpMix QRun Stop Upto wpAt
/-! The law on what is learned -/
set_option maxRecDepth 10000 in
set_option maxHeartbeats 32000000 in
theorem AttackerLearns_spec (A : Option Addr) (c : Nat) (l : List Int) (I : PH) (hl : Bytes I A c l) (hx : ∀ x ∈ l, 0 ≤ x ∧ x < 256) :
    FnSpec Try.prog 5 [.slice A l.length c] I [] (fun v R' => v = .bool true ∧ R' = []) := by
  have hL := bytes_take hl hx
  refine FnSpec.enterP Try.func5 rfl Try.ntmps5 rfl fun w F => ?_
  repeat' first
    | ((with_reducible refine Nx.is_wp ?_); first | refine Nx.p_stopr 3 rfl ?_ | refine Nx.wo ?_ | refine Nx.zp (fun hc => ?_) (fun hc => ?_))
    | (refine Nx.zo ?_; first | refine Nx.opr rfl rfl ?_ | (refine Nx.call (Rpre := []) rfl rfl rfl (by kernel_rfl) rfl (New_codes A c l I hl) (Ent.refl _) ?_; rintro _ _ ⟨b, rfl, rfl⟩) | (refine Nx.call rfl rfl rfl (by kernel_rfl) rfl (Told_made b A c _ 0 2 2 I hL (Nat.zero_le _) (by omega) (by omega)) (by (exact Ent.auto)) ?_; rintro _ _ ⟨B, c', s, At, ct, t, As, ca, rs, k1, rfl, hs, hT, hrn, hro, hk1, rfl⟩) | refine Nx.so ?_ | refine Nx.sb (fun bx => ?_) | refine Nx.sa (fun A2 c2 => ?_))
    | ((with_reducible refine Nx.is_at ?_); first | refine Nx.a ?_ | refine Nx.zd ?_ | refine Nx.zs (fun hc => ?_) (fun hc => ?_))
    | ((with_reducible refine Nx.is_mix ?_); first | refine Nx.m ?_ | refine Nx.zm ?_ | refine Nx.zt (fun hc => ?_) (fun hc => ?_))
    | refine Nx.zx ?_ | fail
  refine Nx.unstop ?_
  revert bx; intro b4
  refine Nx.giveTold (B := B) (c' := c') (s := s) (At := At) (ct := ct) (t := t) (As := As) (ca := ca) (rs := rs) (RR := [Blk b4 27 [.slice B s.length c'], CodesR b A c (l.take 400) k1, F]) (by refine Ent.trans (R' := toldR B c' s At ct t As ca rs ++ [Blk b4 27 [.slice B s.length c'], CodesR b A c (l.take 400) k1, F]) ?_ Ent.stars; unfold toldR; (exact Ent.auto)) fun I1 hI1 hz ht hrs => ?_
  replace hL := hL.mono hI1
  repeat' first
    | ((with_reducible refine Nx.is_wp ?_); first | refine Nx.p_stopr 4 rfl ?_ | refine Nx.wo ?_ | refine Nx.zp (fun hc => ?_) (fun hc => ?_))
    | (refine Nx.zo ?_; first | refine Nx.opr rfl rfl ?_ | (refine Nx.call rfl rfl rfl (by kernel_rfl) rfl (View_made b A B c c' _ s k1 I1 hL hk1 hz hs) (by (exact Ent.auto)) ?_; rintro _ _ ⟨Av, cv, v, k3, rfl, hw, hk3, rfl⟩) | refine Nx.so ?_ | refine Nx.sb (fun bx => ?_) | refine Nx.sa (fun A2 c2 => ?_))
    | ((with_reducible refine Nx.is_at ?_); first | refine Nx.a ?_ | refine Nx.zd ?_ | refine Nx.zs (fun hc => ?_) (fun hc => ?_))
    | ((with_reducible refine Nx.is_mix ?_); first | refine Nx.m ?_ | refine Nx.zm ?_ | refine Nx.zt (fun hc => ?_) (fun hc => ?_))
    | refine Nx.zx ?_ | fail
  refine Nx.unstop ?_
  revert bx; intro b7
  refine Nx.ent (R' := [ViewR Av cv v, Blk b4 27 [.slice B s.length c'], Blk b7 35 [.slice Av v.length cv], F]) (by (exact Ent.auto)) ?_
  refine Nx.freezeAt 0 rfl fun I3 m3 hI3 hm3 h3 => ?_
  have hv : RowsOf I3 Av cv v := ViewR.rows hm3 h3
  replace hz := hz.mono hI3
  replace ht := ht.mono hI3
  replace hrs := hrs.mono hI3
  have hTb : Table s t := ⟨hT.1, fun j hj => by have := hT.2 j hj; omega⟩
  have hPb := RPublish_spec B Av At c' cv ct s t v I3 hz hs hv hw ht hTb
  have hszs := hw.sizes hs
  have hpr := hszs.bound (k := (szs v).length) (Nat.le_refl _)
  rw [List.take_length] at hpr
  have hpc := hszs.cells
  have hsl := sums_len (pubOf s v) t (prod (szs v)).toNat t.length
  have hz1 : ∀ j, j < (prod (szs v)).toNat → (sums (pubOf s v) t (prod (szs v)).toNat t.length).getD j default = sumAt (pubOf s v) t (j : Int) t.length := fun j hj => sums_at _ _ _ _ _ hj
  generalize sums (pubOf s v) t (prod (szs v)).toNat t.length = z0 at hsl hPb hz1
  generalize hP : (prod (szs v)).toNat = P at hsl hPb hz1
  have hP48 : P ≤ 48 := by omega
  repeat' first
    | ((with_reducible refine Nx.is_wp ?_); first | refine Nx.p_stopr 5 rfl ?_ | refine Nx.wo ?_ | refine Nx.zp (fun hc => ?_) (fun hc => ?_))
    | (refine Nx.zo ?_; first | refine Nx.opr rfl rfl ?_ | (refine Nx.call (Rpre := []) rfl rfl rfl (by kernel_rfl) rfl hPb (Ent.refl _) ?_; rintro _ _ ⟨Ap, rfl, rfl⟩) | refine Nx.so ?_ | refine Nx.sb (fun bx => ?_) | refine Nx.sa (fun A2 c2 => ?_))
    | ((with_reducible refine Nx.is_at ?_); first | refine Nx.a ?_ | refine Nx.zd ?_ | refine Nx.zs (fun hc => ?_) (fun hc => ?_))
    | ((with_reducible refine Nx.is_mix ?_); first | refine Nx.m ?_ | refine Nx.zm ?_ | refine Nx.zt (fun hc => ?_) (fun hc => ?_))
    | refine Nx.zx ?_ | fail
  refine Nx.unstop ?_
  refine Nx.freezeAt 0 rfl fun I4 m4 hI4 hm4 h4 => ?_
  subst hsl
  have hpz : Ints I4 Ap z0.length z0 := Vec.sliceOf hm4 h4
  replace hz := hz.mono hI4
  replace hrs := hrs.mono hI4
  replace hv := hv.mono hI4
  have hle4 := (hI1.trans hI3).trans hI4
  have hwv := views_of hro
  have hzm := fun (zs : List Int) (Az : Option Addr) (cz : Nat) (hl : zs.length = z0.length) (hm : ∀ z ∈ zs, z = -1) => (⟨hw, by show zs.length = _; rw [hl, hP], fun j hj => .inl (hm _ (getD_memI hj))⟩ : RelOk s t ⟨(rs.length : Int), Av, cv, v, (Az, cz, zs)⟩)
  have hr1 : RelOk s t ⟨(rs.length : Int), Av, cv, v, (Ap, z0.length, z0)⟩ := ⟨hw, hP.symm, fun j hj => .inr (hz1 j hj)⟩
  have hlaw := fun (zs : List Int) (Az : Option Addr) (cz : Nat) (hl : zs.length = z0.length) (hm : ∀ z ∈ zs, z = -1) => learn_law (rh := ⟨(rs.length : Int), Av, cv, v, (Az, cz, zs)⟩) hs hT hro (by omega) hr1 rfl (hzm zs Az cz hl hm) rfl hm
  have hlaw0 := hlaw (List.replicate z0.length (-1)) none 0 (by simp) fun z hz => (List.mem_replicate.1 hz).2
  have hlawh := fun (zs : List Int) (Az : Option Addr) (cz : Nat) (hl : zs.length = z0.length) (hm : ∀ z ∈ zs, z = -1) ha hb => ((hlaw zs Az cz hl hm).2 ha hb).2.2.1
  have hlaw1 := hlaw0.1
  have hlaw2 := fun ha hb => ((hlaw0.2 ha hb).1 : _)
  have hlaw3 := fun ha hb => (hlaw0.2 ha hb).2.1
  have hlaw4 := fun ha hb => (hlaw0.2 ha hb).2.2.2
  clear hlaw hlaw0
  have hl1 : ∀ r : Rel, (rs ++ [r]).length = rs.length + 1 := fun r => by rw [List.length_append]; rfl
  have hw2 : ∀ x ∈ rs ++ [⟨(rs.length : Int), Av, cv, v, (Ap, z0.length, z0)⟩], Viewed s x.v := fun x hx => (List.mem_append.1 hx).elim (hwv x) fun h => by rw [List.mem_singleton.1 h]; exact hw
  have hCa := Certain_spec B As c' ca s rs I4 hz hs hrs hwv
  have hLn := fun I' (hle : PH.le I4 I') => Learns_spec B As c' ca s rs ⟨(rs.length : Int), Av, cv, v, (Ap, z0.length, z0)⟩ I' (hz.mono hle) hs (hrs.mono hle) hwv (by omega) (hv.mono hle) (hpz.mono hle) hw
  have spec7 : ∀ A3 c3 q I', PH.le I4 I' → PH.le q I' → Stars [Vec 44 3 A3 (rs.length + 1) c3 (rs.flatMap relC ++ [.int .i64 rs.length, .slice Av v.length cv, .slice Ap z0.length z0.length])] q → FnSpec Try.prog 16 [.agg #[.slice B s.length c'], .slice A3 (rs.length + 1) c3] I' [] (fun u R' => ∃ (A' : Option Addr) (c' : Nat), u = .tuple #[.slice A' (cerD s (rs ++ [⟨(rs.length : Int), Av, cv, v, (Ap, z0.length, z0)⟩])).1.length c', .int .i64 (cerD s (rs ++ [⟨(rs.length : Int), Av, cv, v, (Ap, z0.length, z0)⟩])).2] ∧ R' = [iR A' c' (cerD s (rs ++ [⟨(rs.length : Int), Av, cv, v, (Ap, z0.length, z0)⟩])).1]) := fun A3 c3 q I' hle hq hvq => by
    have hra := rels_app (r := ⟨(rs.length : Int), Av, cv, v, (Ap, z0.length, z0)⟩) hrs hle hq hvq hv hpz
    have := Certain_spec B A3 c' c3 s (rs ++ [⟨(rs.length : Int), Av, cv, v, (Ap, z0.length, z0)⟩]) I' (hz.mono hle) hs hra hw2
    rw [hl1] at this
    exact this
  have spec12 : ∀ A3 c3 q I', PH.le I4 I' → PH.le q I' → Stars [Vec 44 3 A3 (rs.length + 1) c3 (rs.flatMap relC ++ [.int .i64 rs.length, .slice Av v.length cv, .slice Ap z0.length z0.length])] q → FnSpec Try.prog 17 [.agg #[.slice B s.length c'], .slice A3 (rs.length + 1) c3, .agg #[.int .i64 ((rs.length : Int) + 1), .slice Av v.length cv, .slice Ap z0.length z0.length]] I' [] (fun u R' => ∃ (A' : Option Addr) (c' : Nat), u = .tuple #[.slice A' (lrnD s (rs ++ [⟨(rs.length : Int), Av, cv, v, (Ap, z0.length, z0)⟩]) ⟨(rs.length : Int) + 1, Av, cv, v, (Ap, z0.length, z0)⟩).1.length c', .int .i64 (lrnD s (rs ++ [⟨(rs.length : Int), Av, cv, v, (Ap, z0.length, z0)⟩]) ⟨(rs.length : Int) + 1, Av, cv, v, (Ap, z0.length, z0)⟩).2] ∧ R' = [iR A' c' (lrnD s (rs ++ [⟨(rs.length : Int), Av, cv, v, (Ap, z0.length, z0)⟩]) ⟨(rs.length : Int) + 1, Av, cv, v, (Ap, z0.length, z0)⟩).1]) := fun A3 c3 q I' hle hq hvq => by
    have hra := rels_app (r := ⟨(rs.length : Int), Av, cv, v, (Ap, z0.length, z0)⟩) hrs hle hq hvq hv hpz
    have := Learns_spec B A3 c' c3 s (rs ++ [⟨(rs.length : Int), Av, cv, v, (Ap, z0.length, z0)⟩]) ⟨(rs.length : Int) + 1, Av, cv, v, (Ap, z0.length, z0)⟩ I' (hz.mono hle) hs hra hw2 (by rw [hl1]; omega) (hv.mono hle) (hpz.mono hle) hw
    rw [hl1] at this
    exact this
  generalize cerD s (rs ++ [⟨(rs.length : Int), Av, cv, v, (Ap, z0.length, z0)⟩]) = fb at hlawh hlaw1 hlaw2 hlaw3 hlaw4 spec7
  generalize lrnD s (rs ++ [⟨(rs.length : Int), Av, cv, v, (Ap, z0.length, z0)⟩]) ⟨(rs.length : Int) + 1, Av, cv, v, (Ap, z0.length, z0)⟩ = fm at hlaw3 spec12
  generalize cerD s rs = fa at hlawh hlaw1 hlaw2 hlaw3 hlaw4 hCa
  generalize lrnD s rs ⟨(rs.length : Int), Av, cv, v, (Ap, z0.length, z0)⟩ = fn at hlaw1 hlaw2 hlaw4 hLn
  obtain ⟨xa, ea⟩ := fa
  obtain ⟨xb, eb⟩ := fb
  obtain ⟨xn, en⟩ := fn
  obtain ⟨xm, em⟩ := fm
  dsimp only at hlawh hlaw1 hlaw2 hlaw3 hlaw4 hCa hLn spec7 spec12
  repeat' first
    | ((with_reducible refine Nx.is_wp ?_); first | refine Nx.p_stopr 7 rfl ?_ | refine Nx.wo ?_ | refine Nx.zp (fun hc => ?_) (fun hc => ?_))
    | (refine Nx.zo ?_; first | refine Nx.opr rfl rfl ?_ | (refine Nx.call (Rpre := []) rfl rfl rfl (by kernel_rfl) rfl hCa (Ent.refl _) ?_; rintro _ _ ⟨A11, c11, rfl, rfl⟩) | refine Nx.so ?_ | refine Nx.sb (fun bx => ?_) | refine Nx.sa (fun A2 c2 => ?_))
    | ((with_reducible refine Nx.is_at ?_); first | refine Nx.a ?_ | refine Nx.zd ?_ | refine Nx.zs (fun hc => ?_) (fun hc => ?_))
    | ((with_reducible refine Nx.is_mix ?_); first | refine Nx.m ?_ | refine Nx.zm ?_ | refine Nx.zt (fun hc => ?_) (fun hc => ?_))
    | refine Nx.zx ?_ | fail
  refine Nx.unstop ?_
  revert bx; intro b10
  refine Nx.ent (R' := [iR A11 c11 xa, Blk b4 27 [.slice B s.length c'], Blk b10 44 [.int .i64 rs.length, .slice Av v.length cv, .slice Ap z0.length z0.length], Blk b7 35 [.slice Av v.length cv], F]) (by (exact Ent.auto)) ?_
  refine Nx.freezeAt 0 rfl fun I6 m6 hI6 hm6 h6 => ?_
  have hxa : Ints I6 A11 c11 xa := Vec.sliceOf hm6 h6
  refine Nx.p_seq rfl ?_
  refine Nx.weak ?_ ?_ (learn7 B As Av Ap c' ca cv z0.length s.length v.length z0.length b4 b10 rs.length rs (.pointer (some ⟨b7, 0, none⟩)) (.slice Ap z0.length z0.length) (.slice A11 xa.length c11) (.int .i64 ea) xb eb I6 (hrs.outer.mono hI6) (by omega) w (Blk b7 35 [.slice Av v.length cv]) F _ (by repeat first | exact PanicOk.fn | refine PanicOk.then_ ?_ | refine PanicOk.inB ?_) (fun A3 c3 q I' hle => spec7 A3 c3 q I' (hI6.trans hle)) fun A13 c13 => ?_)
  · exact ⟨rfl, rfl, rfl, rfl, rfl, rfl, rfl, trivial⟩
  · (exact Ent.auto)
  refine Nx.freezeAt 0 rfl fun I7 m7 hI7 hm7 h7 => ?_
  have hle7 := hI6.trans hI7
  have hbl := (Vec.sliceOf hm7 h7 : Ints I7 A13 c13 xb).len
  repeat' first
    | ((with_reducible refine Nx.is_wp ?_); first | refine Nx.p_stops 9 rfl ?_ | refine Nx.wo ?_ | refine Nx.zp (fun hc => ?_) (fun hc => ?_))
    | (refine Nx.zo ?_; first | refine Nx.opr rfl rfl ?_ | (refine Nx.call (Rpre := []) rfl rfl rfl (by kernel_rfl) rfl (hLn I7 hle7) (Ent.refl _) ?_; rintro _ _ ⟨A15, c15, rfl, rfl⟩) | refine Nx.so ?_ | refine Nx.sb (fun bx => ?_) | refine Nx.sa (fun A2 c2 => ?_))
    | ((with_reducible refine Nx.is_at ?_); first | refine Nx.a ?_ | refine Nx.zd ?_ | refine Nx.zs (fun hc => ?_) (fun hc => ?_))
    | ((with_reducible refine Nx.is_mix ?_); first | refine Nx.m ?_ | refine Nx.zm ?_ | refine Nx.zt (fun hc => ?_) (fun hc => ?_))
    | refine Nx.zx ?_ | fail
  refine Nx.unstop ?_
  refine Nx.ent (R' := [iR A15 c15 xn, Blk b4 27 [.slice B s.length c'], Blk b10 44 [.int .i64 rs.length, .slice Av v.length cv, .slice Ap z0.length z0.length], Blk b7 35 [.slice Av v.length cv], F]) (by (exact Ent.auto)) ?_
  refine Nx.freezeAt 0 rfl fun I8 m8 hI8 hm8 h8 => ?_
  have hxn : Ints I8 A15 c15 xn := Vec.sliceOf hm8 h8
  have hle8 := hle7.trans hI8
  have hle8a := hle4.trans hle8
  by_cases ha : ea = 0
  case neg =>
    have hen := hlaw1 (.inl ha)
    repeat' first
      | ((with_reducible refine Nx.is_wp ?_); first | refine Nx.wo ?_ | refine Nx.zp (fun hc => ?_) (fun hc => ?_))
      | (refine Nx.zo ?_; first | refine Nx.opr rfl rfl ?_ | refine Nx.callv rfl rfl rfl (by kernel_rfl) rfl (awakeA_spec _) ?_ | refine Nx.so ?_ | refine Nx.sb (fun bx => ?_) | refine Nx.sa (fun A2 c2 => ?_))
      | ((with_reducible refine Nx.is_at ?_); first | refine Nx.a ?_ | refine Nx.zd ?_ | refine Nx.zs (fun hc => ?_) (fun hc => ?_))
      | ((with_reducible refine Nx.is_mix ?_); first | refine Nx.m ?_ | refine Nx.zm ?_ | refine Nx.zt (fun hc => ?_) (fun hc => ?_))
      | refine Nx.zx ?_ | fail
    exact Nx.imm_le hle8a (Nx.ret_fn rfl [] ⟨rfl, rfl⟩ (by (exact Ent.auto)))
  subst ha
  by_cases hb : eb = 0
  case neg =>
    have hen := hlaw1 (.inr hb)
    repeat' first
      | ((with_reducible refine Nx.is_wp ?_); first | refine Nx.wo ?_ | refine Nx.zp (fun hc => ?_) (fun hc => ?_))
      | (refine Nx.zo ?_; first | refine Nx.opr rfl rfl ?_ | refine Nx.callv rfl rfl rfl (by kernel_rfl) rfl (awakeA_spec _) ?_ | refine Nx.so ?_ | refine Nx.sb (fun bx => ?_) | refine Nx.sa (fun A2 c2 => ?_))
      | ((with_reducible refine Nx.is_at ?_); first | refine Nx.a ?_ | refine Nx.zd ?_ | refine Nx.zs (fun hc => ?_) (fun hc => ?_))
      | ((with_reducible refine Nx.is_mix ?_); first | refine Nx.m ?_ | refine Nx.zm ?_ | refine Nx.zt (fun hc => ?_) (fun hc => ?_))
      | refine Nx.zx ?_ | fail
    exact Nx.imm_le hle8a (Nx.ret_fn rfl [] ⟨rfl, rfl⟩ (by (exact Ent.auto)))
  subst hb
  obtain rfl : en = 0 := hlaw2 rfl rfl
  obtain ⟨rfl, rfl⟩ : xm = [] ∧ em = 0 := by have := hlaw3 rfl rfl; exact ⟨congrArg Prod.fst this, congrArg Prod.snd this⟩
  obtain ⟨hlen, hdis⟩ := hlaw4 rfl rfl
  have hlawh := fun zs Az cz hl hm => hlawh zs Az cz hl hm rfl rfl
  clear hlaw1 hlaw2 hlaw3 hlaw4
  repeat' first
    | ((with_reducible refine Nx.is_wp ?_); first | refine Nx.p_stopr 12 rfl ?_ | refine Nx.wo ?_ | refine Nx.zp (fun hc => ?_) (fun hc => ?_))
    | (refine Nx.zo ?_; first | refine Nx.opr rfl rfl ?_ | refine Nx.so ?_ | refine Nx.sb (fun bx => ?_) | refine Nx.sa (fun A2 c2 => ?_))
    | ((with_reducible refine Nx.is_at ?_); first | refine Nx.a ?_ | refine Nx.zd ?_ | refine Nx.zs (fun hc => ?_) (fun hc => ?_))
    | ((with_reducible refine Nx.is_mix ?_); first | refine Nx.m ?_ | refine Nx.zm ?_ | refine Nx.zt (fun hc => ?_) (fun hc => ?_))
    | refine Nx.zx ?_ | fail
  refine Nx.unstop ?_
  revert bx; intro b17
  refine Nx.p_seq rfl ?_
  refine Nx.weak ?_ ?_ (learn12 B As Av Ap c' ca cv z0.length s.length v.length z0.length b4 b10 b17 rs.length ((rs.length : Int) + 1) rs (.pointer (some ⟨b7, 0, none⟩)) (.slice Ap z0.length z0.length) (.slice A11 xa.length c11) (.slice A13 xb.length c13) (.slice A15 xn.length c15) (.int .i64 0) [] 0 I8 (hrs.outer.mono hle8) (by omega) w (Blk b7 35 [.slice Av v.length cv]) F _ (by repeat first | exact PanicOk.fn | refine PanicOk.then_ ?_ | refine PanicOk.inB ?_) (fun A3 c3 q I' hle => spec12 A3 c3 q I' (hle8.trans hle)) fun A18 c18 => ?_)
  · exact ⟨rfl, rfl, rfl, rfl, rfl, rfl, rfl, rfl, rfl, rfl, trivial⟩
  · (exact Ent.auto)
  repeat' first
    | ((with_reducible refine Nx.is_wp ?_); first | refine Nx.wo ?_ | refine Nx.p_poolF (id := 13) rfl [0, 1, 2, 3, 4, 5, 6] [5] [] [8] [8] [⟨7, 20, 44, _⟩] rfl rfl (by kernel_rfl) (by kernel_rfl) (by decide) (PoolFit.cons ⟨⟨_, _, _, rfl⟩, rfl, rfl⟩ PoolFit.nil) (by repeat first | exact PanicOk.fn | refine PanicOk.then_ ?_ | refine PanicOk.inB ?_) (Ent.refl _) ?_ | refine Nx.zp (fun hc => ?_) (fun hc => ?_))
    | ((first | refine Nx.at_op rfl rfl ?_ | refine Nx.m_loud rfl rfl rfl ?_ | refine Nx.at_do rfl rfl rfl rfl ?_ | refine Nx.m_loud_do rfl rfl rfl rfl rfl ?_ | refine GoodF.loud_ rfl rfl rfl rfl (fun ex X => ?_)); first | refine Nx.opr rfl rfl ?_ | refine Nx.so ?_ | refine Nx.sb (fun bx => ?_) | refine Nx.sa (fun A2 c2 => ?_))
    | ((with_reducible refine Nx.is_at ?_); first | refine Nx.a ?_ | refine Nx.zd ?_ | refine Nx.zs (fun hc => ?_) (fun hc => ?_))
    | ((with_reducible refine Nx.is_mix ?_); first | refine Nx.m ?_ | refine Nx.zm ?_ | refine Nx.zt (fun hc => ?_) (fun hc => ?_))
    | ((with_reducible refine GoodF.is ?_); first | refine GoodF.quiet rfl rfl rfl rfl rfl rfl (by first | exact QRun.opr rfl |  exact QRun.std) ?_ | refine GoodF.done1 rfl (fun bx => ?_) | refine GoodF.done2 rfl (fun bx by_ => ?_) | refine GoodF.done3 rfl (fun bx by_ bz => ?_))
    | ((fail_if_success (with_reducible refine Nx.is_at ?_)); (fail_if_success (with_reducible refine Nx.is_wp ?_)); (fail_if_success (with_reducible refine Nx.is_mix ?_)); first | refine Nx.ex ?_ | refine Nx.pool_nextF 0 rfl (by exact Ent.auto) ?_ | refine Nx.pool_nextF 1 rfl (by exact Ent.auto) ?_ | refine Nx.pool_nextF 2 rfl (by exact Ent.auto) ?_ | refine Nx.pool_nextF 3 rfl (by exact Ent.auto) ?_)
  revert bx; intro b20
  revert bx; intro b5
  refine Nx.p_loop (σ := Nat × List Int) (fun q => [(4, .pointer (some ⟨b4, 0, none⟩)), (6, .slice As rs.length ca), (11, .slice A11 xa.length c11), (13, .slice A13 xb.length c13), (15, .slice A15 xn.length c15), (16, .int .i64 0), (18, .slice A18 0 c18), (19, .int .i64 0), (20, .pointer (some ⟨b20, 0, none⟩)), (113, .int .i64 z0.length), (114, .int .i64 (q.1 : Int))])
    (fun q => [Vec 3 1 (some ⟨b5, 0, none⟩) z0.length z0.length (q.2.map (Value.int .i64)), Blk b20 44 [.int .i64 rs.length, .slice Av v.length cv, .slice (some ⟨b5, 0, none⟩) z0.length z0.length], Blk b4 27 [.slice B s.length c'], F]) (fun q => q.1 ≤ z0.length ∧ q.2.length = z0.length ∧ ∀ j, j < q.1 → q.2.getD j default = -1) (fun q => z0.length - q.1) (0, List.replicate z0.length 0) rfl ⟨Nat.zero_le _, by simp, fun j hj => absurd hj (Nat.not_lt_zero _)⟩ ⟨rfl, rfl, rfl, rfl, rfl, rfl, rfl, rfl, rfl, rfl, rfl, trivial⟩ (by (exact Ent.auto)) ?_
  rintro ⟨i, zs⟩ ⟨hi, hzl, hzj⟩
  dsimp only at hi hzl hzj ⊢
  by_cases hiP : i < z0.length
  · repeat' first
      | ((with_reducible refine Nx.is_wp ?_); first | refine Nx.wo ?_ | refine Nx.zp (fun hc => ?_) (fun hc => ?_))
      | (refine Nx.zo ?_; first | refine Nx.opr rfl rfl ?_ | refine Nx.indexAddr_nat (A := some ⟨b5, 0, none⟩) (i := i) rfl rfl rfl rfl rfl hiP rfl ?_ | refine Nx.store_ints 0 (A := some ⟨b5, 0, none⟩) (i := i) (l := zs) rfl rfl rfl rfl hiP ?_ | refine Nx.so ?_ | refine Nx.sb (fun bx => ?_) | refine Nx.sa (fun A2 c2 => ?_))
      | ((with_reducible refine Nx.is_at ?_); first | refine Nx.a ?_ | refine Nx.zd ?_ | refine Nx.zs (fun hc => ?_) (fun hc => ?_))
      | ((with_reducible refine Nx.is_mix ?_); first | refine Nx.m ?_ | refine Nx.zm ?_ | refine Nx.zt (fun hc => ?_) (fun hc => ?_))
      | refine Nx.zx ?_ | fail
    exact Nx.again (i + 1, zs.set i (-1)) ⟨hiP, by dsimp only; rw [List.length_set]; exact hzl, fun j hj => by
      dsimp only at hj ⊢
      by_cases hij : i = j
      · subst hij; exact getD_set_eq (by omega)
      · rw [getD_set_ne hij]; exact hzj j (by omega)⟩ (by dsimp only; omega) ⟨rfl, rfl, rfl, rfl, rfl, rfl, rfl, rfl, rfl, rfl, rfl, trivial⟩ (by (exact Ent.auto))
  have hneg : ∀ x ∈ zs, x = -1 := fun x hx => by
    obtain ⟨j, hj, rfl⟩ := mem_getDI hx
    exact hzj j (by omega)
  refine Nx.freezeAt 0 rfl fun I9 m9 hI9 hm9 h9 => ?_
  have hhz : Ints I9 (some ⟨b5, 0, none⟩) z0.length zs := Vec.sliceOf (t := 3) hm9 (by rw [hzl]; exact h9)
  have hle9 := hle8.trans hI9
  have hLh := Learns_spec B As c' ca s rs ⟨(rs.length : Int), Av, cv, v, (some ⟨b5, 0, none⟩, z0.length, zs)⟩ I9 (hz.mono hle9) hs (hrs.mono hle9) hwv (by omega) (hv.mono hle9) hhz hw
  rw [hlawh zs _ _ hzl hneg] at hLh
  dsimp only at hLh
  rw [hzl] at hLh
  simp only [List.length_nil] at hLh
  repeat' first
    | ((with_reducible refine Nx.is_wp ?_); first | refine Nx.p_stops 22 rfl ?_ | refine Nx.wo ?_ | refine Nx.zp (fun hc => ?_) (fun hc => ?_))
    | (refine Nx.zo ?_; first | refine Nx.opr rfl rfl ?_ | (refine Nx.call (Rpre := []) rfl rfl rfl (by kernel_rfl) rfl hLh (Ent.refl _) ?_; rintro _ _ ⟨A22, c22, rfl, rfl⟩) | refine Nx.so ?_ | refine Nx.sb (fun bx => ?_) | refine Nx.sa (fun A2 c2 => ?_))
    | ((with_reducible refine Nx.is_at ?_); first | refine Nx.a ?_ | refine Nx.zd ?_ | refine Nx.zs (fun hc => ?_) (fun hc => ?_))
    | ((with_reducible refine Nx.is_mix ?_); first | refine Nx.m ?_ | refine Nx.zm ?_ | refine Nx.zt (fun hc => ?_) (fun hc => ?_))
    | refine Nx.zx ?_ | fail
  refine Nx.unstop ?_
  have hxa9 := (hxa.mono (hI7.trans hI8)).mono hI9
  have hxn9 := hxn.mono hI9
  have hnl := hxn.len
  have hal := hxa.len
  refine Nx.weak (e' := [(11, .slice A11 xa.length c11), (15, .slice A15 xn.length c15)]) (R' := [F]) ⟨rfl, rfl, trivial⟩ (by (exact Ent.auto)) ?_
  clear hLh spec7 spec12 hLn hCa hlawh
  repeat' first
    | ((with_reducible refine Nx.is_wp ?_); first | refine Nx.wo ?_ | refine Nx.zp (fun hc => ?_) (fun hc => ?_))
    | (refine Nx.zo ?_; first | refine Nx.opr rfl rfl ?_ | refine Nx.so ?_ | refine Nx.sb (fun bx => ?_) | refine Nx.sa (fun A2 c2 => ?_))
    | ((with_reducible refine Nx.is_at ?_); first | refine Nx.a ?_ | refine Nx.zd ?_ | refine Nx.zs (fun hc => ?_) (fun hc => ?_))
    | ((with_reducible refine Nx.is_mix ?_); first | refine Nx.m ?_ | refine Nx.zm ?_ | refine Nx.zt (fun hc => ?_) (fun hc => ?_))
    | refine Nx.zx ?_ | fail
  refine Nx.p_loop (σ := Nat) (fun i => [(11, .slice A11 xa.length c11), (159, .slice A15 xn.length c15), (160, .int .i64 xn.length), (161, .int .i64 (i : Int))])
    (fun _ => [F]) (fun i => i ≤ xn.length) (fun i => xn.length - i) 0 rfl (Nat.zero_le _) ⟨rfl, rfl, rfl, rfl, trivial⟩ (by (exact Ent.auto)) ?_
  intro i hi
  have hi : i ≤ xn.length := hi
  by_cases hin : i < xn.length
  case neg =>
    repeat' first
      | ((with_reducible refine Nx.is_wp ?_); first | refine Nx.wo ?_ | refine Nx.zp (fun hc => ?_) (fun hc => ?_))
      | (refine Nx.zo ?_; first | refine Nx.opr rfl rfl ?_ | refine Nx.callv rfl rfl rfl (by kernel_rfl) rfl (awakeA_spec _) ?_ | refine Nx.so ?_ | refine Nx.sb (fun bx => ?_) | refine Nx.sa (fun A2 c2 => ?_))
      | ((with_reducible refine Nx.is_at ?_); first | refine Nx.a ?_ | refine Nx.zd ?_ | refine Nx.zs (fun hc => ?_) (fun hc => ?_))
      | ((with_reducible refine Nx.is_mix ?_); first | refine Nx.m ?_ | refine Nx.zm ?_ | refine Nx.zt (fun hc => ?_) (fun hc => ?_))
      | refine Nx.zx ?_ | fail
    exact Nx.imm_le (hle8a.trans hI9) (Nx.ret_fn rfl [] ⟨rfl, rfl⟩ (by (exact Ent.auto)))
  have hyr : ∀ (W : World) (R : List Res), Rd W I9 R ((ad A15).add (i * 1)) (.int .i64 (xn.getD i default)) := fun W R => hxn9.rd hin
  have hA15 := hxn9.isSome (by omega)
  have hyn := hdis _ (getD_memI hin)
  generalize xn.getD i default = y at hyr hyn
  repeat' first
    | ((with_reducible refine Nx.is_wp ?_); first | refine Nx.wo ?_ | refine Nx.zp (fun hc => ?_) (fun hc => ?_))
    | (refine Nx.zo ?_; first | refine Nx.opr rfl rfl ?_ | refine Nx.indexAddr_nat (A := A15) (i := i) (sz := 1) rfl rfl rfl rfl rfl hin hA15 ?_ | refine Nx.load rfl rfl rfl (hyr _ _) ?_ | refine Nx.so ?_ | refine Nx.sb (fun bx => ?_) | refine Nx.sa (fun A2 c2 => ?_))
    | ((with_reducible refine Nx.is_at ?_); first | refine Nx.a ?_ | refine Nx.zd ?_ | refine Nx.zs (fun hc => ?_) (fun hc => ?_))
    | ((with_reducible refine Nx.is_mix ?_); first | refine Nx.m ?_ | refine Nx.zm ?_ | refine Nx.zt (fun hc => ?_) (fun hc => ?_))
    | refine Nx.zx ?_ | fail
  refine Nx.p_loop (σ := Nat) (fun j => [(11, .slice A11 xa.length c11), (25, .int .i64 y), (159, .slice A15 xn.length c15), (160, .int .i64 xn.length), (161, .int .i64 (i : Int)), (165, .slice A11 xa.length c11), (166, .int .i64 xa.length), (167, .int .i64 (j : Int))])
    (fun _ => [F]) (fun j => j ≤ xa.length) (fun j => xa.length - j) 0 rfl (Nat.zero_le _) ⟨rfl, rfl, rfl, rfl, rfl, rfl, rfl, rfl, trivial⟩ (by (exact Ent.auto)) ?_
  intro j hj
  have hj : j ≤ xa.length := hj
  by_cases hja : j < xa.length
  case neg =>
    repeat' first
      | ((with_reducible refine Nx.is_wp ?_); first | refine Nx.wo ?_ | refine Nx.zp (fun hc => ?_) (fun hc => ?_))
      | (refine Nx.zo ?_; first | refine Nx.opr rfl rfl ?_ | refine Nx.so ?_ | refine Nx.sb (fun bx => ?_) | refine Nx.sa (fun A2 c2 => ?_))
      | ((with_reducible refine Nx.is_at ?_); first | refine Nx.a ?_ | refine Nx.zd ?_ | refine Nx.zs (fun hc => ?_) (fun hc => ?_))
      | ((with_reducible refine Nx.is_mix ?_); first | refine Nx.m ?_ | refine Nx.zm ?_ | refine Nx.zt (fun hc => ?_) (fun hc => ?_))
      | refine Nx.zx ?_ | fail
    exact Nx.again (i + 1) hin (by omega) ⟨rfl, rfl, rfl, rfl, trivial⟩ (by (exact Ent.auto))
  have hzr : ∀ (W : World) (R : List Res), Rd W I9 R ((ad A11).add (j * 1)) (.int .i64 (xa.getD j default)) := fun W R => hxa9.rd hja
  have hA11 := hxa9.isSome (by omega)
  have hne : xa.getD j default ≠ y := fun h => hyn (h ▸ getD_memI hja)
  generalize xa.getD j default = z at hzr hne
  repeat' first
    | ((with_reducible refine Nx.is_wp ?_); first | refine Nx.wo ?_ | refine Nx.zp (fun hc => ?_) (fun hc => ?_))
    | (refine Nx.zo ?_; first | refine Nx.opr rfl rfl ?_ | refine Nx.indexAddr_nat (A := A11) (i := j) (sz := 1) rfl rfl rfl rfl rfl hja hA11 ?_ | refine Nx.load rfl rfl rfl (hzr _ _) ?_ | refine Nx.so ?_ | refine Nx.sb (fun bx => ?_) | refine Nx.sa (fun A2 c2 => ?_))
    | ((with_reducible refine Nx.is_at ?_); first | refine Nx.a ?_ | refine Nx.zd ?_ | refine Nx.zs (fun hc => ?_) (fun hc => ?_))
    | ((with_reducible refine Nx.is_mix ?_); first | refine Nx.m ?_ | refine Nx.zm ?_ | refine Nx.zt (fun hc => ?_) (fun hc => ?_))
    | refine Nx.zx ?_ | fail
  exact Nx.again (j + 1) hja (by omega) ⟨rfl, rfl, rfl, rfl, rfl, rfl, rfl, rfl, trivial⟩ (by (exact Ent.auto))
end Go.Proofs.Ytcmdemfhbekabaa
