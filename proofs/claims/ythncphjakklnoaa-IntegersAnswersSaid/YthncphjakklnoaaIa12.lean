/- Contracts of functions of the given program, and lemmas about plain lists and numbers: what the laws of this seat lean on. -/
import Derived.Deep.Slices
import Derived.ChangeSlices
import Derived.OpenShut
import Derived.Lib.SmallJoins
import Derived.Test.YthncphjakklnoaaIa11
namespace Go.Proofs.Ythncphjakklnoaa
open Go.Eng Go.Sol
attribute [local irreducible] opK wpList Code.wp Exit.then Exit.inBlock fnPost bodyPost Nx Calls Oper.wp Rd Rds Wr Ent Stars Blk Again Vec FnSpec wpMix QRun Stop Upto wpAt
/-! Plain: made equations and their solutions -/
theorem asc_room : ∀ {xs : List Int} {a b : Int}, xs.Pairwise (· < ·) → (∀ x ∈ xs, a ≤ x ∧ x < b) → (xs.length : Int) ≤ max 0 (b - a)
  | [], a, b, _, _ => by simp; omega
  | x :: r, a, b, h, hb => by
    rw [List.pairwise_cons] at h
    have hx := hb x List.mem_cons_self
    have ih := asc_room (a := x + 1) (b := b) h.2 fun y hy => by have := h.1 y hy; have := hb y (List.mem_cons_of_mem _ hy); omega
    rw [List.length_cons]
    omega
theorem good_len {n : Nat} {q : EqR} (hg : GoodE n q) : q.1.2.2.length ≤ n := by
  have := asc_room hg.asc hg.lt
  omega
theorem allC_good {n : Nat} : ∀ {l : List EqR}, (∀ q ∈ l, GoodE n q) → (allC l).length ≤ l.length * n
  | [], _ => by simp [allC]
  | q :: l, hg => by
    have ih := allC_good (l := l) fun p hp => hg p (List.mem_cons_of_mem _ hp)
    have h1 := good_len (hg q List.mem_cons_self)
    show (q.1.2.2 ++ allC l).length ≤ _
    rw [List.length_append, List.length_cons, Nat.succ_mul]
    omega
theorem EqsOk.all {N : Nat} {t : List Int} {most : Int} {qs : List EqR} (h : EqsOk N t most qs) : (allC qs).length ≤ 384 := by
  have h1 := allC_good h.good
  have h2 := h.few
  have h3 := h.n
  exact Nat.le_trans h1 (Nat.mul_le_mul h2 h3.2)
/-- The table, 0 where no equation is. -/
def wantL (N : Nat) (U : List Nat) (t : List Int) : List Int := (List.range N).map fun c => if c ∈ U then t.getD c 0 else 0
theorem wantL_len (N : Nat) (U : List Nat) (t : List Int) : (wantL N U t).length = N := by simp [wantL]
theorem wantL_at {N : Nat} {U : List Nat} {t : List Int} {c : Nat} (hc : c < N) : (wantL N U t).getD c 0 = if c ∈ U then t.getD c 0 else 0 := by
  unfold wantL
  rw [List.getD_eq_getElem?_getD, List.getElem?_map, List.getElem?_range hc]; rfl
theorem wantL_out {N : Nat} {U : List Nat} {t : List Int} {c : Nat} (hc : ¬ c < N) : (wantL N U t).getD c 0 = 0 := getD_ge (by rw [wantL_len]; omega)
/-- Values of a table that agrees with all equations, 0 elsewhere: a solution. -/
theorem want_sol {N : Nat} {l : List EqR} {t : List Int} (hg : ∀ q ∈ l, GoodE N q) (hp : ∀ c ∈ touch N (eqns l), 0 ≤ t.getD c 0 ∧ t.getD c 0 ≤ 1000000) (hs : ∀ q ∈ l, sumC t (eqn q).1 = q.2) : wantL N (touch N (eqns l)) t ∈ solsOf N (eqns l) := by
  have hat : ∀ c ∈ touch N (eqns l), (wantL N (touch N (eqns l)) t).getD c 0 = t.getD c 0 := fun c hc => by
    rw [wantL_at (mem_touch.1 hc).1, if_pos hc]
  refine (mem_sols hg).2 ⟨wantL_len _ _ _, fun c hc => ?_, fun c hc => by rw [hat c hc]; exact hp c hc, fun q hq => ?_⟩
  · rw [zeros_at]
    by_cases hN : c < N
    · rw [wantL_at hN, if_neg hc]
    · exact wantL_out hN
  · obtain ⟨p, hpl, rfl⟩ := List.mem_map.1 hq
    rw [← show sumC t (eqn p).1 = (eqn p).2 from hs p hpl]
    refine sumC_congr fun c hc => hat c (mem_touch.2 ⟨?_, eqn p, hq, hc⟩)
    have := (hg p hpl).lt (c : Int) ((mem_eqn (hg p hpl)).1 hc)
    omega
theorem EqsOk.pos {N : Nat} {t : List Int} {qs : List EqR} (h : EqsOk N t 2 qs) (c : Nat) : 0 ≤ t.getD c 0 ∧ t.getD c 0 ≤ 1000000 := by
  by_cases hc : c < t.length
  · have := h.tab c hc
    exact ⟨this.1, by have := this.2; show t.getD c default ≤ _; omega⟩
  · rw [getD_ge (by omega)]; decide
theorem EqsOk.want {N : Nat} {t : List Int} {qs : List EqR} (h : EqsOk N t 2 qs) : wantL N (touch N (eqns qs)) t ∈ solsOf N (eqns qs) := want_sol h.good (fun c _ => h.pos c) h.sum
theorem EqsOk.some {N : Nat} {t : List Int} {qs : List EqR} (h : EqsOk N t 2 qs) : solsOf N (eqns qs) ≠ [] := fun he => by
  have := h.want; rw [he] at this; cases this
/-! Made equations are given up -/
theorem eqs_of {A : Option Addr} {c : Nat} {qs : List EqR} {m m1 m2 I' : PH} (hm : PH.le m I') (h1 : Vec 45 2 A qs.length c (qs.flatMap eqC) m1) (hm1 : PH.le m1 m) (h2 : Stars (qs.map fun q => rowR q.1) m2) (hm2 : PH.le m2 m) : Eqs I' A c qs := by
  refine ⟨Vec.sliceN (hm1.trans hm) h1 fun x _ => eqC_len x, fun q hq => ?_⟩
  obtain ⟨k, hk, he⟩ := List.mem_iff_getElem.1 hq
  obtain ⟨m3, h3le, h3⟩ := Stars.get k (r := rowR q.1) h2 (by rw [nthL_eq, List.getElem?_map, List.getElem?_eq_getElem hk, he]; rfl)
  exact Vec.sliceOf ((h3le.trans hm2).trans hm) h3
theorem Nx.giveEqs {C : Cx} {e : Env} {I : PH} {R : List Res} {K : Act → World → Prop} {At A : Option Addr} {ct c : Nat} {t : List Int} {qs : List EqR} {RR : List Res}
    (hR : Ent R (Stars (iR At ct t :: eqsR A c qs) :: RR)) (h : ∀ I', PH.le I I' → Ints I' At ct t → Eqs I' A c qs → Nx C e I' RR K) : Nx C e I R K := by
  refine Nx.ent hR ?_
  refine Nx.freezeAt 0 rfl fun I1 m1 hI1 hm1 h1 => ?_
  obtain ⟨a1, ha1, b1⟩ := Stars.get 0 h1 rfl
  obtain ⟨a2, ha2, b2⟩ := Stars.get 1 h1 rfl
  obtain ⟨a3, ha3, b3⟩ := Stars.get 2 h1 rfl
  exact h I1 hI1 (Vec.sliceOf (ha1.trans hm1) b1) (eqs_of hm1 b2 ha2 b3 ha3)
theorem Nx.giveRows {C : Cx} {e : Env} {I : PH} {R : List Res} {K : Act → World → Prop} {A : Option Addr} {c : Nat} {o : List Row} {RR : List Res}
    (hR : Ent R (Stars (rowsR A c o) :: RR)) (h : ∀ I', PH.le I I' → RowsOf I' A c o → Nx C e I' RR K) : Nx C e I R K := by
  refine Nx.ent hR ?_
  refine Nx.freezeAt 0 rfl fun I1 m1 hI1 hm1 h1 => ?_
  exact h I1 hI1 (rows_of hm1 h1)
end Go.Proofs.Ythncphjakklnoaa
/- Contracts of functions of the given program, and lemmas about plain lists and numbers: what the laws of this seat lean on. -/
namespace Go.Proofs.Ythncphjakklnoaa
open Go.Eng Go.Sol
attribute [local irreducible] opK wpList Code.wp Exit.then Exit.inBlock fnPost bodyPost Nx Calls Oper.wp Rd Rds Wr Ent Stars Blk Again Vec FnSpec wpMix QRun Stop Upto wpAt
/-! Fewer equations -/
theorem EqsOk.take {N : Nat} {t : List Int} {most : Int} {qs : List EqR} (h : EqsOk N t most qs) (k : Nat) : EqsOk N t most (qs.take k) :=
  ⟨h.n, h.len, h.tab, by have := h.few; rw [List.length_take]; omega, fun q hq => h.good q (List.mem_of_mem_take hq), fun q hq => h.sum q (List.mem_of_mem_take hq)⟩
theorem Eqs.take {I : PH} {A : Option Addr} {c : Nat} {l : List EqR} (h : Eqs I A c l) (k : Nat) : Eqs I A c (l.take k) := by
  refine ⟨⟨fun j u hj => ?_, by have := h.outer.cap; rw [List.length_take]; omega, h.outer.max, fun x hx => h.outer.cells x (List.mem_of_mem_take hx)⟩, fun q hq => h.inner q (List.mem_of_mem_take hq)⟩
  refine h.outer.arr j u ?_
  have e : l.flatMap eqC = (l.take k).flatMap eqC ++ (l.drop k).flatMap eqC := by rw [← List.flatMap_append, List.take_append_drop]
  rw [e, List.getElem?_append_left (List.getElem?_eq_some_iff.1 hj).1]
  exact hj
end Go.Proofs.Ythncphjakklnoaa
/- Contracts of functions of the given program, and lemmas about plain lists and numbers: what the laws of this seat lean on. -/
namespace Go.Proofs.Ythncphjakklnoaa
open Go.Eng Go.Sol
attribute [local irreducible] opK wpList Code.wp Exit.then Exit.inBlock fnPost bodyPost Nx Calls Oper.wp Rd Rds Wr Ent Stars Blk Again Vec FnSpec wpMix QRun Stop Upto wpAt
theorem eq_one (l : List EqR) : ∀ u ∈ l.flatMap eqC, u.oneCell' = true := fun u hu => by
  obtain ⟨x, _, hx⟩ := List.mem_flatMap.1 hu
  simp only [eqC, List.mem_cons, List.not_mem_nil, or_false] at hx
  rcases hx with rfl | rfl <;> rfl
theorem eq_len (l : List EqR) : (l.flatMap eqC).length = l.length * 2 := flat_len eqC_len l
end Go.Proofs.Ythncphjakklnoaa
/- Contracts of functions of the given program, and lemmas about plain lists and numbers: what the laws of this seat lean on. -/
namespace Go.Proofs.Ythncphjakklnoaa
open Go.Eng Go.Sol
/-! Equations that come in -/
section
open Go.ChangeShapes Go.WideShapes Go.RowKit Go.Deep
variable {H : Type} {enc : TypeId × Value → H} {W : World} {base : Nat} {v : Value} {d : DataW H} {ps : List MemPlace} {sp : Nat → Bool}
set_option maxRecDepth 100000 in
theorem erow_cells {fuel : Nat} {cs : List Value} {x : DataW H × List MemPlace} (h : DataW.trod enc Try.prog W base sp true fuel 23 cs = some x) : ∃ y : Row, cs = [rowV y] ∧ Ints (fun i => W.heap[i]?) y.1 y.2.1 y.2.2 := by
  rcases ChangeShapes.open_ints Try.underlying23 Try.underlying3 (by kernel_rfl) h with ⟨hcs, _⟩ | ⟨a, n, c, zs, hcs, _, hle, hm, hz, _, hcell, _⟩
  · exact ⟨(none, 0, []), hcs, SliceOf.nil⟩
  · have hzl : n ≤ zs.length := by rw [hz]; split <;> omega
    have hlen : (zs.take n).length = n := by rw [List.length_take]; omega
    refine ⟨(some a, c, zs.take n), by rw [hcs]; show [Value.slice (some a) n c] = [Value.slice (some a) (zs.take n).length c]; rw [hlen], ⟨fun j u hj => ⟨rfl, ?_⟩, by dsimp only; rw [hlen]; exact hle, hm⟩⟩
    dsimp only at hj
    rw [List.getElem?_map, List.getElem?_take] at hj
    split at hj
    · rename_i hjn
      have := hcell j (by omega)
      rw [List.getElem?_eq_getElem (by omega)] at hj
      simp at hj
      rw [List.getD_eq_getElem?_getD, List.getElem?_eq_getElem (by omega)] at this
      rw [← hj]
      exact this
    · simp at hj
set_option maxRecDepth 100000 in
theorem eq_cells {fuel : Nat} {cs : List Value} {x : DataW H × List MemPlace} (h : DataW.trod enc Try.prog W base sp true fuel 45 cs = some x) : ∃ y : EqR, cs = eqC y ∧ Ints (fun i => W.heap[i]?) y.1.1 y.1.2.1 y.1.2.2 := by
  obtain ⟨xs, n, _, _, hl, hlen, hf⟩ := DataW.trod_struct Try.underlying45 h
  have hl : cs.length = 2 := hl
  have hlen : xs.length = 2 := hlen
  match cs, hl with
  | [c0, c1], _ =>
    match xs, hlen with
    | [y0, y1], _ =>
      obtain ⟨r, e0, hr⟩ := erow_cells (show DataW.trod enc Try.prog W base sp true n 23 [c0] = some y0 from hf 0 _ rfl)
      obtain ⟨p1, e1, _, _⟩ := DataW.trod_int Try.underlying3 (show DataW.trod enc Try.prog W base sp true n 3 [c1] = some y1 from hf 1 _ rfl)
      simp only [List.cons.injEq, and_true] at e0 e1
      subst e0 e1
      exact ⟨(r, p1), rfl, hr⟩
theorem eq_get : ∀ {l : List EqR} {j : Nat} {u : Value}, (l.flatMap eqC)[j]? = some u → j / 2 < l.length ∧ (eqC (l.getD (j / 2) default))[j % 2]? = some u
  | [], j, u, h => by simp at h
  | x :: l, j, u, h => by
    rw [List.flatMap_cons] at h
    by_cases hj : j < 2
    · rw [List.getElem?_append_left (by rw [eqC_len]; exact hj)] at h
      rw [show j / 2 = 0 by omega, show j % 2 = j by omega]
      exact ⟨by simp, h⟩
    · rw [List.getElem?_append_right (by rw [eqC_len]; omega), eqC_len] at h
      obtain ⟨h1, h2⟩ := eq_get h
      rw [show j / 2 = (j - 2) / 2 + 1 by omega, show j % 2 = (j - 2) % 2 by omega, List.getD_cons_succ]
      exact ⟨by simp; omega, h2⟩
theorem choose_eq {n : Nat} {p : Nat → EqR → Prop} (h : ∀ i, i < n → ∃ y, p i y) : ∃ q : Nat → EqR, ∀ i, i < n → p i (q i) :=
  ⟨fun i => if hi : i < n then (h i hi).choose else default, fun i hi => by dsimp only; rw [dif_pos hi]; exact (h i hi).choose_spec⟩
set_option maxRecDepth 100000 in
theorem open_eqs (hval : Value.okWide Try.prog W .any base 24 v) (h : DataW.Trod enc Try.prog W 0 sp true 24 v d ps) :
    ∃ (A : Option Addr) (c : Nat) (l : List EqR), v = .slice A l.length c ∧ Eqs (fun i => W.heap[i]?) A c l := by
  obtain ⟨A, n, c, rfl⟩ := okWide_slice Try.underlying24 hval
  obtain ⟨fuel, hf⟩ := h
  have hc1 : Try.prog.cellsOf 45 = 2 := by kernel_rfl
  rcases open_slice Try.underlying24 hf with ⟨hcs, hx⟩ | ⟨a, len, cap, m, n', D, Pl, hcs, _, hle, hm, hmm, _, hcell⟩
  · simp [Value.cells] at hcs
    obtain ⟨rfl, rfl, rfl⟩ := hcs
    exact ⟨none, 0, [], rfl, ⟨Arr.nil, Nat.le_refl _, by unfold maxLen; omega, by simp⟩, by simp⟩
  · simp [Value.cells] at hcs
    obtain ⟨rfl, rfl, rfl⟩ := hcs
    have hnm : n ≤ m := by rw [hmm]; split <;> omega
    obtain ⟨q, hq⟩ := choose_eq (n := n) (p := fun i y => Ints (fun i => W.heap[i]?) y.1.1 y.1.2.1 y.1.2.2 ∧ ∀ j, j < 2 → W.cell? (a.add (i * 2 + j)) = (eqC y)[j]?) (fun i hi => by
      obtain ⟨cs', h1, h2⟩ := hcell i (by omega)
      obtain ⟨y, rfl, ho⟩ := eq_cells h2
      refine ⟨y, ho, fun j hj => ?_⟩
      obtain ⟨_, _, h3⟩ := World.cells?_some h1
      have := h3 j (by rw [hc1]; exact hj)
      rw [Addr.add_add, hc1] at this
      exact this)
    have hl : ((List.range n).map q).length = n := by simp
    have hg : ∀ i, i < n → ((List.range n).map q).getD i default = q i := fun i hi => by
      rw [List.getD_eq_getElem?_getD, List.getElem?_eq_getElem (by omega)]; simp
    refine ⟨some a, c, (List.range n).map q, by rw [hl], ⟨fun j u hj => ?_, by rw [hl]; exact hle, hm, fun x _ => eqC_len x⟩, fun x hx => ?_⟩
    · obtain ⟨h1, h2⟩ := eq_get hj
      rw [hl] at h1
      rw [hg _ h1] at h2
      refine ⟨rfl, ?_⟩
      have h3 := (hq _ h1).2 (j % 2) (by omega)
      rw [h2, show j / 2 * 2 + j % 2 = j by omega] at h3
      exact h3
    · obtain ⟨i, hi, rfl⟩ := List.mem_map.1 hx
      exact (hq i (List.mem_range.1 hi)).1
end
end Go.Proofs.Ythncphjakklnoaa
/- Contracts of functions of the given program, and lemmas about plain lists and numbers: what the laws of this seat lean on. -/
namespace Go.Proofs.Ythncphjakklnoaa
open Go.Eng Go.Sol
attribute [local irreducible] opK wpList Code.wp Exit.then Exit.inBlock fnPost bodyPost Nx Calls Oper.wp Rd Rds Wr Ent Stars Blk Again Vec FnSpec wpMix QRun Stop Upto wpAt
theorem tmod_modI (k : Int) {n : Int} (hn : 0 < n) : (k.tmod n < 0 → k.tmod n + n = k % n) ∧ (¬ k.tmod n < 0 → k.tmod n = k % n) := by
  have h1 := Int.mul_tdiv_add_tmod k n
  have h2 : (k.tmod n).natAbs < n.natAbs := by rw [Int.natAbs_tmod]; exact Nat.mod_lt _ (by omega)
  refine ⟨fun h => ?_, fun h => ?_⟩
  · refine ((Int.ediv_emod_unique hn).2 ⟨?_, ?_, ?_⟩ : k / n = k.tdiv n - 1 ∧ k % n = k.tmod n + n).2.symm
    · rw [Int.mul_sub]; omega
    · omega
    · omega
  · refine ((Int.ediv_emod_unique hn).2 ⟨?_, ?_, ?_⟩ : k / n = k.tdiv n ∧ k % n = k.tmod n).2.symm
    · omega
    · omega
    · omega
set_option maxHeartbeats 8000000 in
set_option maxRecDepth 10000 in
theorem ModI_spec (k n : Int) (hk : I64 k) (hn : 1 ≤ n ∧ n ≤ 1000000) (I : PH) : FnSpec Try.prog 23 [.int .i64 k, .int .i64 n] I [] (fun v R' => v = .int .i64 (k % n) ∧ R' = []) := by
  obtain ⟨e1, e2⟩ := tmod_modI k (by omega : 0 < n)
  have hb : (k.tmod n).natAbs < n.natAbs := by rw [Int.natAbs_tmod]; exact Nat.mod_lt _ (by omega)
  refine FnSpec.enterP Try.func23 rfl Try.ntmps23 rfl fun w F => ?_
  repeat' first
    | ((with_reducible refine Nx.is_wp ?_); first | refine Nx.wo ?_ | refine Nx.p_dec rfl rfl (fun hc => ?_) (fun hc => ?_) | refine Nx.p_bool rfl rfl (fun hc => ?_) (fun hc => ?_))
    | ((first | refine Nx.at_op rfl rfl ?_ | refine Nx.m_loud rfl rfl rfl ?_ | refine Nx.at_do rfl rfl rfl rfl ?_ | refine Nx.m_loud_do rfl rfl rfl rfl rfl ?_); first | refine Nx.opr rfl rfl ?_ | refine Nx.bin rfl rfl (run_remT (by omega)) rfl ?_ | refine Nx.so ?_ | refine Nx.sb (fun bx => ?_) | refine Nx.sa (fun A2 c2 => ?_))
    | ((with_reducible refine Nx.is_at ?_); first | refine Nx.a ?_ | ((fail_if_success refine Nx.at_do rfl rfl rfl rfl ?_); first | refine Nx.at_dec_t rfl rfl rfl rfl (by first | assumption | omega) ?_ | refine Nx.at_dec_f rfl rfl rfl rfl (by first | assumption | omega) ?_ | refine Nx.at_split rfl rfl rfl rfl (fun hc => ?_) (fun hc => ?_) | refine Nx.at_splitb rfl rfl rfl rfl (fun hc => ?_) (fun hc => ?_)))
    | ((with_reducible refine Nx.is_mix ?_); first | refine Nx.m ?_ | ((fail_if_success refine Nx.m_quiet_do rfl rfl rfl rfl rfl rfl rfl ?_ ?_); (fail_if_success refine Nx.m_loud_do rfl rfl rfl rfl rfl ?_); first | refine Nx.m_dec_t rfl rfl rfl rfl (by first | assumption | omega) ?_ | refine Nx.m_dec_f rfl rfl rfl rfl (by first | assumption | omega) ?_ | refine Nx.m_split rfl rfl rfl rfl (fun hc => ?_) (fun hc => ?_) | refine Nx.m_splitb rfl rfl rfl rfl (fun hc => ?_) (fun hc => ?_)))
    | ((fail_if_success (with_reducible refine Nx.is_at ?_)); (fail_if_success (with_reducible refine Nx.is_wp ?_)); (fail_if_success (with_reducible refine Nx.is_mix ?_)); first | refine Nx.ex ?_)
  all_goals first
    | exact Nx.ret_fn rfl [] ⟨by rw [e1 (by assumption)], rfl⟩ (Ent.refl _)
    | exact Nx.ret_fn rfl [] ⟨by rw [e2 (by assumption)], rfl⟩ (Ent.refl _)
abbrev EqL := Option Addr × Nat × List EqR
def eqlV (x : EqL) : Value := .slice x.1 x.2.2.length x.2.1
theorem row_in {r : Row} {o : List Row} {m I' : PH} (hm : PH.le m I') (h : Stars (o.map rwR) m) (hr : r ∈ o ∨ r = nilRow) : Ints I' r.1 r.2.1 r.2.2 := by
  rcases hr with hr | rfl
  · obtain ⟨k, hk, he⟩ := List.mem_iff_getElem.1 hr
    obtain ⟨m3, h3le, h3⟩ := Stars.get k (r := rwR r) h (by rw [nthL_eq, List.getElem?_map, List.getElem?_eq_getElem hk, he]; rfl)
    exact Vec.sliceOf (h3le.trans hm) h3
  · exact SliceOf.nil
theorem allC_twelve : ∀ {l : List EqR}, (∀ q ∈ l, q.1.2.2.length ≤ 12) → (allC l).length ≤ l.length * 12
  | [], _ => by simp [allC]
  | q :: l, h => by
    have ih := allC_twelve (l := l) fun p hp => h p (List.mem_cons_of_mem _ hp)
    have h1 := h q List.mem_cons_self
    show (q.1.2.2 ++ allC l).length ≤ _
    rw [List.length_append, List.length_cons, Nat.succ_mul]
    omega
theorem allC_app (a b : List EqR) : (allC (a ++ b)).length = (allC a).length + (allC b).length := by
  unfold allC
  rw [List.flatMap_append, List.length_append]
theorem memX {X : List EqL} {k : Nat} (h : k < X.length) : X.getD k default ∈ X := by
  rw [List.getD_eq_getElem?_getD, List.getElem?_eq_getElem h]; exact List.getElem_mem _
set_option maxRecDepth 10000 in
set_option maxHeartbeats 32000000 in
theorem IntegersAnswers_spec (n : Int) (A1 : Option Addr) (c1 : Nat) (raw : List EqR) (most cell : Int) (A : Option Addr) (c : Nat) (l : List Int) (I : PH) (hraw : Eqs I A1 c1 raw) (hmost : I64 most) (hcell : I64 cell) (hl : Bytes I A c l) (hx : ∀ x ∈ l, 0 ≤ x ∧ x < 256) :
    FnSpec Try.prog 6 [.int .i64 n, .slice A1 raw.length c1, .int .i64 most, .int .i64 cell, .slice A l.length c] I [] (fun v R' => v = .bool true ∧ R' = []) := by
  have hL := bytes_take hl hx
  have hrl := hraw.len
  refine FnSpec.enterP Try.func6 rfl Try.ntmps6 rfl fun w F => ?_
  by_cases h8 : raw.length ≤ 8
  case neg =>
    repeat' first
      | ((with_reducible refine Nx.is_wp ?_); first | refine Nx.wo ?_ | refine Nx.p_dec rfl rfl (fun hc => ?_) (fun hc => ?_) | refine Nx.p_bool rfl rfl (fun hc => ?_) (fun hc => ?_))
      | ((first | refine Nx.at_op rfl rfl ?_ | refine Nx.m_loud rfl rfl rfl ?_ | refine Nx.at_do rfl rfl rfl rfl ?_ | refine Nx.m_loud_do rfl rfl rfl rfl rfl ?_); first | refine Nx.opr rfl rfl ?_ | refine Nx.callv rfl rfl rfl (by kernel_rfl) rfl (awakeI_spec _) ?_ | refine Nx.so ?_ | refine Nx.sb (fun bx => ?_) | refine Nx.sa (fun A2 c2 => ?_))
      | ((with_reducible refine Nx.is_at ?_); first | refine Nx.a ?_ | ((fail_if_success refine Nx.at_do rfl rfl rfl rfl ?_); first | refine Nx.at_dec_t rfl rfl rfl rfl (by first | assumption | omega) ?_ | refine Nx.at_dec_f rfl rfl rfl rfl (by first | assumption | omega) ?_ | refine Nx.at_split rfl rfl rfl rfl (fun hc => ?_) (fun hc => ?_) | refine Nx.at_splitb rfl rfl rfl rfl (fun hc => ?_) (fun hc => ?_)))
      | ((with_reducible refine Nx.is_mix ?_); first | refine Nx.m ?_ | ((fail_if_success refine Nx.m_quiet_do rfl rfl rfl rfl rfl rfl rfl ?_ ?_); (fail_if_success refine Nx.m_loud_do rfl rfl rfl rfl rfl ?_); first | refine Nx.m_dec_t rfl rfl rfl rfl (by first | assumption | omega) ?_ | refine Nx.m_dec_f rfl rfl rfl rfl (by first | assumption | omega) ?_ | refine Nx.m_split rfl rfl rfl rfl (fun hc => ?_) (fun hc => ?_) | refine Nx.m_splitb rfl rfl rfl rfl (fun hc => ?_) (fun hc => ?_)))
      | ((fail_if_success (with_reducible refine Nx.is_at ?_)); (fail_if_success (with_reducible refine Nx.is_wp ?_)); (fail_if_success (with_reducible refine Nx.is_mix ?_)); first | refine Nx.ex ?_)
    exact Nx.ret_fn rfl [] ⟨rfl, rfl⟩ (by (exact Ent.auto))
  repeat' first
    | ((with_reducible refine Nx.is_wp ?_); first | refine Nx.wo ?_ | refine Nx.p_dec rfl rfl (fun hc => ?_) (fun hc => ?_) | refine Nx.p_bool rfl rfl (fun hc => ?_) (fun hc => ?_))
    | ((first | refine Nx.at_op rfl rfl ?_ | refine Nx.m_loud rfl rfl rfl ?_ | refine Nx.at_do rfl rfl rfl rfl ?_ | refine Nx.m_loud_do rfl rfl rfl rfl rfl ?_); first | refine Nx.opr rfl rfl ?_ | refine Nx.so ?_ | refine Nx.sb (fun bx => ?_) | refine Nx.sa (fun A2 c2 => ?_))
    | ((with_reducible refine Nx.is_at ?_); first | refine Nx.a ?_ | ((fail_if_success refine Nx.at_do rfl rfl rfl rfl ?_); first | refine Nx.at_dec_t rfl rfl rfl rfl (by first | assumption | omega) ?_ | refine Nx.at_dec_f rfl rfl rfl rfl (by first | assumption | omega) ?_ | refine Nx.at_split rfl rfl rfl rfl (fun hc => ?_) (fun hc => ?_) | refine Nx.at_splitb rfl rfl rfl rfl (fun hc => ?_) (fun hc => ?_)))
    | ((with_reducible refine Nx.is_mix ?_); first | refine Nx.m ?_ | ((fail_if_success refine Nx.m_quiet_do rfl rfl rfl rfl rfl rfl rfl ?_ ?_); (fail_if_success refine Nx.m_loud_do rfl rfl rfl rfl rfl ?_); first | refine Nx.m_dec_t rfl rfl rfl rfl (by first | assumption | omega) ?_ | refine Nx.m_dec_f rfl rfl rfl rfl (by first | assumption | omega) ?_ | refine Nx.m_split rfl rfl rfl rfl (fun hc => ?_) (fun hc => ?_) | refine Nx.m_splitb rfl rfl rfl rfl (fun hc => ?_) (fun hc => ?_)))
    | ((fail_if_success (with_reducible refine Nx.is_at ?_)); (fail_if_success (with_reducible refine Nx.is_wp ?_)); (fail_if_success (with_reducible refine Nx.is_mix ?_)); first | refine Nx.ex ?_)
  refine Nx.p_loop (σ := Nat) (fun k => [(0, .int .i64 n), (1, .slice A1 raw.length c1), (2, .int .i64 most), (3, .int .i64 cell), (4, .slice A l.length c), (48, .slice A1 raw.length c1), (49, .int .i64 raw.length), (50, .int .i64 (k : Int))])
    (fun _ => [F]) (fun k => k ≤ raw.length ∧ ∀ q ∈ raw.take k, q.1.2.2.length ≤ 12) (fun k => raw.length - k) 0 rfl ⟨Nat.zero_le _, by simp⟩ ⟨rfl, rfl, rfl, rfl, rfl, rfl, rfl, rfl, trivial⟩ (by (exact Ent.auto)) ?_
  rintro k ⟨hk, hall⟩
  by_cases hlt : k < raw.length
  · have hsn := take_snocQ hlt
    have hin := hraw.inner _ (getD_memQ hlt)
    have hinl := hin.len
    have rf0 := fun (W : World) (R : List Res) => SliceN.fld (W := W) (R := R) (v := .slice (raw.getD k default).1.1 (raw.getD k default).1.2.2.length (raw.getD k default).1.2.1) hraw.outer hlt 0 rfl
    generalize raw.getD k default = q at hsn hin rf0 hinl
    obtain ⟨⟨Ax, cx, xs⟩, z⟩ := q
    dsimp only at hin rf0 hinl
    by_cases h12 : xs.length ≤ 12
    · repeat' first
        | ((with_reducible refine Nx.is_wp ?_); first | refine Nx.wo ?_ | refine Nx.p_dec rfl rfl (fun hc => ?_) (fun hc => ?_) | refine Nx.p_bool rfl rfl (fun hc => ?_) (fun hc => ?_))
        | ((first | refine Nx.at_op rfl rfl ?_ | refine Nx.m_loud rfl rfl rfl ?_ | refine Nx.at_do rfl rfl rfl rfl ?_ | refine Nx.m_loud_do rfl rfl rfl rfl rfl ?_); first | (refine Nx.quietly rfl rfl (QRun.fld (A := (ad A1).add (k * 2)) rfl rfl) ?_) | refine Nx.opr rfl rfl ?_ | refine Nx.indexAddr_nat rfl rfl rfl rfl rfl hlt (hraw.outer.isSome (by omega) (by omega)) ?_ | refine Nx.load rfl rfl rfl (rf0 _ _) ?_ | refine Nx.so ?_ | refine Nx.sb (fun bx => ?_) | refine Nx.sa (fun A2 c2 => ?_))
        | ((with_reducible refine Nx.is_at ?_); first | refine Nx.a ?_ | ((fail_if_success refine Nx.at_do rfl rfl rfl rfl ?_); first | refine Nx.at_dec_t rfl rfl rfl rfl (by first | assumption | omega) ?_ | refine Nx.at_dec_f rfl rfl rfl rfl (by first | assumption | omega) ?_ | refine Nx.at_split rfl rfl rfl rfl (fun hc => ?_) (fun hc => ?_) | refine Nx.at_splitb rfl rfl rfl rfl (fun hc => ?_) (fun hc => ?_)))
        | ((with_reducible refine Nx.is_mix ?_); first | refine Nx.m ?_ | ((fail_if_success refine Nx.m_quiet_do rfl rfl rfl rfl rfl rfl rfl ?_ ?_); (fail_if_success refine Nx.m_loud_do rfl rfl rfl rfl rfl ?_); first | refine Nx.m_dec_t rfl rfl rfl rfl (by first | assumption | omega) ?_ | refine Nx.m_dec_f rfl rfl rfl rfl (by first | assumption | omega) ?_ | refine Nx.m_split rfl rfl rfl rfl (fun hc => ?_) (fun hc => ?_) | refine Nx.m_splitb rfl rfl rfl rfl (fun hc => ?_) (fun hc => ?_)))
        | ((fail_if_success (with_reducible refine Nx.is_at ?_)); (fail_if_success (with_reducible refine Nx.is_wp ?_)); (fail_if_success (with_reducible refine Nx.is_mix ?_)); first | refine Nx.ex ?_)
      exact Nx.again (k + 1) ⟨hlt, by rw [hsn]; exact fun q hq => (List.mem_append.1 hq).elim (hall q) fun h => by rw [List.mem_singleton.1 h]; exact h12⟩ (by omega) ⟨rfl, rfl, rfl, rfl, rfl, rfl, rfl, rfl, trivial⟩ (by (exact Ent.auto))
    · repeat' first
        | ((with_reducible refine Nx.is_wp ?_); first | refine Nx.wo ?_ | refine Nx.p_dec rfl rfl (fun hc => ?_) (fun hc => ?_) | refine Nx.p_bool rfl rfl (fun hc => ?_) (fun hc => ?_))
        | ((first | refine Nx.at_op rfl rfl ?_ | refine Nx.m_loud rfl rfl rfl ?_ | refine Nx.at_do rfl rfl rfl rfl ?_ | refine Nx.m_loud_do rfl rfl rfl rfl rfl ?_); first | (refine Nx.quietly rfl rfl (QRun.fld (A := (ad A1).add (k * 2)) rfl rfl) ?_) | refine Nx.opr rfl rfl ?_ | refine Nx.indexAddr_nat rfl rfl rfl rfl rfl hlt (hraw.outer.isSome (by omega) (by omega)) ?_ | refine Nx.load rfl rfl rfl (rf0 _ _) ?_ | refine Nx.callv rfl rfl rfl (by kernel_rfl) rfl (awakeI_spec _) ?_ | refine Nx.so ?_ | refine Nx.sb (fun bx => ?_) | refine Nx.sa (fun A2 c2 => ?_))
        | ((with_reducible refine Nx.is_at ?_); first | refine Nx.a ?_ | ((fail_if_success refine Nx.at_do rfl rfl rfl rfl ?_); first | refine Nx.at_dec_t rfl rfl rfl rfl (by first | assumption | omega) ?_ | refine Nx.at_dec_f rfl rfl rfl rfl (by first | assumption | omega) ?_ | refine Nx.at_split rfl rfl rfl rfl (fun hc => ?_) (fun hc => ?_) | refine Nx.at_splitb rfl rfl rfl rfl (fun hc => ?_) (fun hc => ?_)))
        | ((with_reducible refine Nx.is_mix ?_); first | refine Nx.m ?_ | ((fail_if_success refine Nx.m_quiet_do rfl rfl rfl rfl rfl rfl rfl ?_ ?_); (fail_if_success refine Nx.m_loud_do rfl rfl rfl rfl rfl ?_); first | refine Nx.m_dec_t rfl rfl rfl rfl (by first | assumption | omega) ?_ | refine Nx.m_dec_f rfl rfl rfl rfl (by first | assumption | omega) ?_ | refine Nx.m_split rfl rfl rfl rfl (fun hc => ?_) (fun hc => ?_) | refine Nx.m_splitb rfl rfl rfl rfl (fun hc => ?_) (fun hc => ?_)))
        | ((fail_if_success (with_reducible refine Nx.is_at ?_)); (fail_if_success (with_reducible refine Nx.is_wp ?_)); (fail_if_success (with_reducible refine Nx.is_mix ?_)); first | refine Nx.ex ?_)
      exact Nx.ret_fn rfl [] ⟨rfl, rfl⟩ (by (exact Ent.auto))
  obtain rfl : k = raw.length := by omega
  rw [List.take_length] at hall
  have hC1 := allC_twelve hall
  repeat' first
    | ((with_reducible refine Nx.is_wp ?_); first | refine Nx.p_stopr 10 rfl ?_ | refine Nx.wo ?_ | refine Nx.p_dec rfl rfl (fun hc => ?_) (fun hc => ?_) | refine Nx.p_bool rfl rfl (fun hc => ?_) (fun hc => ?_))
    | ((first | refine Nx.at_op rfl rfl ?_ | refine Nx.m_loud rfl rfl rfl ?_ | refine Nx.at_do rfl rfl rfl rfl ?_ | refine Nx.m_loud_do rfl rfl rfl rfl rfl ?_); first | refine Nx.opr rfl rfl ?_ | (refine Nx.call (Rpre := []) rfl rfl rfl (by kernel_rfl) rfl (New_codes A c l I hl) (Ent.refl _) ?_; rintro _ _ ⟨b, rfl, rfl⟩) | (refine Nx.call rfl rfl rfl (by kernel_rfl) rfl (Equations_made b A c _ 0 2 I hL (Nat.zero_le _) (by omega)) (by (exact Ent.auto)) ?_; rintro _ _ ⟨N, At, ct, t, Aq, cq, qs, k1, rfl, hE, hk1, rfl⟩) | refine Nx.so ?_ | refine Nx.sb (fun bx => ?_) | refine Nx.sa (fun A2 c2 => ?_))
    | ((with_reducible refine Nx.is_at ?_); first | refine Nx.a ?_ | ((fail_if_success refine Nx.at_do rfl rfl rfl rfl ?_); first | refine Nx.at_dec_t rfl rfl rfl rfl (by first | assumption | omega) ?_ | refine Nx.at_dec_f rfl rfl rfl rfl (by first | assumption | omega) ?_ | refine Nx.at_split rfl rfl rfl rfl (fun hc => ?_) (fun hc => ?_) | refine Nx.at_splitb rfl rfl rfl rfl (fun hc => ?_) (fun hc => ?_)))
    | ((with_reducible refine Nx.is_mix ?_); first | refine Nx.m ?_ | ((fail_if_success refine Nx.m_quiet_do rfl rfl rfl rfl rfl rfl rfl ?_ ?_); (fail_if_success refine Nx.m_loud_do rfl rfl rfl rfl rfl ?_); first | refine Nx.m_dec_t rfl rfl rfl rfl (by first | assumption | omega) ?_ | refine Nx.m_dec_f rfl rfl rfl rfl (by first | assumption | omega) ?_ | refine Nx.m_split rfl rfl rfl rfl (fun hc => ?_) (fun hc => ?_) | refine Nx.m_splitb rfl rfl rfl rfl (fun hc => ?_) (fun hc => ?_)))
    | ((fail_if_success (with_reducible refine Nx.is_at ?_)); (fail_if_success (with_reducible refine Nx.is_wp ?_)); (fail_if_success (with_reducible refine Nx.is_mix ?_)); first | refine Nx.ex ?_)
  refine Nx.unstop ?_
  refine Nx.giveEqs (At := At) (ct := ct) (t := t) (A := Aq) (c := cq) (qs := qs) (RR := [F]) (by refine Ent.trans ?_ Ent.stars; unfold eqsR; (exact Ent.auto)) fun I1 hI1 ht hq => ?_
  have hC2 := hE.all
  have hfew := hE.few
  replace hraw := hraw.mono hI1
  repeat' first
    | ((with_reducible refine Nx.is_wp ?_); first | refine Nx.wo ?_ | refine Nx.p_dec rfl rfl (fun hc => ?_) (fun hc => ?_) | refine Nx.p_bool rfl rfl (fun hc => ?_) (fun hc => ?_))
    | ((first | refine Nx.at_op rfl rfl ?_ | refine Nx.m_loud rfl rfl rfl ?_ | refine Nx.at_do rfl rfl rfl rfl ?_ | refine Nx.m_loud_do rfl rfl rfl rfl rfl ?_); first | refine Nx.opr rfl rfl ?_ | refine Nx.so ?_ | refine Nx.sb (fun bx => ?_) | refine Nx.sa (fun A2 c2 => ?_))
    | ((with_reducible refine Nx.is_at ?_); first | refine Nx.a ?_ | ((fail_if_success refine Nx.at_do rfl rfl rfl rfl ?_); first | refine Nx.at_dec_t rfl rfl rfl rfl (by first | assumption | omega) ?_ | refine Nx.at_dec_f rfl rfl rfl rfl (by first | assumption | omega) ?_ | refine Nx.at_split rfl rfl rfl rfl (fun hc => ?_) (fun hc => ?_) | refine Nx.at_splitb rfl rfl rfl rfl (fun hc => ?_) (fun hc => ?_)))
    | ((with_reducible refine Nx.is_mix ?_); first | refine Nx.m ?_ | ((fail_if_success refine Nx.m_quiet_do rfl rfl rfl rfl rfl rfl rfl ?_ ?_); (fail_if_success refine Nx.m_loud_do rfl rfl rfl rfl rfl ?_); first | refine Nx.m_dec_t rfl rfl rfl rfl (by first | assumption | omega) ?_ | refine Nx.m_dec_f rfl rfl rfl rfl (by first | assumption | omega) ?_ | refine Nx.m_split rfl rfl rfl rfl (fun hc => ?_) (fun hc => ?_) | refine Nx.m_splitb rfl rfl rfl rfl (fun hc => ?_) (fun hc => ?_)))
    | ((fail_if_success (with_reducible refine Nx.is_at ?_)); (fail_if_success (with_reducible refine Nx.is_wp ?_)); (fail_if_success (with_reducible refine Nx.is_mix ?_)); first | refine Nx.ex ?_)
  revert bx; intro b24
  refine Nx.blk_vec 0 0 2 rfl rfl (by omega) ?_
  refine Nx.at_op rfl rfl ?_
  refine Nx.append rfl rfl rfl rfl (by kernel_rfl) rfl (Src.arr hq.outer.arr (eq_len qs) (by omega) (eq_one qs)) (by omega) fun A3 c3 => ?_
  rw [Nat.zero_add, List.nil_append]
  repeat' first
    | ((with_reducible refine Nx.is_wp ?_); first | refine Nx.wo ?_ | refine Nx.p_dec rfl rfl (fun hc => ?_) (fun hc => ?_) | refine Nx.p_bool rfl rfl (fun hc => ?_) (fun hc => ?_))
    | ((first | refine Nx.at_op rfl rfl ?_ | refine Nx.m_loud rfl rfl rfl ?_ | refine Nx.at_do rfl rfl rfl rfl ?_ | refine Nx.m_loud_do rfl rfl rfl rfl rfl ?_); first | refine Nx.opr rfl rfl ?_ | refine Nx.so ?_ | refine Nx.sb (fun bx => ?_) | refine Nx.sa (fun A2 c2 => ?_))
    | ((with_reducible refine Nx.is_at ?_); first | refine Nx.a ?_ | ((fail_if_success refine Nx.at_do rfl rfl rfl rfl ?_); first | refine Nx.at_dec_t rfl rfl rfl rfl (by first | assumption | omega) ?_ | refine Nx.at_dec_f rfl rfl rfl rfl (by first | assumption | omega) ?_ | refine Nx.at_split rfl rfl rfl rfl (fun hc => ?_) (fun hc => ?_) | refine Nx.at_splitb rfl rfl rfl rfl (fun hc => ?_) (fun hc => ?_)))
    | ((with_reducible refine Nx.is_mix ?_); first | refine Nx.m ?_ | ((fail_if_success refine Nx.m_quiet_do rfl rfl rfl rfl rfl rfl rfl ?_ ?_); (fail_if_success refine Nx.m_loud_do rfl rfl rfl rfl rfl ?_); first | refine Nx.m_dec_t rfl rfl rfl rfl (by first | assumption | omega) ?_ | refine Nx.m_dec_f rfl rfl rfl rfl (by first | assumption | omega) ?_ | refine Nx.m_split rfl rfl rfl rfl (fun hc => ?_) (fun hc => ?_) | refine Nx.m_splitb rfl rfl rfl rfl (fun hc => ?_) (fun hc => ?_)))
    | ((fail_if_success (with_reducible refine Nx.is_at ?_)); (fail_if_success (with_reducible refine Nx.is_wp ?_)); (fail_if_success (with_reducible refine Nx.is_mix ?_)); first | refine Nx.ex ?_)
  refine Nx.at_op rfl rfl ?_
  refine Nx.append rfl rfl rfl rfl (by kernel_rfl) rfl (Src.arr hraw.outer.arr (eq_len raw) (by omega) (eq_one raw)) (by omega) fun A4 c4 => ?_
  refine Nx.freezeAt 0 rfl fun I2 m2 hI2 hm2 h2 => ?_
  rw [← List.flatMap_append, ← List.length_append] at h2
  have hbo : Eqs I2 A4 c4 (qs ++ raw) := ⟨Vec.sliceN hm2 h2 fun x _ => eqC_len x, fun q hq' => (List.mem_append.1 hq').elim (fun h => (hq.inner q h).mono hI2) fun h => (hraw.inner q h).mono hI2⟩
  replace hraw := hraw.mono hI2
  replace hq := hq.mono hI2
  rw [← List.length_append]
  repeat' first
    | ((with_reducible refine Nx.is_wp ?_); first | refine Nx.wo ?_ | refine Nx.p_dec rfl rfl (fun hc => ?_) (fun hc => ?_) | refine Nx.p_bool rfl rfl (fun hc => ?_) (fun hc => ?_))
    | ((first | refine Nx.at_op rfl rfl ?_ | refine Nx.m_loud rfl rfl rfl ?_ | refine Nx.at_do rfl rfl rfl rfl ?_ | refine Nx.m_loud_do rfl rfl rfl rfl rfl ?_); first | refine Nx.opr rfl rfl ?_ | refine Nx.so ?_ | refine Nx.sb (fun bx => ?_) | refine Nx.sa (fun A2 c2 => ?_))
    | ((with_reducible refine Nx.is_at ?_); first | refine Nx.a ?_ | ((fail_if_success refine Nx.at_do rfl rfl rfl rfl ?_); first | refine Nx.at_dec_t rfl rfl rfl rfl (by first | assumption | omega) ?_ | refine Nx.at_dec_f rfl rfl rfl rfl (by first | assumption | omega) ?_ | refine Nx.at_split rfl rfl rfl rfl (fun hc => ?_) (fun hc => ?_) | refine Nx.at_splitb rfl rfl rfl rfl (fun hc => ?_) (fun hc => ?_)))
    | ((with_reducible refine Nx.is_mix ?_); first | refine Nx.m ?_ | ((fail_if_success refine Nx.m_quiet_do rfl rfl rfl rfl rfl rfl rfl ?_ ?_); (fail_if_success refine Nx.m_loud_do rfl rfl rfl rfl rfl ?_); first | refine Nx.m_dec_t rfl rfl rfl rfl (by first | assumption | omega) ?_ | refine Nx.m_dec_f rfl rfl rfl rfl (by first | assumption | omega) ?_ | refine Nx.m_split rfl rfl rfl rfl (fun hc => ?_) (fun hc => ?_) | refine Nx.m_splitb rfl rfl rfl rfl (fun hc => ?_) (fun hc => ?_)))
    | ((fail_if_success (with_reducible refine Nx.is_at ?_)); (fail_if_success (with_reducible refine Nx.is_wp ?_)); (fail_if_success (with_reducible refine Nx.is_mix ?_)); first | refine Nx.ex ?_)
  revert bx; intro b77
  refine Nx.freezeAt 0 rfl fun I3 m3 hI3 hm3 h3 => ?_
  have hXs : SliceOf eqlV I3 (some ⟨b77, 0, none⟩) 3 [(A1, c1, raw), (Aq, cq, qs), (A4, c4, qs ++ raw)] := Blk.sliceOf (t := 24) (l := [((A1, c1, raw) : EqL), (Aq, cq, qs), (A4, c4, qs ++ raw)]) hm3 h3 (by unfold maxLen; simp)
  have hX : ∀ x ∈ ([(A1, c1, raw), (Aq, cq, qs), (A4, c4, qs ++ raw)] : List EqL), Eqs I3 x.1 x.2.1 x.2.2 ∧ (allC x.2.2).length ≤ 100000 := fun x hx => by
    simp only [List.mem_cons, List.not_mem_nil, or_false] at hx
    rcases hx with rfl | rfl | rfl
    · exact ⟨hraw.mono hI3, by dsimp only; omega⟩
    · exact ⟨hq.mono hI3, by dsimp only; omega⟩
    · exact ⟨hbo.mono hI3, by dsimp only; rw [allC_app]; omega⟩
  have hle3 := (hI1.trans hI2).trans hI3
  have hXl : ([(A1, c1, raw), (Aq, cq, qs), (A4, c4, qs ++ raw)] : List EqL).length = 3 := rfl
  generalize ([(A1, c1, raw), (Aq, cq, qs), (A4, c4, qs ++ raw)] : List EqL) = X at hXs hX hXl
  refine Nx.p_loop (σ := Nat) (fun j => [(0, .int .i64 n), (2, .int .i64 most), (3, .int .i64 cell), (12, .int .i64 (N : Int)), (77, .slice (some ⟨b77, 0, none⟩) 3 3), (78, .int .i64 ((3 : Nat) : Int)), (79, .int .i64 (j : Int))])
    (fun _ => [F]) (fun j => j ≤ 3) (fun j => 3 - j) 0 rfl (Nat.zero_le _) ⟨rfl, rfl, rfl, rfl, rfl, rfl, rfl, trivial⟩ (by (exact Ent.auto)) ?_
  intro j hj
  have hj : j ≤ 3 := hj
  by_cases hj3 : j < 3
  case neg =>
    repeat' first
      | ((with_reducible refine Nx.is_wp ?_); first | refine Nx.wo ?_ | refine Nx.p_dec rfl rfl (fun hc => ?_) (fun hc => ?_) | refine Nx.p_bool rfl rfl (fun hc => ?_) (fun hc => ?_))
      | ((first | refine Nx.at_op rfl rfl ?_ | refine Nx.m_loud rfl rfl rfl ?_ | refine Nx.at_do rfl rfl rfl rfl ?_ | refine Nx.m_loud_do rfl rfl rfl rfl rfl ?_); first | refine Nx.opr rfl rfl ?_ | refine Nx.callv rfl rfl rfl (by kernel_rfl) rfl (awakeI_spec _) ?_ | refine Nx.so ?_ | refine Nx.sb (fun bx => ?_) | refine Nx.sa (fun A2 c2 => ?_))
      | ((with_reducible refine Nx.is_at ?_); first | refine Nx.a ?_ | ((fail_if_success refine Nx.at_do rfl rfl rfl rfl ?_); first | refine Nx.at_dec_t rfl rfl rfl rfl (by first | assumption | omega) ?_ | refine Nx.at_dec_f rfl rfl rfl rfl (by first | assumption | omega) ?_ | refine Nx.at_split rfl rfl rfl rfl (fun hc => ?_) (fun hc => ?_) | refine Nx.at_splitb rfl rfl rfl rfl (fun hc => ?_) (fun hc => ?_)))
      | ((with_reducible refine Nx.is_mix ?_); first | refine Nx.m ?_ | ((fail_if_success refine Nx.m_quiet_do rfl rfl rfl rfl rfl rfl rfl ?_ ?_); (fail_if_success refine Nx.m_loud_do rfl rfl rfl rfl rfl ?_); first | refine Nx.m_dec_t rfl rfl rfl rfl (by first | assumption | omega) ?_ | refine Nx.m_dec_f rfl rfl rfl rfl (by first | assumption | omega) ?_ | refine Nx.m_split rfl rfl rfl rfl (fun hc => ?_) (fun hc => ?_) | refine Nx.m_splitb rfl rfl rfl rfl (fun hc => ?_) (fun hc => ?_)))
      | ((fail_if_success (with_reducible refine Nx.is_at ?_)); (fail_if_success (with_reducible refine Nx.is_wp ?_)); (fail_if_success (with_reducible refine Nx.is_mix ?_)); first | refine Nx.ex ?_)
    exact Nx.imm_le hle3 (Nx.ret_fn rfl [] ⟨rfl, rfl⟩ (by (exact Ent.auto)))
  obtain ⟨hxe, hxc⟩ := hX _ (memX (show j < X.length by omega))
  have hxr : ∀ (W : World) (R : List Res), Rd W I3 R ((ad (some (⟨b77, 0, none⟩ : Addr))).add (j * 1)) (eqlV (X.getD j default)) := fun W R => hXs.rd (by omega)
  generalize X.getD j default = xq at hxe hxc hxr
  obtain ⟨Ae, ce, es⟩ := xq
  dsimp only at hxe hxc
  replace hxr : ∀ (W : World) (R : List Res), Rd W I3 R ((ad (some (⟨b77, 0, none⟩ : Addr))).add (j * 1)) (.slice Ae es.length ce) := hxr
  repeat' first
    | ((with_reducible refine Nx.is_wp ?_); first | refine Nx.wo ?_ | refine Nx.p_dec rfl rfl (fun hc => ?_) (fun hc => ?_) | refine Nx.p_bool rfl rfl (fun hc => ?_) (fun hc => ?_))
    | ((first | refine Nx.at_op rfl rfl ?_ | refine Nx.m_loud rfl rfl rfl ?_ | refine Nx.at_do rfl rfl rfl rfl ?_ | refine Nx.m_loud_do rfl rfl rfl rfl rfl ?_); first | refine Nx.opr rfl rfl ?_ | refine Nx.indexAddr_nat (A := some ⟨b77, 0, none⟩) (i := j) (sz := 1) rfl rfl rfl rfl rfl hj3 rfl ?_ | refine Nx.load rfl rfl rfl (hxr _ _) ?_ | refine Nx.so ?_ | refine Nx.sb (fun bx => ?_) | refine Nx.sa (fun A2 c2 => ?_))
    | ((with_reducible refine Nx.is_at ?_); first | refine Nx.a ?_ | ((fail_if_success refine Nx.at_do rfl rfl rfl rfl ?_); first | refine Nx.at_dec_t rfl rfl rfl rfl (by first | assumption | omega) ?_ | refine Nx.at_dec_f rfl rfl rfl rfl (by first | assumption | omega) ?_ | refine Nx.at_split rfl rfl rfl rfl (fun hc => ?_) (fun hc => ?_) | refine Nx.at_splitb rfl rfl rfl rfl (fun hc => ?_) (fun hc => ?_)))
    | ((with_reducible refine Nx.is_mix ?_); first | refine Nx.m ?_ | ((fail_if_success refine Nx.m_quiet_do rfl rfl rfl rfl rfl rfl rfl ?_ ?_); (fail_if_success refine Nx.m_loud_do rfl rfl rfl rfl rfl ?_); first | refine Nx.m_dec_t rfl rfl rfl rfl (by first | assumption | omega) ?_ | refine Nx.m_dec_f rfl rfl rfl rfl (by first | assumption | omega) ?_ | refine Nx.m_split rfl rfl rfl rfl (fun hc => ?_) (fun hc => ?_) | refine Nx.m_splitb rfl rfl rfl rfl (fun hc => ?_) (fun hc => ?_)))
    | ((fail_if_success (with_reducible refine Nx.is_at ?_)); (fail_if_success (with_reducible refine Nx.is_wp ?_)); (fail_if_success (with_reducible refine Nx.is_mix ?_)); first | refine Nx.ex ?_)
  revert bx; intro b85
  refine Nx.freezeAt 0 rfl fun I4 m4 hI4 hm4 h4 => ?_
  have hns : Ints I4 (some ⟨b85, 0, none⟩) 2 [n, (N : Int)] := Blk.sliceOf (t := 3) (l := [n, (N : Int)]) hm4 h4 (by unfold maxLen; simp)
  have hnl : ([n, (N : Int)] : List Int).length = 2 := rfl
  generalize ([n, (N : Int)] : List Int) = ns at hns hnl
  refine Nx.p_loop (σ := Nat) (fun i => [(0, .int .i64 n), (2, .int .i64 most), (3, .int .i64 cell), (12, .int .i64 (N : Int)), (17, .slice Ae es.length ce), (77, .slice (some ⟨b77, 0, none⟩) 3 3), (78, .int .i64 ((3 : Nat) : Int)), (79, .int .i64 (j : Int)), (85, .slice (some ⟨b85, 0, none⟩) 2 2), (86, .int .i64 ((2 : Nat) : Int)), (87, .int .i64 (i : Int))])
    (fun _ => [F]) (fun i => i ≤ 2) (fun i => 2 - i) 0 rfl (Nat.zero_le _) ⟨rfl, rfl, rfl, rfl, rfl, rfl, rfl, rfl, rfl, rfl, rfl, trivial⟩ (by (exact Ent.auto)) ?_
  intro i hi
  have hi : i ≤ 2 := hi
  by_cases hi2 : i < 2
  case neg =>
    repeat' first
      | ((with_reducible refine Nx.is_wp ?_); first | refine Nx.wo ?_ | refine Nx.p_dec rfl rfl (fun hc => ?_) (fun hc => ?_) | refine Nx.p_bool rfl rfl (fun hc => ?_) (fun hc => ?_))
      | ((first | refine Nx.at_op rfl rfl ?_ | refine Nx.m_loud rfl rfl rfl ?_ | refine Nx.at_do rfl rfl rfl rfl ?_ | refine Nx.m_loud_do rfl rfl rfl rfl rfl ?_); first | refine Nx.opr rfl rfl ?_ | refine Nx.so ?_ | refine Nx.sb (fun bx => ?_) | refine Nx.sa (fun A2 c2 => ?_))
      | ((with_reducible refine Nx.is_at ?_); first | refine Nx.a ?_ | ((fail_if_success refine Nx.at_do rfl rfl rfl rfl ?_); first | refine Nx.at_dec_t rfl rfl rfl rfl (by first | assumption | omega) ?_ | refine Nx.at_dec_f rfl rfl rfl rfl (by first | assumption | omega) ?_ | refine Nx.at_split rfl rfl rfl rfl (fun hc => ?_) (fun hc => ?_) | refine Nx.at_splitb rfl rfl rfl rfl (fun hc => ?_) (fun hc => ?_)))
      | ((with_reducible refine Nx.is_mix ?_); first | refine Nx.m ?_ | ((fail_if_success refine Nx.m_quiet_do rfl rfl rfl rfl rfl rfl rfl ?_ ?_); (fail_if_success refine Nx.m_loud_do rfl rfl rfl rfl rfl ?_); first | refine Nx.m_dec_t rfl rfl rfl rfl (by first | assumption | omega) ?_ | refine Nx.m_dec_f rfl rfl rfl rfl (by first | assumption | omega) ?_ | refine Nx.m_split rfl rfl rfl rfl (fun hc => ?_) (fun hc => ?_) | refine Nx.m_splitb rfl rfl rfl rfl (fun hc => ?_) (fun hc => ?_)))
      | ((fail_if_success (with_reducible refine Nx.is_at ?_)); (fail_if_success (with_reducible refine Nx.is_wp ?_)); (fail_if_success (with_reducible refine Nx.is_mix ?_)); first | refine Nx.ex ?_)
    exact Nx.imm_le hI4 (Nx.again (j + 1) hj3 (by omega) ⟨rfl, rfl, rfl, rfl, rfl, rfl, rfl, trivial⟩ (by (exact Ent.auto)))
  have hmr : ∀ (W : World) (R : List Res), Rd W I4 R ((ad (some (⟨b85, 0, none⟩ : Addr))).add (i * 1)) (.int .i64 (ns.getD i default)) := fun W R => hns.rd (by omega)
  generalize ns.getD i default = mm at hmr
  replace hxe := hxe.mono hI4
  have hLt := little_spec mm Ae ce es I4 hxe
  have hF1 := First_spec mm Ae ce es I4 hxe hxc
  have hF2 := RFirst_spec mm Ae ce es I4 hxe
  have hR1 := Reaches_spec mm Ae ce es I4 hxe hxc
  have hR2 := RReaches_spec mm Ae ce es I4 hxe
  generalize firstOf mm es = fo at hF1 hF2
  obtain ⟨fl, fb, fe⟩ := fo
  generalize reachR mm es = ro at hR1 hR2
  obtain ⟨rl, re⟩ := ro
  dsimp only at hF1 hF2 hR1 hR2
  repeat' first
    | ((with_reducible refine Nx.is_wp ?_); first | refine Nx.p_stopr 22 rfl ?_ | refine Nx.wo ?_ | refine Nx.p_dec rfl rfl (fun hc => ?_) (fun hc => ?_) | refine Nx.p_bool rfl rfl (fun hc => ?_) (fun hc => ?_))
    | ((first | refine Nx.at_op rfl rfl ?_ | refine Nx.m_loud rfl rfl rfl ?_ | refine Nx.at_do rfl rfl rfl rfl ?_ | refine Nx.m_loud_do rfl rfl rfl rfl rfl ?_); first | refine Nx.opr rfl rfl ?_ | refine Nx.indexAddr_nat (A := some ⟨b85, 0, none⟩) (i := i) (sz := 1) rfl rfl rfl rfl rfl hi2 rfl ?_ | refine Nx.load rfl rfl rfl (hmr _ _) ?_ | (refine Nx.call (Rpre := []) rfl rfl rfl (by kernel_rfl) rfl hLt (Ent.refl _) ?_; rintro _ _ ⟨bl, rfl, rfl⟩; cases bl) | (refine Nx.call (Rpre := []) rfl rfl rfl (by kernel_rfl) rfl hF1 (Ent.refl _) ?_; rintro _ _ ⟨Ax, cx, rfl, rfl⟩) | (refine Nx.call (Rpre := []) rfl rfl rfl (by kernel_rfl) rfl hF2 (Ent.refl _) ?_; rintro _ _ ⟨Ay, cy, rfl, rfl⟩) | (refine Nx.call (Rpre := []) rfl rfl rfl (by kernel_rfl) rfl hR1 (Ent.refl _) ?_; rintro _ _ ⟨Au, cu, rfl, rfl⟩) | (refine Nx.call (Rpre := []) rfl rfl rfl (by kernel_rfl) rfl hR2 (Ent.refl _) ?_; rintro _ _ ⟨Av, cv, rfl, rfl⟩) | refine Nx.so ?_ | refine Nx.sb (fun bx => ?_) | refine Nx.sa (fun A2 c2 => ?_))
    | ((with_reducible refine Nx.is_at ?_); first | refine Nx.a ?_ | ((fail_if_success refine Nx.at_do rfl rfl rfl rfl ?_); first | refine Nx.at_dec_t rfl rfl rfl rfl (by first | assumption | omega) ?_ | refine Nx.at_dec_f rfl rfl rfl rfl (by first | assumption | omega) ?_ | refine Nx.at_split rfl rfl rfl rfl (fun hc => ?_) (fun hc => ?_) | refine Nx.at_splitb rfl rfl rfl rfl (fun hc => ?_) (fun hc => ?_)))
    | ((with_reducible refine Nx.is_mix ?_); first | refine Nx.m ?_ | ((fail_if_success refine Nx.m_quiet_do rfl rfl rfl rfl rfl rfl rfl ?_ ?_); (fail_if_success refine Nx.m_loud_do rfl rfl rfl rfl rfl ?_); first | refine Nx.m_dec_t rfl rfl rfl rfl (by first | assumption | omega) ?_ | refine Nx.m_dec_f rfl rfl rfl rfl (by first | assumption | omega) ?_ | refine Nx.m_split rfl rfl rfl rfl (fun hc => ?_) (fun hc => ?_) | refine Nx.m_splitb rfl rfl rfl rfl (fun hc => ?_) (fun hc => ?_)))
    | ((fail_if_success (with_reducible refine Nx.is_at ?_)); (fail_if_success (with_reducible refine Nx.is_wp ?_)); (fail_if_success (with_reducible refine Nx.is_mix ?_)); first | refine Nx.ex ?_)
  · exact Nx.again (i + 1) hi2 (by omega) ⟨rfl, rfl, rfl, rfl, rfl, rfl, rfl, rfl, rfl, rfl, rfl, trivial⟩ (by (exact Ent.auto))
  refine Nx.unstop ?_
  refine Nx.ent (R' := [Stars [iR Ax cx fl, iR Ay cy fl, rcR Au cu rl, rcR Av cv rl], F]) (Ent.trans (R' := [iR Ax cx fl, iR Ay cy fl, rcR Au cu rl, rcR Av cv rl] ++ [F]) (by (exact Ent.auto)) Ent.stars) ?_
  refine Nx.freezeAt 0 rfl fun I5 m5 hI5 hm5 h5 => ?_
  obtain ⟨k0, l0, c0⟩ := Stars.get 0 h5 rfl
  obtain ⟨k1', l1, c1'⟩ := Stars.get 1 h5 rfl
  obtain ⟨k2, l2, c2⟩ := Stars.get 2 h5 rfl
  obtain ⟨k3, l3, c3⟩ := Stars.get 3 h5 rfl
  have hIn := Ints_spec Ax Ay cx cy fl fl I5 (Vec.sliceOf (l0.trans hm5) c0) (Vec.sliceOf (l1.trans hm5) c1')
  have hRe := Reach_spec Au Av cu cv rl rl I5 (Vec.sliceN (l2.trans hm5) c2 fun x _ => rcC_len x) (Vec.sliceN (l3.trans hm5) c3 fun x _ => rcC_len x)
  rw [decide_eq_true rfl] at hIn hRe
  replace hxe := hxe.mono hI5
  have hfb : (!(fb == fb)) = false := by cases fb <;> rfl
  have hMd := ModI_spec most 9 hmost (by omega) I5
  repeat' first
    | ((with_reducible refine Nx.is_wp ?_); first | refine Nx.wo ?_ | refine Nx.p_dec rfl rfl (fun hc => ?_) (fun hc => ?_) | refine Nx.p_bool rfl rfl (fun hc => ?_) (fun hc => ?_))
    | ((first | refine Nx.at_op rfl rfl ?_ | refine Nx.m_loud rfl rfl rfl ?_ | refine Nx.at_do rfl rfl rfl rfl ?_ | refine Nx.m_loud_do rfl rfl rfl rfl rfl ?_); first | (refine Nx.binr rfl rfl (run_boolne Try.underlying4 fb fb) rfl ?_; rw [hfb]) | refine Nx.opr rfl rfl ?_ | refine Nx.callv rfl rfl rfl (by kernel_rfl) rfl hIn ?_ | refine Nx.callv rfl rfl rfl (by kernel_rfl) rfl hRe ?_ | refine Nx.callv rfl rfl rfl (by kernel_rfl) rfl hMd ?_ | refine Nx.so ?_ | refine Nx.sb (fun bx => ?_) | refine Nx.sa (fun A2 c2 => ?_))
    | ((with_reducible refine Nx.is_at ?_); first | refine Nx.a ?_ | ((fail_if_success refine Nx.at_do rfl rfl rfl rfl ?_); first | refine Nx.at_dec_t rfl rfl rfl rfl (by first | assumption | omega) ?_ | refine Nx.at_dec_f rfl rfl rfl rfl (by first | assumption | omega) ?_ | refine Nx.at_split rfl rfl rfl rfl (fun hc => ?_) (fun hc => ?_) | refine Nx.at_splitb rfl rfl rfl rfl (fun hc => ?_) (fun hc => ?_)))
    | ((with_reducible refine Nx.is_mix ?_); first | refine Nx.m ?_ | ((fail_if_success refine Nx.m_quiet_do rfl rfl rfl rfl rfl rfl rfl ?_ ?_); (fail_if_success refine Nx.m_loud_do rfl rfl rfl rfl rfl ?_); first | refine Nx.m_dec_t rfl rfl rfl rfl (by first | assumption | omega) ?_ | refine Nx.m_dec_f rfl rfl rfl rfl (by first | assumption | omega) ?_ | refine Nx.m_split rfl rfl rfl rfl (fun hc => ?_) (fun hc => ?_) | refine Nx.m_splitb rfl rfl rfl rfl (fun hc => ?_) (fun hc => ?_)))
    | ((fail_if_success (with_reducible refine Nx.is_at ?_)); (fail_if_success (with_reducible refine Nx.is_wp ?_)); (fail_if_success (with_reducible refine Nx.is_mix ?_)); first | refine Nx.ex ?_)
  revert bx; intro b149
  refine Nx.freezeAt 0 rfl fun I6 m6 hI6 hm6 h6 => ?_
  have hys : Ints I6 (some ⟨b149, 0, none⟩) 2 [most, most % 9] := Blk.sliceOf (t := 3) (l := [most, most % 9]) hm6 h6 (by unfold maxLen; simp)
  have hyl : ([most, most % 9] : List Int).length = 2 := rfl
  generalize ([most, most % 9] : List Int) = ys at hys hyl
  replace hxe := hxe.mono hI6
  refine Nx.p_loop (σ := Nat) (fun k => [(0, .int .i64 n), (2, .int .i64 most), (3, .int .i64 cell), (12, .int .i64 (N : Int)), (17, .slice Ae es.length ce), (19, .int .i64 mm), (77, .slice (some ⟨b77, 0, none⟩) 3 3), (78, .int .i64 ((3 : Nat) : Int)), (79, .int .i64 (j : Int)), (85, .slice (some ⟨b85, 0, none⟩) 2 2), (86, .int .i64 ((2 : Nat) : Int)), (87, .int .i64 (i : Int)), (149, .slice (some ⟨b149, 0, none⟩) 2 2), (150, .int .i64 ((2 : Nat) : Int)), (151, .int .i64 (k : Int))])
    (fun _ => [F]) (fun k => k ≤ 2) (fun k => 2 - k) 0 rfl (Nat.zero_le _) ⟨rfl, rfl, rfl, rfl, rfl, rfl, rfl, rfl, rfl, rfl, rfl, rfl, rfl, rfl, rfl, trivial⟩ (by (exact Ent.auto)) ?_
  intro k hk
  have hk : k ≤ 2 := hk
  by_cases hk2 : k < 2
  · have hyr : ∀ (W : World) (R : List Res), Rd W I6 R ((ad (some (⟨b149, 0, none⟩ : Addr))).add (k * 1)) (.int .i64 (ys.getD k default)) := fun W R => hys.rd (by omega)
    generalize ys.getD k default = y at hyr
    have hS1 := Solutions_spec mm Ae ce es y I6 hxe hxc
    have hS2 := RSolutions_spec mm Ae ce es y I6 hxe
    generalize solsR mm es y = so at hS1 hS2
    obtain ⟨sl, se⟩ := so
    dsimp only at hS1 hS2
    repeat' first
      | ((with_reducible refine Nx.is_wp ?_); first | refine Nx.p_stopr 29 rfl ?_ | refine Nx.wo ?_ | refine Nx.p_dec rfl rfl (fun hc => ?_) (fun hc => ?_) | refine Nx.p_bool rfl rfl (fun hc => ?_) (fun hc => ?_))
      | ((first | refine Nx.at_op rfl rfl ?_ | refine Nx.m_loud rfl rfl rfl ?_ | refine Nx.at_do rfl rfl rfl rfl ?_ | refine Nx.m_loud_do rfl rfl rfl rfl rfl ?_); first | refine Nx.opr rfl rfl ?_ | refine Nx.indexAddr_nat (A := some ⟨b149, 0, none⟩) (i := k) (sz := 1) rfl rfl rfl rfl rfl hk2 rfl ?_ | refine Nx.load rfl rfl rfl (hyr _ _) ?_ | (refine Nx.call (Rpre := []) rfl rfl rfl (by kernel_rfl) rfl hS1 (Ent.refl _) ?_; rintro _ _ ⟨Ag, cg, o1, rfl, ho1, rfl⟩) | (refine Nx.call (Rpre := []) rfl rfl rfl (by kernel_rfl) rfl hS2 (Ent.refl _) ?_; rintro _ _ ⟨Ah, ch, o2, rfl, ho2, rfl⟩) | refine Nx.so ?_ | refine Nx.sb (fun bx => ?_) | refine Nx.sa (fun A2 c2 => ?_))
      | ((with_reducible refine Nx.is_at ?_); first | refine Nx.a ?_ | ((fail_if_success refine Nx.at_do rfl rfl rfl rfl ?_); first | refine Nx.at_dec_t rfl rfl rfl rfl (by first | assumption | omega) ?_ | refine Nx.at_dec_f rfl rfl rfl rfl (by first | assumption | omega) ?_ | refine Nx.at_split rfl rfl rfl rfl (fun hc => ?_) (fun hc => ?_) | refine Nx.at_splitb rfl rfl rfl rfl (fun hc => ?_) (fun hc => ?_)))
      | ((with_reducible refine Nx.is_mix ?_); first | refine Nx.m ?_ | ((fail_if_success refine Nx.m_quiet_do rfl rfl rfl rfl rfl rfl rfl ?_ ?_); (fail_if_success refine Nx.m_loud_do rfl rfl rfl rfl rfl ?_); first | refine Nx.m_dec_t rfl rfl rfl rfl (by first | assumption | omega) ?_ | refine Nx.m_dec_f rfl rfl rfl rfl (by first | assumption | omega) ?_ | refine Nx.m_split rfl rfl rfl rfl (fun hc => ?_) (fun hc => ?_) | refine Nx.m_splitb rfl rfl rfl rfl (fun hc => ?_) (fun hc => ?_)))
      | ((fail_if_success (with_reducible refine Nx.is_at ?_)); (fail_if_success (with_reducible refine Nx.is_wp ?_)); (fail_if_success (with_reducible refine Nx.is_mix ?_)); first | refine Nx.ex ?_)
    refine Nx.unstop ?_
    refine Nx.giveRows (A := Ag) (c := cg) (o := o1) (RR := rowsR Ah ch o2 ++ [F]) (by refine Ent.trans ?_ Ent.stars; unfold rowsR; (exact Ent.auto)) fun I7 hI7 hr1 => ?_
    refine Nx.giveRows (A := Ah) (c := ch) (o := o2) (RR := [F]) (by refine Ent.trans ?_ Ent.stars; unfold rowsR; (exact Ent.auto)) fun I8 hI8 hr2 => ?_
    have hSm := SameT_spec Ag Ah cg ch o1 o2 I8 (hr1.mono hI8) hr2
    rw [ho1, ho2, decide_eq_true rfl] at hSm
    repeat' first
      | ((with_reducible refine Nx.is_wp ?_); first | refine Nx.wo ?_ | refine Nx.p_dec rfl rfl (fun hc => ?_) (fun hc => ?_) | refine Nx.p_bool rfl rfl (fun hc => ?_) (fun hc => ?_))
      | ((first | refine Nx.at_op rfl rfl ?_ | refine Nx.m_loud rfl rfl rfl ?_ | refine Nx.at_do rfl rfl rfl rfl ?_ | refine Nx.m_loud_do rfl rfl rfl rfl rfl ?_); first | refine Nx.opr rfl rfl ?_ | refine Nx.callv rfl rfl rfl (by kernel_rfl) rfl hSm ?_ | refine Nx.so ?_ | refine Nx.sb (fun bx => ?_) | refine Nx.sa (fun A2 c2 => ?_))
      | ((with_reducible refine Nx.is_at ?_); first | refine Nx.a ?_ | ((fail_if_success refine Nx.at_do rfl rfl rfl rfl ?_); first | refine Nx.at_dec_t rfl rfl rfl rfl (by first | assumption | omega) ?_ | refine Nx.at_dec_f rfl rfl rfl rfl (by first | assumption | omega) ?_ | refine Nx.at_split rfl rfl rfl rfl (fun hc => ?_) (fun hc => ?_) | refine Nx.at_splitb rfl rfl rfl rfl (fun hc => ?_) (fun hc => ?_)))
      | ((with_reducible refine Nx.is_mix ?_); first | refine Nx.m ?_ | ((fail_if_success refine Nx.m_quiet_do rfl rfl rfl rfl rfl rfl rfl ?_ ?_); (fail_if_success refine Nx.m_loud_do rfl rfl rfl rfl rfl ?_); first | refine Nx.m_dec_t rfl rfl rfl rfl (by first | assumption | omega) ?_ | refine Nx.m_dec_f rfl rfl rfl rfl (by first | assumption | omega) ?_ | refine Nx.m_split rfl rfl rfl rfl (fun hc => ?_) (fun hc => ?_) | refine Nx.m_splitb rfl rfl rfl rfl (fun hc => ?_) (fun hc => ?_)))
      | ((fail_if_success (with_reducible refine Nx.is_at ?_)); (fail_if_success (with_reducible refine Nx.is_wp ?_)); (fail_if_success (with_reducible refine Nx.is_mix ?_)); first | refine Nx.ex ?_)
    exact Nx.imm_le (hI7.trans hI8) (Nx.again (k + 1) hk2 (by omega) ⟨rfl, rfl, rfl, rfl, rfl, rfl, rfl, rfl, rfl, rfl, rfl, rfl, rfl, rfl, rfl, trivial⟩ (by (exact Ent.auto)))
  have hMd2 := ModI_spec cell 9 hcell (by omega) I6
  repeat' first
    | ((with_reducible refine Nx.is_wp ?_); first | refine Nx.wo ?_ | refine Nx.p_dec rfl rfl (fun hc => ?_) (fun hc => ?_) | refine Nx.p_bool rfl rfl (fun hc => ?_) (fun hc => ?_))
    | ((first | refine Nx.at_op rfl rfl ?_ | refine Nx.m_loud rfl rfl rfl ?_ | refine Nx.at_do rfl rfl rfl rfl ?_ | refine Nx.m_loud_do rfl rfl rfl rfl rfl ?_); first | refine Nx.opr rfl rfl ?_ | refine Nx.callv rfl rfl rfl (by kernel_rfl) rfl hMd2 ?_ | refine Nx.so ?_ | refine Nx.sb (fun bx => ?_) | refine Nx.sa (fun A2 c2 => ?_))
    | ((with_reducible refine Nx.is_at ?_); first | refine Nx.a ?_ | ((fail_if_success refine Nx.at_do rfl rfl rfl rfl ?_); first | refine Nx.at_dec_t rfl rfl rfl rfl (by first | assumption | omega) ?_ | refine Nx.at_dec_f rfl rfl rfl rfl (by first | assumption | omega) ?_ | refine Nx.at_split rfl rfl rfl rfl (fun hc => ?_) (fun hc => ?_) | refine Nx.at_splitb rfl rfl rfl rfl (fun hc => ?_) (fun hc => ?_)))
    | ((with_reducible refine Nx.is_mix ?_); first | refine Nx.m ?_ | ((fail_if_success refine Nx.m_quiet_do rfl rfl rfl rfl rfl rfl rfl ?_ ?_); (fail_if_success refine Nx.m_loud_do rfl rfl rfl rfl rfl ?_); first | refine Nx.m_dec_t rfl rfl rfl rfl (by first | assumption | omega) ?_ | refine Nx.m_dec_f rfl rfl rfl rfl (by first | assumption | omega) ?_ | refine Nx.m_split rfl rfl rfl rfl (fun hc => ?_) (fun hc => ?_) | refine Nx.m_splitb rfl rfl rfl rfl (fun hc => ?_) (fun hc => ?_)))
    | ((fail_if_success (with_reducible refine Nx.is_at ?_)); (fail_if_success (with_reducible refine Nx.is_wp ?_)); (fail_if_success (with_reducible refine Nx.is_mix ?_)); first | refine Nx.ex ?_)
  revert bx; intro b182
  refine Nx.freezeAt 0 rfl fun I7 m7 hI7 hm7 h7 => ?_
  have hzs : Ints I7 (some ⟨b182, 0, none⟩) 2 [cell, cell % 9] := Blk.sliceOf (t := 3) (l := [cell, cell % 9]) hm7 h7 (by unfold maxLen; simp)
  have hzl : ([cell, cell % 9] : List Int).length = 2 := rfl
  generalize ([cell, cell % 9] : List Int) = zs at hzs hzl
  replace hxe := hxe.mono hI7
  refine Nx.p_loop (σ := Nat) (fun k => [(0, .int .i64 n), (2, .int .i64 most), (3, .int .i64 cell), (12, .int .i64 (N : Int)), (17, .slice Ae es.length ce), (19, .int .i64 mm), (77, .slice (some ⟨b77, 0, none⟩) 3 3), (78, .int .i64 ((3 : Nat) : Int)), (79, .int .i64 (j : Int)), (85, .slice (some ⟨b85, 0, none⟩) 2 2), (86, .int .i64 ((2 : Nat) : Int)), (87, .int .i64 (i : Int)), (182, .slice (some ⟨b182, 0, none⟩) 2 2), (183, .int .i64 ((2 : Nat) : Int)), (184, .int .i64 (k : Int))])
    (fun _ => [F]) (fun k => k ≤ 2) (fun k => 2 - k) 0 rfl (Nat.zero_le _) ⟨rfl, rfl, rfl, rfl, rfl, rfl, rfl, rfl, rfl, rfl, rfl, rfl, rfl, rfl, rfl, trivial⟩ (by (exact Ent.auto)) ?_
  intro k hk
  have hk : k ≤ 2 := hk
  by_cases hk2 : k < 2
  case neg =>
    repeat' first
      | ((with_reducible refine Nx.is_wp ?_); first | refine Nx.wo ?_ | refine Nx.p_dec rfl rfl (fun hc => ?_) (fun hc => ?_) | refine Nx.p_bool rfl rfl (fun hc => ?_) (fun hc => ?_))
      | ((first | refine Nx.at_op rfl rfl ?_ | refine Nx.m_loud rfl rfl rfl ?_ | refine Nx.at_do rfl rfl rfl rfl ?_ | refine Nx.m_loud_do rfl rfl rfl rfl rfl ?_); first | refine Nx.opr rfl rfl ?_ | refine Nx.so ?_ | refine Nx.sb (fun bx => ?_) | refine Nx.sa (fun A2 c2 => ?_))
      | ((with_reducible refine Nx.is_at ?_); first | refine Nx.a ?_ | ((fail_if_success refine Nx.at_do rfl rfl rfl rfl ?_); first | refine Nx.at_dec_t rfl rfl rfl rfl (by first | assumption | omega) ?_ | refine Nx.at_dec_f rfl rfl rfl rfl (by first | assumption | omega) ?_ | refine Nx.at_split rfl rfl rfl rfl (fun hc => ?_) (fun hc => ?_) | refine Nx.at_splitb rfl rfl rfl rfl (fun hc => ?_) (fun hc => ?_)))
      | ((with_reducible refine Nx.is_mix ?_); first | refine Nx.m ?_ | ((fail_if_success refine Nx.m_quiet_do rfl rfl rfl rfl rfl rfl rfl ?_ ?_); (fail_if_success refine Nx.m_loud_do rfl rfl rfl rfl rfl ?_); first | refine Nx.m_dec_t rfl rfl rfl rfl (by first | assumption | omega) ?_ | refine Nx.m_dec_f rfl rfl rfl rfl (by first | assumption | omega) ?_ | refine Nx.m_split rfl rfl rfl rfl (fun hc => ?_) (fun hc => ?_) | refine Nx.m_splitb rfl rfl rfl rfl (fun hc => ?_) (fun hc => ?_)))
      | ((fail_if_success (with_reducible refine Nx.is_at ?_)); (fail_if_success (with_reducible refine Nx.is_wp ?_)); (fail_if_success (with_reducible refine Nx.is_mix ?_)); first | refine Nx.ex ?_)
    exact Nx.imm_le ((hI5.trans hI6).trans hI7) (Nx.again (i + 1) hi2 (by omega) ⟨rfl, rfl, rfl, rfl, rfl, rfl, rfl, rfl, rfl, rfl, rfl, trivial⟩ (by (exact Ent.auto)))
  have hyr : ∀ (W : World) (R : List Res), Rd W I7 R ((ad (some (⟨b182, 0, none⟩ : Addr))).add (k * 1)) (.int .i64 (zs.getD k default)) := fun W R => hzs.rd (by omega)
  generalize zs.getD k default = y at hyr
  have hP1 := Pair_spec mm y Ae ce es I7 hxe hxc
  have hP2 := RPair_spec mm y Ae ce es I7 hxe
  unfold RPairPost at hP2
  generalize pairR mm es y = po at hP1 hP2
  obtain ⟨p1, p2, pe⟩ := po
  dsimp only at hP1 hP2
  repeat' first
    | ((with_reducible refine Nx.is_wp ?_); first | refine Nx.p_stopr 37 rfl ?_ | refine Nx.wo ?_ | refine Nx.p_dec rfl rfl (fun hc => ?_) (fun hc => ?_) | refine Nx.p_bool rfl rfl (fun hc => ?_) (fun hc => ?_))
    | ((first | refine Nx.at_op rfl rfl ?_ | refine Nx.m_loud rfl rfl rfl ?_ | refine Nx.at_do rfl rfl rfl rfl ?_ | refine Nx.m_loud_do rfl rfl rfl rfl rfl ?_); first | refine Nx.opr rfl rfl ?_ | refine Nx.indexAddr_nat (A := some ⟨b182, 0, none⟩) (i := k) (sz := 1) rfl rfl rfl rfl rfl hk2 rfl ?_ | refine Nx.load rfl rfl rfl (hyr _ _) ?_ | (refine Nx.call (Rpre := []) rfl rfl rfl (by kernel_rfl) rfl hP1 (Ent.refl _) ?_; rintro _ _ ⟨Ag, cg, Ah, ch, rfl, rfl⟩) | (refine Nx.call (Rpre := []) rfl rfl rfl (by kernel_rfl) rfl hP2 (Ent.refl _) ?_; rintro _ _ ⟨r1, r2, o, rfl, e1, e2, i1, i2, rfl⟩) | refine Nx.so ?_ | refine Nx.sb (fun bx => ?_) | refine Nx.sa (fun A2 c2 => ?_))
    | ((with_reducible refine Nx.is_at ?_); first | refine Nx.a ?_ | ((fail_if_success refine Nx.at_do rfl rfl rfl rfl ?_); first | refine Nx.at_dec_t rfl rfl rfl rfl (by first | assumption | omega) ?_ | refine Nx.at_dec_f rfl rfl rfl rfl (by first | assumption | omega) ?_ | refine Nx.at_split rfl rfl rfl rfl (fun hc => ?_) (fun hc => ?_) | refine Nx.at_splitb rfl rfl rfl rfl (fun hc => ?_) (fun hc => ?_)))
    | ((with_reducible refine Nx.is_mix ?_); first | refine Nx.m ?_ | ((fail_if_success refine Nx.m_quiet_do rfl rfl rfl rfl rfl rfl rfl ?_ ?_); (fail_if_success refine Nx.m_loud_do rfl rfl rfl rfl rfl ?_); first | refine Nx.m_dec_t rfl rfl rfl rfl (by first | assumption | omega) ?_ | refine Nx.m_dec_f rfl rfl rfl rfl (by first | assumption | omega) ?_ | refine Nx.m_split rfl rfl rfl rfl (fun hc => ?_) (fun hc => ?_) | refine Nx.m_splitb rfl rfl rfl rfl (fun hc => ?_) (fun hc => ?_)))
    | ((fail_if_success (with_reducible refine Nx.is_at ?_)); (fail_if_success (with_reducible refine Nx.is_wp ?_)); (fail_if_success (with_reducible refine Nx.is_mix ?_)); first | refine Nx.ex ?_)
  refine Nx.unstop ?_
  refine Nx.ent (R' := [Stars [iR Ag cg p1, iR Ah ch p2, Stars (o.map rwR)], F]) (Ent.trans (R' := [iR Ag cg p1, iR Ah ch p2, Stars (o.map rwR)] ++ [F]) (by (exact Ent.auto)) Ent.stars) ?_
  refine Nx.freezeAt 0 rfl fun I8 m8 hI8 hm8 h8 => ?_
  obtain ⟨k0, l0, c0⟩ := Stars.get 0 h8 rfl
  obtain ⟨k1', l1, c1'⟩ := Stars.get 1 h8 rfl
  obtain ⟨k2, l2, c2⟩ := Stars.get 2 h8 rfl
  have g1 := row_in (l2.trans hm8) c2 i1
  have g2 := row_in (l2.trans hm8) c2 i2
  obtain ⟨B1, d1, x1⟩ := r1
  obtain ⟨B2, d2, x2⟩ := r2
  dsimp only at e1 e2 g1 g2
  subst e1 e2
  have hIn1 := Ints_spec Ag B1 cg d1 x1 x1 I8 (Vec.sliceOf (l0.trans hm8) c0) g1
  have hIn2 := Ints_spec Ah B2 ch d2 x2 x2 I8 (Vec.sliceOf (l1.trans hm8) c1') g2
  rw [decide_eq_true rfl] at hIn1 hIn2
  repeat' first
    | ((with_reducible refine Nx.is_wp ?_); first | refine Nx.wo ?_ | refine Nx.p_dec rfl rfl (fun hc => ?_) (fun hc => ?_) | refine Nx.p_bool rfl rfl (fun hc => ?_) (fun hc => ?_))
    | ((first | refine Nx.at_op rfl rfl ?_ | refine Nx.m_loud rfl rfl rfl ?_ | refine Nx.at_do rfl rfl rfl rfl ?_ | refine Nx.m_loud_do rfl rfl rfl rfl rfl ?_); first | refine Nx.opr rfl rfl ?_ | refine Nx.callv rfl rfl rfl (by kernel_rfl) rfl hIn1 ?_ | refine Nx.callv rfl rfl rfl (by kernel_rfl) rfl hIn2 ?_ | refine Nx.so ?_ | refine Nx.sb (fun bx => ?_) | refine Nx.sa (fun A2 c2 => ?_))
    | ((with_reducible refine Nx.is_at ?_); first | refine Nx.a ?_ | ((fail_if_success refine Nx.at_do rfl rfl rfl rfl ?_); first | refine Nx.at_dec_t rfl rfl rfl rfl (by first | assumption | omega) ?_ | refine Nx.at_dec_f rfl rfl rfl rfl (by first | assumption | omega) ?_ | refine Nx.at_split rfl rfl rfl rfl (fun hc => ?_) (fun hc => ?_) | refine Nx.at_splitb rfl rfl rfl rfl (fun hc => ?_) (fun hc => ?_)))
    | ((with_reducible refine Nx.is_mix ?_); first | refine Nx.m ?_ | ((fail_if_success refine Nx.m_quiet_do rfl rfl rfl rfl rfl rfl rfl ?_ ?_); (fail_if_success refine Nx.m_loud_do rfl rfl rfl rfl rfl ?_); first | refine Nx.m_dec_t rfl rfl rfl rfl (by first | assumption | omega) ?_ | refine Nx.m_dec_f rfl rfl rfl rfl (by first | assumption | omega) ?_ | refine Nx.m_split rfl rfl rfl rfl (fun hc => ?_) (fun hc => ?_) | refine Nx.m_splitb rfl rfl rfl rfl (fun hc => ?_) (fun hc => ?_)))
    | ((fail_if_success (with_reducible refine Nx.is_at ?_)); (fail_if_success (with_reducible refine Nx.is_wp ?_)); (fail_if_success (with_reducible refine Nx.is_mix ?_)); first | refine Nx.ex ?_)
  exact Nx.imm_le hI8 (Nx.again (k + 1) hk2 (by omega) ⟨rfl, rfl, rfl, rfl, rfl, rfl, rfl, rfl, rfl, rfl, rfl, rfl, rfl, rfl, rfl, trivial⟩ (by (exact Ent.auto)))
end Go.Proofs.Ythncphjakklnoaa
