/- Contracts of functions of the given program, and lemmas. -/
import Derived.Test.YtpcnapidlhpbkaaGreatDoorRows
import Derived.Test.YtpcnapidlhpbkaaGreatDoorChecked
import Derived.WalkKit
import Derived.ProofKit
import Derived.OpenShut
import Derived.LaidHandle
import Derived.LaidLaws
import Derived.Lib.LaidTab
import Derived.Stop.LaidErr
import Derived.Test.YtpcnapidlhpbkaaGreatDoorBi9
set_option maxHeartbeats 32000000
namespace Go.Proofs.YtpcnapidlhpbkaaGreatDoor
open Go.Eng Go.Sol
theorem Rds.get {W : World} {I : PH} {R : List Res} {A : Addr} {vs : List Value} {u : Value} (h : Rds W I R A vs) (j : Nat) (hj : nthL vs j = some u) : Rd W I R (A.add j) u := h j u (nthL_eq.symm.trans hj)
attribute [local irreducible] opK wpList Code.wp Exit.then Exit.inBlock fnPost bodyPost Nx Calls Oper.wp Rd Rds Wr Ent Stars Blk Again Vec FnSpec wpMix QRun Stop Upto wpAt
set_option maxRecDepth 10000 in
theorem IndexFuncF_spec (A : Option Addr) (c : Nat) (l : List Rat) (I : PH) (hl : Rats I A c l) :
    FnSpec Tryz.prog 101 [.slice A l.length c, .func (.func 154) #[] #[]] I []
      (fun v R' => ((v = .int .i64 (-1) ∧ ∀ k, k < l.length → l.getD k default = 0) ∨ ∃ k : Nat, v = .int .i64 (k : Int) ∧ k < l.length ∧ l.getD k default ≠ 0) ∧ R' = []) := by
  have hlen := hl.len
  refine FnSpec.enterP Tryz.func101 rfl Tryz.ntmps101 rfl fun w F => ?_
  repeat' first
    | ((with_reducible refine Nx.is_wp ?_); first | refine Nx.wo ?_ | refine Nx.zp (fun hc => ?_) (fun hc => ?_))
    | (refine Nx.zo ?_; first | refine Nx.opr rfl rfl ?_ | refine Nx.so ?_ | refine Nx.sb (fun bx => ?_) | refine Nx.sa (fun A2 c2 => ?_))
    | refine Nx.za ?_ | refine Nx.zr (fun hc => ?_) (fun hc => ?_)
    | refine Nx.zq ?_ | refine Nx.zu (fun hc => ?_) (fun hc => ?_)
    | refine Nx.zx ?_ | fail
  refine Nx.p_loop (σ := Nat) (fun k => [(0, .slice A l.length c), (1, .func (.func 154) #[] #[]), (7, .int .i64 l.length), (8, .int .i64 (k : Int))])
    (fun _ => [F]) (fun k => k ≤ l.length ∧ ∀ j, j < k → l.getD j default = 0) (fun k => l.length - k) 0 rfl ⟨Nat.zero_le _, fun j hj => absurd hj (Nat.not_lt_zero _)⟩ ⟨rfl, rfl, rfl, rfl, trivial⟩ (Ent.refl _) ?_
  rintro k ⟨hk, hno⟩
  by_cases hkl : k < l.length
  case neg =>
    obtain rfl : k = l.length := by omega
    repeat' first
      | ((with_reducible refine Nx.is_wp ?_); first | refine Nx.wo ?_ | refine Nx.zp (fun hc => ?_) (fun hc => ?_))
      | (refine Nx.zo ?_; first | refine Nx.opr rfl rfl ?_ | refine Nx.so ?_ | refine Nx.sb (fun bx => ?_) | refine Nx.sa (fun A2 c2 => ?_))
      | refine Nx.za ?_ | refine Nx.zr (fun hc => ?_) (fun hc => ?_)
      | refine Nx.zq ?_ | refine Nx.zu (fun hc => ?_) (fun hc => ?_)
      | refine Nx.zx ?_ | fail
    exact Nx.ret_fn rfl [] ⟨.inl ⟨rfl, hno⟩, rfl⟩ (by (exact Ent.auto))
  have hrd : ∀ (W : World) (R : List Res), Rds W I R ((ad A).add (k * 2)) (ratC (l.getD k default)) := fun W R => hl.rds hkl
  have hA := hl.isSome (by omega) (by omega)
  obtain ⟨x, hx⟩ : ∃ x, x = l.getD k default := ⟨_, rfl⟩
  rw [← hx] at hrd
  have hP : FnSpec Tryz.prog 154 [.agg #[.int .i64 x.num, .int .i64 x.den]] I [] (fun v R' => v = .bool (decide (x.num ≠ 0)) ∧ R' = []) := by
    refine FnSpec.enterP Tryz.func154 rfl Tryz.ntmps154 rfl fun w F => ?_
    repeat' first
      | ((with_reducible refine Nx.is_wp ?_); first | refine Nx.wo ?_ | refine Nx.zp (fun hc => ?_) (fun hc => ?_))
      | (refine Nx.zo ?_; first | refine Nx.opr rfl rfl ?_ | refine Nx.so ?_ | refine Nx.sb (fun bx => ?_) | refine Nx.sa (fun A2 c2 => ?_))
      | refine Nx.za ?_ | refine Nx.zr (fun hc => ?_) (fun hc => ?_)
      | refine Nx.zq ?_ | refine Nx.zu (fun hc => ?_) (fun hc => ?_)
      | refine Nx.zx ?_ | fail
    exact Nx.ret_fn rfl [] ⟨rfl, rfl⟩ (by (exact Ent.auto))
  by_cases h0 : x = 0
  · rw [decide_eq_false (show ¬ x.num ≠ 0 by rw [h0]; exact fun h => h rfl)] at hP
    repeat' first
      | ((with_reducible refine Nx.is_wp ?_); first | refine Nx.wo ?_ | refine Nx.zp (fun hc => ?_) (fun hc => ?_))
      | (refine Nx.zo ?_; first | refine Nx.opr rfl rfl ?_ | refine Nx.indexAddr_nat (A := A) (i := k) (sz := 2) rfl rfl rfl rfl rfl hkl hA ?_ | refine Nx.loads rfl rfl rfl rfl (hrd _ _) rfl ?_ | refine Nx.callv rfl rfl rfl (by kernel_rfl) rfl hP ?_ | refine Nx.so ?_ | refine Nx.sb (fun bx => ?_) | refine Nx.sa (fun A2 c2 => ?_))
      | refine Nx.za ?_ | refine Nx.zr (fun hc => ?_) (fun hc => ?_)
      | refine Nx.zq ?_ | refine Nx.zu (fun hc => ?_) (fun hc => ?_)
      | refine Nx.zx ?_ | fail
    refine Nx.again (k + 1) ⟨hkl, fun j hj => ?_⟩ (by omega) ⟨rfl, rfl, rfl, rfl, trivial⟩ (Ent.refl _)
    by_cases hjk : j < k
    · exact hno j hjk
    · obtain rfl : j = k := by omega
      rw [← hx]; exact h0
  · rw [decide_eq_true (show x.num ≠ 0 from rat_ne h0)] at hP
    repeat' first
      | ((with_reducible refine Nx.is_wp ?_); first | refine Nx.wo ?_ | refine Nx.zp (fun hc => ?_) (fun hc => ?_))
      | (refine Nx.zo ?_; first | refine Nx.opr rfl rfl ?_ | refine Nx.indexAddr_nat (A := A) (i := k) (sz := 2) rfl rfl rfl rfl rfl hkl hA ?_ | refine Nx.loads rfl rfl rfl rfl (hrd _ _) rfl ?_ | refine Nx.callv rfl rfl rfl (by kernel_rfl) rfl hP ?_ | refine Nx.so ?_ | refine Nx.sb (fun bx => ?_) | refine Nx.sa (fun A2 c2 => ?_))
      | refine Nx.za ?_ | refine Nx.zr (fun hc => ?_) (fun hc => ?_)
      | refine Nx.zq ?_ | refine Nx.zu (fun hc => ?_) (fun hc => ?_)
      | refine Nx.zx ?_ | fail
    exact Nx.ret_fn rfl [] ⟨.inr ⟨k, rfl, hkl, by rw [← hx]; exact h0⟩, rfl⟩ (by (exact Ent.auto))
theorem cs1_cost (q : Bl.Eqs) : rl q.N (cs1 q (-1) q.N) = rl q.N (Bl.cst (Bl.cost1 q)) := rl_congr fun k hk => by
  unfold cs1 Bl.cst Bl.cost1
  by_cases h : q.cnt ≤ k
  · rw [if_pos ⟨h, hk⟩, if_neg (by omega)]
  · rw [if_neg (by omega), if_pos (by omega)]; rfl
theorem Arr.pre {I : PH} {A : Option Addr} {xs ys : List Value} (h : Arr I A (xs ++ ys)) : Arr I A xs := fun j u hj => h j u (by rw [List.getElem?_append_left (List.getElem?_eq_some_iff.1 hj).1]; exact hj)
theorem rl_pre {n m : Nat} (h : n ≤ m) (f : Nat → Rat) : ∃ l, rl m f = rl n f ++ l := by
  obtain ⟨d, rfl⟩ : ∃ d, m = n + d := ⟨m - n, by omega⟩
  induction d with
  | zero => exact ⟨[], by rw [List.append_nil]; rfl⟩
  | succ d ih =>
    obtain ⟨l, hl⟩ := ih (by omega)
    exact ⟨l ++ [f (n + d)], by rw [← Nat.add_assoc, rl_succ, hl, List.append_assoc]⟩
theorem Rats.pre {I : PH} {A : Option Addr} {c n m : Nat} {f : Nat → Rat} (h : Rats I A c (rl m f)) (hn : n ≤ m) : Rats I A c (rl n f) := by
  obtain ⟨l, hl⟩ := rl_pre hn f
  have h1 := h.arr
  rw [hl, List.flatMap_append] at h1
  have h2 := h.cap
  rw [rl_len] at h2
  exact ⟨Arr.pre h1, by rw [rl_len]; omega, h.max, fun _ _ => rfl⟩
theorem row_frozen {q : Bl.Eqs} {ta : TA} {T : Nat → Nat → Rat} {m I' : PH} (hm : PH.le m I') (h : Stars [trowsR q ta T] m) {i : Nat} (hi : i < q.m) : Rats I' (ta.ra i).1 (ta.ra i).2 (rl (q.N + 1) (T i)) := by
  obtain ⟨m2, d2, h2⟩ := Stars.get 0 h rfl
  obtain ⟨m3, d3, h3⟩ := Stars.nth (i := i) h2 (by rw [List.getElem?_map]; unfold rowsL; rw [List.getElem?_map, List.getElem?_range hi]; rfl)
  have h3 : Vec 24 2 (ta.ra i).1 (q.N + 1) (ta.ra i).2 ((rl (q.N + 1) (T i)).flatMap ratC) m3 := h3
  exact Vec.sliceN (t := 24) (l := rl (q.N + 1) (T i)) ((d3.trans d2).trans hm) (by rw [rl_len]; exact h3) fun _ _ => rfl
theorem bas_rd {W : World} {I : PH} {R : List Res} {q : Bl.Eqs} {ta : TA} {B : Nat → Nat} {i : Nat} (k : Nat) (hk : nthL R k = some (basisR q ta B)) (hi : i < q.m) : Rd W I R ((ad ta.Ab).add (i * 1)) (.int .i64 (B i : Int)) := by
  have := Rd.vecEl (W := W) (I := I) (R := R) (f := Value.int .i64) (l := basL q B) (i := i) (A := ta.Ab) (n := q.m) (c := ta.cb) (t := 3) k hk (by rw [basL_len]; exact hi)
  rwa [basL_at hi] at this
set_option maxRecDepth 10000 in
theorem possible_spec (b : Nat) (q : Bl.Eqs) (hq : q.Small) (hc1 : 1 ≤ q.cnt) (ta : TA) (vc : Value) (I : PH) (hT : TabI I)
    (ho : SliceOf (fun i : Nat => Value.slice (ta.ra i).1 (q.N + 1) (ta.ra i).2) I ta.Ar ta.cr (List.range q.m)) (hra0 : ∀ i, i < q.m → (ta.ra i).1.isSome = true ∧ (ta.ra i).2 = q.N + 1) (hAb : 0 < q.m → ta.Ab.isSome = true) :
    FnSpec Tryz.prog 87 [.pointer (some ⟨b, 0, none⟩)] I [Blk b 193 (tabV q ta vc), basisR q ta q.s0.B, trowsR q ta q.s0.T]
      (fun v R' => ∃ (s : Bl.Tab) (bo : Bool) (vc' : Value), v = .bool bo ∧ (bo = true ↔ ∃ x, Bl.Feas q x) ∧ (bo = true → Bl.Rdy q s) ∧ R' = [Blk b 193 (tabV q ta vc'), basisR q ta s.B, trowsR q ta s.T]) := by
  have h1 := hq.cnt
  have h2 := hq.m
  have hN : (q.cnt : Int) + (q.m : Int) = (q.N : Int) := by show _ = ((q.cnt + q.m : Nat) : Int); omega
  have hra := fun i hi => (hra0 i hi).1
  have hA := aim_spec b q hq hc1 (.slice ta.Ar q.m ta.cr) (.slice ta.Ab q.m ta.cb) vc none 0 (-1) (fun c h => by cases h) (by decide) (by decide) I
  refine FnSpec.enterP Tryz.func87 rfl Tryz.ntmps87 rfl fun w F => ?_
  repeat' first
    | ((with_reducible refine Nx.is_wp ?_); first | refine Nx.p_stopr 2 rfl ?_ | refine Nx.wo ?_ | refine Nx.zp (fun hc => ?_) (fun hc => ?_))
    | (refine Nx.zo ?_; first | refine Nx.opr rfl rfl ?_ | (refine Nx.call rfl rfl rfl (by kernel_rfl) rfl hA (by (exact Ent.auto)) ?_; rintro _ _ ⟨bc, rfl⟩) | refine Nx.so ?_ | refine Nx.sb (fun bx => ?_) | refine Nx.sa (fun A2 c2 => ?_))
    | refine Nx.za ?_ | refine Nx.zr (fun hc => ?_) (fun hc => ?_)
    | refine Nx.zq ?_ | refine Nx.zu (fun hc => ?_) (fun hc => ?_)
    | refine Nx.zx ?_ | fail
  refine Nx.unstop ?_
  refine Nx.ent (R' := [ratsR (some ⟨bc, 0, none⟩) q.N q.N (rl q.N (Bl.cst (Bl.cost1 q))), Blk b 193 (tabV q ta (.slice (some ⟨bc, 0, none⟩) q.N q.N)), basisR q ta q.s0.B, trowsR q ta q.s0.T, F]) (by rw [← cs1_cost]; (exact Ent.auto)) ?_
  refine Nx.freezeAt 0 rfl fun I2 m2 hI2 hm2 hf2 => ?_
  have hcost : Rats I2 (some ⟨bc, 0, none⟩) q.N (rl q.N (Bl.cst (Bl.cost1 q))) := Vec.sliceN (t := 24) hm2 (by rw [rl_len]; exact hf2) fun _ _ => rfl
  replace ho := ho.mono hI2
  replace hT := tab_mono hI2 hT
  have hIm := improve_spec b q hq ta q.s0 (Bl.s0_inv hq) (Bl.cost1 q) (Bl.cost1_bd q) (some ⟨bc, 0, none⟩) q.N I2 hT hcost ho hra hAb
  repeat' first
    | ((with_reducible refine Nx.is_wp ?_); first | refine Nx.wo ?_ | refine Nx.zp (fun hc => ?_) (fun hc => ?_))
    | (refine Nx.zo ?_; first | refine Nx.opr rfl rfl ?_ | refine Nx.makeFunc (v1 := [.pointer (some ⟨b, 0, none⟩)]) (v2 := []) rfl rfl rfl ?_ | (refine Nx.call rfl rfl rfl (by kernel_rfl) rfl hIm (by (exact Ent.auto)) ?_; rintro _ _ ⟨s1, bo1, rfl, hrun, rfl⟩) | refine Nx.so ?_ | refine Nx.sb (fun bx => ?_) | refine Nx.sa (fun A2 c2 => ?_))
    | refine Nx.za ?_ | refine Nx.zr (fun hc => ?_) (fun hc => ?_)
    | refine Nx.zq ?_ | refine Nx.zu (fun hc => ?_) (fun hc => ?_)
    | refine Nx.zx ?_ | fail
  have hinv := hrun.inv2 (Bl.s0_inv2 hq)
  have hph := Bl.phase1 hrun hq
  have ror := fun (W : World) (Q : List Res) (i : Nat) (hi : i < q.m) => (by
    have := ho.rd (W := W) (R := Q) (k := i) (by rw [List.length_range]; exact hi)
    rwa [range_getD hi] at this : Rd W I2 Q ((ad ta.Ar).add (i * 1)) (.slice (ta.ra i).1 (q.N + 1) (ta.ra i).2))
  have hV := fun vc => value_spec' b q hq (.slice ta.Ar q.m ta.cr) (.slice ta.Ab q.m ta.cb) vc I2
  rw [hN] at hV
  refine Nx.p_loop (σ := Nat) (fun i => [(0, .pointer (some ⟨b, 0, none⟩)), (19, .slice ta.Ab q.m ta.cb), (20, .int .i64 (q.m : Int)), (21, .int .i64 (i : Int))])
    (fun _ => [Blk b 193 (tabV q ta (.slice (some ⟨bc, 0, none⟩) q.N q.N)), basisR q ta s1.B, trowsR q ta s1.T, F]) (fun i => i ≤ q.m ∧ ∀ j, j < i → q.cnt ≤ s1.B j → s1.T j q.N = 0) (fun i => q.m - i) 0 rfl ⟨Nat.zero_le _, fun j hj => absurd hj (Nat.not_lt_zero _)⟩ ⟨rfl, rfl, rfl, rfl, trivial⟩ (by (exact Ent.auto)) ?_
  rintro i ⟨hi, hz⟩
  by_cases him : i < q.m
  · have hAb' := hAb (by omega)
    have hbr := fun (W : World) (R : List Res) (j : Nat) (hj : nthL R j = some (basisR q ta s1.B)) => bas_rd (W := W) (I := I2) j hj him
    have hnr := fun (W : World) (R : List Res) (j : Nat) (hj : nthL R j = some (trowsR q ta s1.T)) => Rds.get (num_rds (W := W) (I := I2) j hj him (show q.N < q.N + 1 by omega)) 0 (u := .int .i64 (s1.T i q.N).num) rfl
    have hAr : ta.Ar.isSome = true := ho.isSome (by rw [List.length_range]; omega)
    have hri := hra i him
    have roi := fun (W : World) (Q : List Res) => ror W Q i him
    have hzi : (s1.B i < q.cnt ∨ s1.T i q.N = 0) → ∀ j, j < i + 1 → q.cnt ≤ s1.B j → s1.T j q.N = 0 := fun hh j hj hb => by
      by_cases hji : j < i
      · exact hz j hji hb
      · obtain rfl : j = i := by omega
        exact hh.resolve_left (by omega)
    have hbad : q.cnt ≤ s1.B i → s1.T i q.N ≠ 0 → ¬ ∃ x, Bl.Feas q x := fun hb hne hex => hne (hph.2 hex i him hb)
    obtain ⟨xn, hxn⟩ : ∃ xn, xn = s1.T i q.N := ⟨_, rfl⟩
    rw [← hxn] at hnr hzi hbad
    generalize s1.B i = Bi at hbr hzi hbad
    by_cases hB : q.cnt ≤ Bi
    case neg =>
      repeat' first
        | ((with_reducible refine Nx.is_wp ?_); first | refine Nx.wo ?_ | refine Nx.p_drawF (id := 6) rfl [0, 1, 2, 3, 4, 5, 6, 7, 8, 9, 10, 11, 12, 13, 14, 15, 16, 17, 18, 19, 20] [15] [] _ rfl rfl (by kernel_rfl) (by kernel_rfl) rfl PanicOk.auto (Ent.refl _) ?_ | refine Nx.p_drawF (id := 13) rfl [0, 1, 2, 3, 4, 5, 6, 7, 8, 9, 10, 11] [] [12, 13] _ rfl rfl (by kernel_rfl) (by kernel_rfl) rfl PanicOk.auto (Ent.refl _) ?_ | refine Nx.zp (fun hc => ?_) (fun hc => ?_))
        | (refine Nx.zo ?_; first | refine Nx.opr rfl rfl ?_ | refine Nx.indexAddr_nat (A := ta.Ab) (i := i) (sz := 1) rfl rfl rfl rfl rfl him hAb' ?_ | refine Nx.load rfl rfl rfl (hbr _ _ 1 rfl) ?_ | refine Nx.so ?_ | refine Nx.sb (fun bx => ?_) | refine Nx.sa (fun A2 c2 => ?_))
        | refine Nx.za ?_ | refine Nx.zr (fun hc => ?_) (fun hc => ?_)
        | refine Nx.zq ?_ | refine Nx.zu (fun hc => ?_) (fun hc => ?_)
        | refine Nx.zx ?_ | fail
      exact Nx.again (i + 1) ⟨him, hzi (.inl (by omega))⟩ (by omega) ⟨rfl, rfl, rfl, rfl, trivial⟩ (by (exact Ent.auto))
    by_cases hx0 : xn = 0
    · have hn0 : xn.num = 0 := by rw [hx0]; rfl
      repeat' first
        | ((with_reducible refine Nx.is_wp ?_); first | refine Nx.wo ?_ | refine Nx.p_drawF (id := 6) rfl [0, 1, 2, 3, 4, 5, 6, 7, 8, 9, 10, 11, 12, 13, 14, 15, 16, 17, 18, 19, 20] [15] [] _ rfl rfl (by kernel_rfl) (by kernel_rfl) rfl PanicOk.auto (Ent.refl _) ?_ | refine Nx.p_drawF (id := 13) rfl [0, 1, 2, 3, 4, 5, 6, 7, 8, 9, 10, 11] [] [12, 13] _ rfl rfl (by kernel_rfl) (by kernel_rfl) rfl PanicOk.auto (Ent.refl _) ?_ | refine Nx.zp (fun hc => ?_) (fun hc => ?_))
        | (refine Nx.zo ?_; first | refine Nx.opr rfl rfl ?_ | refine Nx.indexAddr_nat (A := ta.Ab) (i := i) (sz := 1) rfl rfl rfl rfl rfl him hAb' ?_ | refine Nx.load rfl rfl rfl (hbr _ _ 1 rfl) ?_ | (refine Nx.call rfl rfl rfl (by kernel_rfl) rfl (hV _) (by (exact Ent.auto)) ?_; rintro _ _ ⟨rfl, rfl⟩) | refine Nx.so ?_ | refine Nx.sb (fun bx => ?_) | refine Nx.sa (fun A2 c2 => ?_))
        | refine Nx.za ?_ | refine Nx.zr (fun hc => ?_) (fun hc => ?_)
        | ((with_reducible refine Nx.is_mix ?_); first | refine Nx.m_quiet rfl rfl rfl rfl rfl (by first | exact QRun.fld (A := (ad (ta.ra i).1).add (q.N * 2)) rfl rfl | exact QRun.opr rfl | exact QRun.idx (A := ta.Ar) (i := i) (sz := 1) rfl rfl rfl rfl him hAr | exact QRun.load rfl rfl (roi _ _) | exact QRun.idx (A := (ta.ra i).1) (i := q.N) (sz := 2) rfl rfl rfl rfl (by omega) hri | exact QRun.load rfl rfl (hnr _ _ 2 rfl)) ?_ | refine Nx.m_quiet_do rfl rfl rfl rfl rfl rfl rfl (by first | exact QRun.fld (A := (ad (ta.ra i).1).add (q.N * 2)) rfl rfl | exact QRun.opr rfl | exact QRun.idx (A := ta.Ar) (i := i) (sz := 1) rfl rfl rfl rfl him hAr | exact QRun.load rfl rfl (roi _ _) | exact QRun.idx (A := (ta.ra i).1) (i := q.N) (sz := 2) rfl rfl rfl rfl (by omega) hri | exact QRun.load rfl rfl (hnr _ _ 2 rfl)) ?_ | refine Nx.m ?_ | refine Nx.zm ?_ | refine Nx.zt (fun hc => ?_) (fun hc => ?_))
        | refine Nx.zx ?_ | fail
      exact Nx.again (i + 1) ⟨him, hzi (.inr hx0)⟩ (by omega) ⟨rfl, rfl, rfl, rfl, trivial⟩ (by (exact Ent.auto))
    · have hn0 : xn.num ≠ 0 := rat_ne hx0
      repeat' first
        | ((with_reducible refine Nx.is_wp ?_); first | refine Nx.wo ?_ | refine Nx.p_drawF (id := 6) rfl [0, 1, 2, 3, 4, 5, 6, 7, 8, 9, 10, 11, 12, 13, 14, 15, 16, 17, 18, 19, 20] [15] [] _ rfl rfl (by kernel_rfl) (by kernel_rfl) rfl PanicOk.auto (Ent.refl _) ?_ | refine Nx.p_drawF (id := 13) rfl [0, 1, 2, 3, 4, 5, 6, 7, 8, 9, 10, 11] [] [12, 13] _ rfl rfl (by kernel_rfl) (by kernel_rfl) rfl PanicOk.auto (Ent.refl _) ?_ | refine Nx.zp (fun hc => ?_) (fun hc => ?_))
        | (refine Nx.zo ?_; first | refine Nx.opr rfl rfl ?_ | refine Nx.indexAddr_nat (A := ta.Ab) (i := i) (sz := 1) rfl rfl rfl rfl rfl him hAb' ?_ | refine Nx.load rfl rfl rfl (hbr _ _ 1 rfl) ?_ | (refine Nx.call rfl rfl rfl (by kernel_rfl) rfl (hV _) (by (exact Ent.auto)) ?_; rintro _ _ ⟨rfl, rfl⟩) | refine Nx.so ?_ | refine Nx.sb (fun bx => ?_) | refine Nx.sa (fun A2 c2 => ?_))
        | refine Nx.za ?_ | refine Nx.zr (fun hc => ?_) (fun hc => ?_)
        | ((with_reducible refine Nx.is_mix ?_); first | refine Nx.m_quiet rfl rfl rfl rfl rfl (by first | exact QRun.fld (A := (ad (ta.ra i).1).add (q.N * 2)) rfl rfl | exact QRun.opr rfl | exact QRun.idx (A := ta.Ar) (i := i) (sz := 1) rfl rfl rfl rfl him hAr | exact QRun.load rfl rfl (roi _ _) | exact QRun.idx (A := (ta.ra i).1) (i := q.N) (sz := 2) rfl rfl rfl rfl (by omega) hri | exact QRun.load rfl rfl (hnr _ _ 2 rfl)) ?_ | refine Nx.m_quiet_do rfl rfl rfl rfl rfl rfl rfl (by first | exact QRun.fld (A := (ad (ta.ra i).1).add (q.N * 2)) rfl rfl | exact QRun.opr rfl | exact QRun.idx (A := ta.Ar) (i := i) (sz := 1) rfl rfl rfl rfl him hAr | exact QRun.load rfl rfl (roi _ _) | exact QRun.idx (A := (ta.ra i).1) (i := q.N) (sz := 2) rfl rfl rfl rfl (by omega) hri | exact QRun.load rfl rfl (hnr _ _ 2 rfl)) ?_ | refine Nx.m ?_ | refine Nx.zm ?_ | refine Nx.zt (fun hc => ?_) (fun hc => ?_))
        | refine Nx.zx ?_ | fail
      exact Nx.imm_le hI2 (Nx.ret_fn rfl [_, _, _] ⟨s1, false, _, rfl, ⟨fun h => (by cases h), fun h => absurd h (hbad hB hx0)⟩, fun h => (by cases h), rfl⟩ (by (exact Ent.auto)))
  obtain rfl : i = q.m := by omega
  have hart : Bl.Art0 q s1 := hz
  have hfeas := hph.1 hart
  repeat' first
    | ((with_reducible refine Nx.is_wp ?_); first | refine Nx.wo ?_ | refine Nx.zp (fun hc => ?_) (fun hc => ?_))
    | (refine Nx.zo ?_; first | refine Nx.opr rfl rfl ?_ | refine Nx.so ?_ | refine Nx.sb (fun bx => ?_) | refine Nx.sa (fun A2 c2 => ?_))
    | refine Nx.za ?_ | refine Nx.zr (fun hc => ?_) (fun hc => ?_)
    | refine Nx.zq ?_ | refine Nx.zu (fun hc => ?_) (fun hc => ?_)
    | refine Nx.zx ?_ | fail
  refine Nx.p_loop (σ := Nat × Bl.Tab) (fun z => [(0, .pointer (some ⟨b, 0, none⟩)), (51, .slice ta.Ab q.m ta.cb), (52, .int .i64 (q.m : Int)), (53, .int .i64 (z.1 : Int))])
    (fun z => [Blk b 193 (tabV q ta (.slice (some ⟨bc, 0, none⟩) q.N q.N)), basisR q ta z.2.B, trowsR q ta z.2.T, F]) (fun z => z.1 ≤ q.m ∧ Bl.Inv2 q z.2 ∧ Bl.Art0 q z.2 ∧ Bl.Zer q z.2 z.1) (fun z => q.m - z.1) (0, s1) rfl ⟨Nat.zero_le _, hinv, hart, fun i hi => absurd hi (Nat.not_lt_zero _)⟩ ⟨rfl, rfl, rfl, rfl, trivial⟩ (by (exact Ent.auto)) ?_
  rintro ⟨i, s⟩ ⟨hi, hs, ha, hzr⟩
  dsimp only at hi hs ha hzr ⊢
  by_cases him : i < q.m
  case neg =>
    obtain rfl : i = q.m := by omega
    repeat' first
      | ((with_reducible refine Nx.is_wp ?_); first | refine Nx.wo ?_ | refine Nx.zp (fun hc => ?_) (fun hc => ?_))
      | (refine Nx.zo ?_; first | refine Nx.opr rfl rfl ?_ | refine Nx.so ?_ | refine Nx.sb (fun bx => ?_) | refine Nx.sa (fun A2 c2 => ?_))
      | refine Nx.za ?_ | refine Nx.zr (fun hc => ?_) (fun hc => ?_)
      | refine Nx.zq ?_ | refine Nx.zu (fun hc => ?_) (fun hc => ?_)
      | refine Nx.zx ?_ | fail
    exact Nx.imm_le hI2 (Nx.ret_fn rfl [_, _, _] ⟨s, true, _, rfl, ⟨fun _ => hfeas, fun _ => rfl⟩, fun _ => ⟨hs, ha, hzr⟩, rfl⟩ (by (exact Ent.auto)))
  have hAb' := hAb (by omega)
  have hbr := fun (W : World) (R : List Res) (j : Nat) (hj : nthL R j = some (basisR q ta s.B)) => bas_rd (W := W) (I := I2) j hj him
  have hAr : ta.Ar.isSome = true := ho.isSome (by rw [List.length_range]; omega)
  have hri := hra i him
  have hcap := (hra0 i him).2
  have roi := fun (W : World) (Q : List Res) => ror W Q i him
  have hzk : (q.cnt ≤ s.B i → ∀ k, k < q.cnt → s.T i k = 0) → Bl.Zer q s (i + 1) := fun hh j hj hb => by
    by_cases hji : j < i
    · exact hzr j hji hb
    · obtain rfl : j = i := by omega
      exact hh hb
  by_cases hB : q.cnt ≤ s.B i
  case neg =>
    have hz1 := hzk (fun h => absurd h hB)
    generalize s.B i = Bi at hbr hB
    repeat' first
      | ((with_reducible refine Nx.is_wp ?_); first | refine Nx.wo ?_ | refine Nx.zp (fun hc => ?_) (fun hc => ?_))
      | (refine Nx.zo ?_; first | refine Nx.opr rfl rfl ?_ | refine Nx.indexAddr_nat (A := ta.Ab) (i := i) (sz := 1) rfl rfl rfl rfl rfl him hAb' ?_ | refine Nx.load rfl rfl rfl (hbr _ _ 1 rfl) ?_ | refine Nx.so ?_ | refine Nx.sb (fun bx => ?_) | refine Nx.sa (fun A2 c2 => ?_))
      | refine Nx.za ?_ | refine Nx.zr (fun hc => ?_) (fun hc => ?_)
      | refine Nx.zq ?_ | refine Nx.zu (fun hc => ?_) (fun hc => ?_)
      | refine Nx.zx ?_ | fail
    exact Nx.again (i + 1, s) ⟨him, hs, ha, hz1⟩ (by dsimp only; omega) ⟨rfl, rfl, rfl, rfl, trivial⟩ (by (exact Ent.auto))
  have hN0 := ha i him hB
  have hIx := fun (m I' : PH) (_ : PH.le I2 I') (hm : PH.le m I') (hv : Stars [trowsR q ta s.T] m) => (by
    have := IndexFuncF_spec (ta.ra i).1 (ta.ra i).2 (rl q.cnt (s.T i)) I' ((row_frozen hm hv him).pre (by show q.cnt ≤ q.cnt + q.m + 1; omega))
    rw [rl_len] at this
    exact this : FnSpec Tryz.prog 101 [.slice (ta.ra i).1 q.cnt (ta.ra i).2, .func (.func 154) #[] #[]] I' []
      (fun v R' => ((v = .int .i64 (-1) ∧ ∀ k, k < q.cnt → (rl q.cnt (s.T i)).getD k default = 0) ∨ ∃ k : Nat, v = .int .i64 (k : Int) ∧ k < q.cnt ∧ (rl q.cnt (s.T i)).getD k default ≠ 0) ∧ R' = []))
  have hPv := fun (e : Nat) (he : e < q.cnt) (hne : (rl q.cnt (s.T i)).getD e default ≠ 0) => (by
    rw [rl_at _ he] at hne
    exact pivot_spec b q hq ta s hs.inv i e him he hne (hs.inv.out him he hne hN0) (.slice (some ⟨bc, 0, none⟩) q.N q.N) I2 hT ho hra hAb')
  have hn1 : (∀ k, k < q.cnt → (rl q.cnt (s.T i)).getD k default = 0) → Bl.Zer q s (i + 1) := fun hh => hzk fun _ k hk => by have := hh k hk; rwa [rl_at _ hk] at this
  have hn2 : ∀ e, e < q.cnt → (rl q.cnt (s.T i)).getD e default ≠ 0 → Bl.Inv2 q (Bl.piv s i e) ∧ Bl.Art0 q (Bl.piv s i e) ∧ Bl.Zer q (Bl.piv s i e) (i + 1) := fun e he hne => by
    rw [rl_at _ he] at hne
    refine ⟨hs.out him he hne hN0, Bl.art0_piv ha hN0, fun j hj hb => ?_⟩
    by_cases hji : j < i
    · exact Bl.zer_piv hzr he j hji hb
    · obtain rfl : j = i := by omega
      exfalso
      have : (Bl.piv s j e).B j = e := if_pos rfl
      omega
  have hcc : q.cnt ≤ (ta.ra i).2 := by rw [hcap]; show q.cnt ≤ q.cnt + q.m + 1; omega
  generalize hBi : s.B i = Bi at hbr hB
  clear hzk hrun hph hbr
  have hbr := fun (W : World) (R : List Res) (j : Nat) (hj : nthL R j = some (basisR q ta s.B)) => (by have := bas_rd (W := W) (I := I2) j hj him; rwa [hBi] at this : Rd W I2 R ((ad ta.Ab).add (i * 1)) (.int .i64 (Bi : Int)))
  repeat' first
    | ((with_reducible refine Nx.is_wp ?_); first | refine Nx.wo ?_ | refine Nx.p_drawF (id := 6) rfl [0, 1, 2, 3, 4, 5, 6, 7, 8, 9, 10, 11, 12, 13, 14, 15, 16, 17, 18, 19, 20] [15] [] _ rfl rfl (by kernel_rfl) (by kernel_rfl) rfl PanicOk.auto (Ent.refl _) ?_ | refine Nx.p_drawF (id := 13) rfl [0, 1, 2, 3, 4, 5, 6, 7, 8, 9, 10, 11] [] [12, 13] _ rfl rfl (by kernel_rfl) (by kernel_rfl) rfl PanicOk.auto (Ent.refl _) ?_ | refine Nx.zp (fun hc => ?_) (fun hc => ?_))
    | (refine Nx.zo ?_; first | refine Nx.opr rfl rfl ?_ | refine Nx.indexAddr_nat (A := ta.Ab) (i := i) (sz := 1) rfl rfl rfl rfl rfl him hAb' ?_ | refine Nx.load rfl rfl rfl (hbr _ _ 1 rfl) ?_ | (refine Nx.call rfl rfl rfl (by kernel_rfl) rfl (FnSpec.keep [trowsR q ta s.T] hIx) (by (exact Ent.auto)) ?_; rintro _ _ ⟨_, ⟨⟨rfl, hno⟩ | ⟨e, rfl, he, hne⟩, rfl⟩, rfl⟩) | (refine Nx.call rfl rfl rfl (by kernel_rfl) rfl (hPv e he hne) (by (exact Ent.auto)) ?_; rintro _ _ rfl) | refine Nx.so ?_ | refine Nx.sb (fun bx => ?_) | refine Nx.sa (fun A2 c2 => ?_))
    | refine Nx.za ?_ | refine Nx.zr (fun hc => ?_) (fun hc => ?_)
    | ((with_reducible refine Nx.is_mix ?_); first | refine Nx.m_quiet rfl rfl rfl rfl rfl (by first | exact QRun.opr rfl | exact QRun.idx (A := ta.Ar) (i := i) (sz := 1) rfl rfl rfl rfl him hAr | exact QRun.load rfl rfl (roi _ _) | exact QRun.slice_hi (sz := 2) rfl rfl rfl rfl hcc) ?_ | refine Nx.m_quiet_do rfl rfl rfl rfl rfl rfl rfl (by first | exact QRun.opr rfl | exact QRun.idx (A := ta.Ar) (i := i) (sz := 1) rfl rfl rfl rfl him hAr | exact QRun.load rfl rfl (roi _ _) | exact QRun.slice_hi (sz := 2) rfl rfl rfl rfl hcc) ?_ | refine Nx.m ?_ | refine Nx.zm ?_ | refine Nx.zt (fun hc => ?_) (fun hc => ?_))
    | refine Nx.zx ?_ | fail
  all_goals first
    | exact Nx.again (i + 1, s) ⟨him, hs, ha, hn1 hno⟩ (by dsimp only; omega) ⟨rfl, rfl, rfl, rfl, trivial⟩ (by (exact Ent.auto))
    | exact Nx.again (i + 1, Bl.piv s i e) ⟨him, (hn2 e he hne).1, (hn2 e he hne).2.1, (hn2 e he hne).2.2⟩ (by dsimp only; omega) ⟨rfl, rfl, rfl, rfl, trivial⟩ (by (exact Ent.auto))
end Go.Proofs.YtpcnapidlhpbkaaGreatDoor
namespace Go.Proofs.YtpcnapidlhpbkaaGreatDoor
open Go.Eng Go.Sol
attribute [local irreducible] opK wpList Code.wp Exit.then Exit.inBlock fnPost bodyPost Nx Calls Oper.wp Rd Rds Wr Ent Stars Blk Again Vec FnSpec wpMix QRun Stop Upto wpAt
def pf (q : Bl.Eqs) (s : Bl.Tab) : Nat → Nat → Rat
  | 0 => fun _ => 0
  | i + 1 => if s.B i < q.cnt then updF (pf q s i) (s.B i) (s.T i q.N) else pf q s i
theorem pf_sm {q : Bl.Eqs} {s : Bl.Tab} (h : Bl.Ok q.m q.N s) : ∀ i, i ≤ q.m → ∀ k, k < q.cnt → pf q s i k = Bl.sm i fun j => if s.B j = k then s.T j q.N else 0
  | 0, _, _, _ => rfl
  | i + 1, hi, k, hk => by
    have ih := pf_sm h i (by omega) k hk
    rw [pf, Bl.sm, ← ih]
    by_cases hb : s.B i < q.cnt
    · rw [if_pos hb]
      unfold updF
      by_cases hkb : k = s.B i
      · rw [if_pos hkb, if_pos hkb.symm, ih, Bl.sm_congr (g := fun _ => 0) fun j hj => if_neg fun he => ?_, Bl.sm_zero, Rat.zero_add]
        have := Bl.bas_inj h (i := j) (j := i) (by omega) (by omega) (he.trans hkb)
        omega
      · rw [if_neg hkb, if_neg (Ne.symm hkb), Rat.add_zero]
    · rw [if_neg hb, if_neg (by omega), Rat.add_zero]
theorem pf_pt {q : Bl.Eqs} {s : Bl.Tab} (h : Bl.Ok q.m q.N s) : rl q.cnt (pf q s q.m) = rl q.cnt (Bl.pt q.m q.N s) := rl_congr fun k hk => pf_sm h q.m (Nat.le_refl _) k hk
set_option maxRecDepth 10000 in
theorem point_spec (b : Nat) (q : Bl.Eqs) (hq : q.Small) (hc1 : 1 ≤ q.cnt) (ta : TA) (s : Bl.Tab) (hs : Bl.Inv q s) (vc : Value) (I : PH) (h : TabQ I q ta s) :
    FnSpec Tryz.prog 114 [.pointer (some ⟨b, 0, none⟩)] I [Blk b 193 (tabV q ta vc)]
      (fun v R' => ∃ b', v = .slice (some ⟨b', 0, none⟩) q.cnt q.cnt ∧ R' = [Blk b 193 (tabV q ta vc), ratsR (some ⟨b', 0, none⟩) q.cnt q.cnt (rl q.cnt (Bl.pt q.m q.N s))]) := by
  have h1 := hq.cnt
  have h2 := hq.m
  have hN : (q.cnt : Int) + (q.m : Int) = (q.N : Int) := by show _ = ((q.cnt + q.m : Nat) : Int); omega
  have hNb : q.N ≤ 20 := by show q.cnt + q.m ≤ 20; omega
  have hV := value_spec' b q hq (.slice ta.Ar q.m ta.cr) (.slice ta.Ab q.m ta.cb) vc I
  rw [hN] at hV
  refine FnSpec.enterP Tryz.func114 rfl Tryz.ntmps114 rfl fun w F => ?_
  repeat' first
    | ((with_reducible refine Nx.is_wp ?_); first | refine Nx.wo ?_ | refine Nx.p_drawF (id := 1) rfl [2, 3, 4, 5, 0, 1] [0, 1] [6, 7] _ rfl rfl (by kernel_rfl) (by kernel_rfl) rfl PanicOk.auto (Ent.refl _) ?_ | refine Nx.p_drawF (id := 6) rfl [0, 1, 2, 3, 4, 5, 6, 7, 8, 9, 10, 11, 12, 13] [10] [14] _ rfl rfl (by kernel_rfl) (by kernel_rfl) rfl PanicOk.auto (Ent.refl _) ?_ | refine Nx.zp (fun hc => ?_) (fun hc => ?_))
    | (refine Nx.zo ?_; first | refine Nx.opr rfl rfl ?_ | refine Nx.callv rfl rfl rfl (by kernel_rfl) rfl (bwhole_spec _ _) ?_ | (refine Nx.call rfl rfl rfl (by kernel_rfl) rfl (RepeatF_spec ((0 : Int) : Rat) _ q.cnt (by omega) (by omega) I) (by (exact Ent.auto)) ?_; rintro _ _ ⟨b7, rfl, rfl⟩) | refine Nx.so ?_ | refine Nx.sb (fun bx => ?_) | refine Nx.sa (fun A2 c2 => ?_))
    | refine Nx.za ?_ | refine Nx.zr (fun hc => ?_) (fun hc => ?_)
    | refine Nx.zq ?_ | refine Nx.zu (fun hc => ?_) (fun hc => ?_)
    | refine Nx.zx ?_ | fail
  refine Nx.p_loop (σ := Nat) (fun i => [(0, .pointer (some ⟨b, 0, none⟩)), (3, .slice (some ⟨b7, 0, none⟩) q.cnt q.cnt), (16, .slice ta.Ab q.m ta.cb), (17, .int .i64 (q.m : Int)), (18, .int .i64 (i : Int))])
    (fun i => [ratsR (some ⟨b7, 0, none⟩) q.cnt q.cnt (rl q.cnt (pf q s i)), Blk b 193 (tabV q ta vc), F]) (fun i => i ≤ q.m) (fun i => q.m - i) 0 rfl (Nat.zero_le _) ⟨rfl, rfl, rfl, rfl, rfl, trivial⟩ (by (exact Ent.auto)) ?_
  intro i hi
  have hi : i ≤ q.m := hi
  by_cases him : i < q.m
  case neg =>
    obtain rfl : i = q.m := by omega
    rw [pf_pt hs.ok]
    repeat' first
      | ((with_reducible refine Nx.is_wp ?_); first | refine Nx.wo ?_ | refine Nx.zp (fun hc => ?_) (fun hc => ?_))
      | (refine Nx.zo ?_; first | refine Nx.opr rfl rfl ?_ | refine Nx.so ?_ | refine Nx.sb (fun bx => ?_) | refine Nx.sa (fun A2 c2 => ?_))
      | refine Nx.za ?_ | refine Nx.zr (fun hc => ?_) (fun hc => ?_)
      | refine Nx.zq ?_ | refine Nx.zu (fun hc => ?_) (fun hc => ?_)
      | refine Nx.zx ?_ | fail
    exact Nx.ret_fn rfl [_, _] ⟨b7, rfl, rfl⟩ (by (exact Ent.auto))
  have r1 := fun (W : World) (Q : List Res) => h.bas (W := W) (R := Q) him
  have r3 := fun (W : World) (Q : List Res) => h.row (W := W) (R := Q) him
  have r4 := fun (W : World) (Q : List Res) => h.num (W := W) (R := Q) him (show q.N < q.N + 1 by omega)
  have hAr := h.as (by omega)
  have hAb := h.bs (by omega)
  have hra := h.rs him
  have hpf : pf q s (i + 1) = if s.B i < q.cnt then updF (pf q s i) (s.B i) (s.T i q.N) else pf q s i := rfl
  obtain ⟨xn, hxn⟩ : ∃ xn, xn = s.T i q.N := ⟨_, rfl⟩
  rw [← hxn] at r4 hpf
  generalize s.B i = k at r1 hpf
  by_cases hk : k < q.cnt
  · rw [if_pos hk] at hpf
    have hset := rl_set (n := q.cnt) (k := k) (f := pf q s i) (v := xn)
    rw [← hpf] at hset
    repeat' first
      | ((with_reducible refine Nx.is_wp ?_); first | refine Nx.wo ?_ | refine Nx.p_drawF (id := 1) rfl [2, 3, 4, 5, 0, 1] [0, 1] [6, 7] _ rfl rfl (by kernel_rfl) (by kernel_rfl) rfl PanicOk.auto (Ent.refl _) ?_ | refine Nx.p_drawF (id := 6) rfl [0, 1, 2, 3, 4, 5, 6, 7, 8, 9, 10, 11, 12, 13] [10] [14] _ rfl rfl (by kernel_rfl) (by kernel_rfl) rfl PanicOk.auto (Ent.refl _) ?_ | refine Nx.zp (fun hc => ?_) (fun hc => ?_))
      | (refine Nx.zo ?_; first | refine Nx.opr rfl rfl ?_ | refine Nx.indexAddr_nat (A := ta.Ab) (i := i) (sz := 1) rfl rfl rfl rfl rfl him hAb ?_ | refine Nx.load rfl rfl rfl (r1 _ _) ?_ | (refine Nx.call rfl rfl rfl (by kernel_rfl) rfl hV (by (exact Ent.auto)) ?_; rintro _ _ ⟨rfl, rfl⟩) | refine Nx.indexAddr_nat (A := some ⟨b7, 0, none⟩) (i := k) (sz := 2) rfl rfl rfl rfl rfl hk rfl ?_ | refine Nx.store_el2 (f := ratC) (a := fun q => .int .i64 q.num) (b := fun q => .int .i64 q.den) (A := some ⟨b7, 0, none⟩) (l := rl q.cnt (pf q s i)) (i := k) (z := xn) 1 rfl rfl rfl (fun _ => rfl) rfl rfl rfl rfl (by rw [rl_len]; exact hk) hk ?_ | refine Nx.so ?_ | refine Nx.sb (fun bx => ?_) | refine Nx.sa (fun A2 c2 => ?_))
      | refine Nx.za ?_ | refine Nx.zr (fun hc => ?_) (fun hc => ?_)
      | ((with_reducible refine Nx.is_mix ?_); first | refine Nx.m_quiet rfl rfl rfl rfl rfl (by first | exact QRun.opr rfl | exact QRun.idx (A := ta.Ar) (i := i) (sz := 1) rfl rfl rfl rfl him hAr | exact QRun.load rfl rfl (r3 _ _) | exact QRun.idx (A := (ta.ra i).1) (i := q.N) (sz := 2) rfl rfl rfl rfl (by omega) hra | exact QRun.loads rfl rfl rfl (r4 _ _) rfl | exact QRun.idx (A := some ⟨b7, 0, none⟩) (i := k) (sz := 2) rfl rfl rfl rfl hk rfl) ?_ | refine Nx.m_quiet_do rfl rfl rfl rfl rfl rfl rfl (by first | exact QRun.opr rfl | exact QRun.idx (A := ta.Ar) (i := i) (sz := 1) rfl rfl rfl rfl him hAr | exact QRun.load rfl rfl (r3 _ _) | exact QRun.idx (A := (ta.ra i).1) (i := q.N) (sz := 2) rfl rfl rfl rfl (by omega) hra | exact QRun.loads rfl rfl rfl (r4 _ _) rfl | exact QRun.idx (A := some ⟨b7, 0, none⟩) (i := k) (sz := 2) rfl rfl rfl rfl hk rfl) ?_ | refine Nx.m ?_ | refine Nx.zm ?_ | refine Nx.zt (fun hc => ?_) (fun hc => ?_))
      | refine Nx.zx ?_ | fail
    exact Nx.again (i + 1) him (by omega) ⟨rfl, rfl, rfl, rfl, rfl, trivial⟩ (by rw [← hset]; (exact Ent.auto))
  · rw [if_neg hk] at hpf
    repeat' first
      | ((with_reducible refine Nx.is_wp ?_); first | refine Nx.wo ?_ | refine Nx.p_drawF (id := 1) rfl [2, 3, 4, 5, 0, 1] [0, 1] [6, 7] _ rfl rfl (by kernel_rfl) (by kernel_rfl) rfl PanicOk.auto (Ent.refl _) ?_ | refine Nx.p_drawF (id := 6) rfl [0, 1, 2, 3, 4, 5, 6, 7, 8, 9, 10, 11, 12, 13] [10] [14] _ rfl rfl (by kernel_rfl) (by kernel_rfl) rfl PanicOk.auto (Ent.refl _) ?_ | refine Nx.zp (fun hc => ?_) (fun hc => ?_))
      | (refine Nx.zo ?_; first | refine Nx.opr rfl rfl ?_ | refine Nx.indexAddr_nat (A := ta.Ab) (i := i) (sz := 1) rfl rfl rfl rfl rfl him hAb ?_ | refine Nx.load rfl rfl rfl (r1 _ _) ?_ | refine Nx.so ?_ | refine Nx.sb (fun bx => ?_) | refine Nx.sa (fun A2 c2 => ?_))
      | refine Nx.za ?_ | refine Nx.zr (fun hc => ?_) (fun hc => ?_)
      | refine Nx.zq ?_ | refine Nx.zu (fun hc => ?_) (fun hc => ?_)
      | refine Nx.zx ?_ | fail
    exact Nx.again (i + 1) him (by omega) ⟨rfl, rfl, rfl, rfl, rfl, trivial⟩ (by rw [hpf]; (exact Ent.auto))
end Go.Proofs.YtpcnapidlhpbkaaGreatDoor
namespace Go.Proofs.YtpcnapidlhpbkaaGreatDoor
open Go.Eng Go.Sol
attribute [local irreducible] opK wpList Code.wp Exit.then Exit.inBlock fnPost bodyPost Nx Calls Oper.wp Rd Rds Wr Ent Stars Blk Again Vec FnSpec wpMix QRun Stop Upto wpAt
def bigQ (q : EqR) : Bool := decide (1000 < q.2)
def chkB (n : Int) (l : List EqR) (k : Int) : Int := if ¬(1 ≤ n ∧ n ≤ 10) ∨ validB n l = false then 55 else if 10 < l.length then 1 else if l.any bigQ = true ∨ ¬(0 ≤ k ∧ k < n) then 2 else 0
theorem chkB_ok {n : Int} {l : List EqR} {k : Int} (h : chkB n l k = 0) : BEq n.toNat l ∧ 0 ≤ k ∧ k < n := by
  unfold chkB at h
  by_cases h1 : ¬(1 ≤ n ∧ n ≤ 10) ∨ validB n l = false
  · rw [if_pos h1] at h; exact absurd h (by decide)
  rw [if_neg h1] at h
  by_cases h2 : 10 < l.length
  · rw [if_pos h2] at h; exact absurd h (by decide)
  rw [if_neg h2] at h
  by_cases h3 : l.any bigQ = true ∨ ¬(0 ≤ k ∧ k < n)
  · rw [if_pos h3] at h; exact absurd h (by decide)
  have hn : 1 ≤ n ∧ n ≤ 10 := Decidable.byContradiction fun hh => h1 (.inl hh)
  have hk : 0 ≤ k ∧ k < n := Decidable.byContradiction fun hh => h3 (.inr hh)
  have hv : validB n l = true := by
    cases hh : validB n l with
    | true => rfl
    | false => exact absurd (.inr hh) h1
  refine ⟨⟨by omega, by omega, (valid_good hv).2.2, fun q hq => Int.not_lt.1 fun hlt => h3 (.inl (List.any_eq_true.2 ⟨q, hq, decide_eq_true hlt⟩))⟩, hk⟩
set_option maxRecDepth 10000 in
theorem big_spec (q : EqR) (I : PH) : FnSpec Tryz.prog 109 [.agg #[.slice q.1.1 q.1.2.2.length q.1.2.1, .int .i64 q.2]] I [] (fun v R' => v = .bool (bigQ q) ∧ R' = []) := by
  refine FnSpec.enterP Tryz.func109 rfl Tryz.ntmps109 rfl fun w F => ?_
  repeat' first
    | ((with_reducible refine Nx.is_wp ?_); first | refine Nx.wo ?_ | refine Nx.zp (fun hc => ?_) (fun hc => ?_))
    | (refine Nx.zo ?_; first | refine Nx.opr rfl rfl ?_ | refine Nx.so ?_ | refine Nx.sb (fun bx => ?_) | refine Nx.sa (fun A2 c2 => ?_))
    | refine Nx.za ?_ | refine Nx.zr (fun hc => ?_) (fun hc => ?_)
    | refine Nx.zq ?_ | refine Nx.zu (fun hc => ?_) (fun hc => ?_)
    | refine Nx.zx ?_ | fail
  exact Nx.ret_fn rfl [] ⟨rfl, rfl⟩ (by (exact Ent.auto))
set_option maxRecDepth 10000 in
theorem IndexFuncB_spec (A : Option Addr) (c : Nat) (l : List EqR) (I : PH) (hl : Eqs I A c l) :
    FnSpec Tryz.prog 162 [.slice A l.length c, .func (.func 109) #[] #[]] I [] (fun v R' => ∃ i : Int, v = .int .i64 i ∧ decide (0 ≤ i) = l.any bigQ ∧ R' = []) := by
  have hlen := hl.len
  refine FnSpec.enterP Tryz.func162 rfl Tryz.ntmps162 rfl fun w F => ?_
  repeat' first
    | ((with_reducible refine Nx.is_wp ?_); first | refine Nx.wo ?_ | refine Nx.zp (fun hc => ?_) (fun hc => ?_))
    | (refine Nx.zo ?_; first | refine Nx.opr rfl rfl ?_ | refine Nx.so ?_ | refine Nx.sb (fun bx => ?_) | refine Nx.sa (fun A2 c2 => ?_))
    | refine Nx.za ?_ | refine Nx.zr (fun hc => ?_) (fun hc => ?_)
    | refine Nx.zq ?_ | refine Nx.zu (fun hc => ?_) (fun hc => ?_)
    | refine Nx.zx ?_ | fail
  refine Nx.p_loop (σ := Nat) (fun k => [(0, .slice A l.length c), (1, .func (.func 109) #[] #[]), (7, .int .i64 l.length), (8, .int .i64 (k : Int))])
    (fun _ => [F]) (fun k => k ≤ l.length ∧ (l.take k).any bigQ = false) (fun k => l.length - k) 0 rfl ⟨Nat.zero_le _, by simp⟩ ⟨rfl, rfl, rfl, rfl, trivial⟩ (Ent.refl _) ?_
  rintro k ⟨hk, hall⟩
  by_cases hlt : k < l.length
  · have hmem := getD_memQ hlt
    have hsn := take_snocQ hlt
    have hrds : ∀ (W : World) (R : List Res), Rds W I R ((ad A).add (k * 2)) (eqC (l.getD k default)) := fun W R => hl.outer.rds hlt
    generalize l.getD k default = q at hmem hsn hrds
    have hW := big_spec q I
    cases hr : bigQ q with
    | false =>
      rw [hr] at hW
      repeat' first
        | ((with_reducible refine Nx.is_wp ?_); first | refine Nx.wo ?_ | refine Nx.zp (fun hc => ?_) (fun hc => ?_))
        | (refine Nx.zo ?_; first | refine Nx.opr rfl rfl ?_ | refine Nx.indexAddr_nat rfl rfl rfl rfl rfl (by omega) (hl.outer.isSome (by omega) (by omega)) ?_ | refine Nx.loads rfl rfl rfl rfl (hrds _ _) rfl ?_ | refine Nx.callv rfl rfl rfl (by kernel_rfl) rfl hW ?_ | refine Nx.so ?_ | refine Nx.sb (fun bx => ?_) | refine Nx.sa (fun A2 c2 => ?_))
        | refine Nx.za ?_ | refine Nx.zr (fun hc => ?_) (fun hc => ?_)
        | refine Nx.zq ?_ | refine Nx.zu (fun hc => ?_) (fun hc => ?_)
        | refine Nx.zx ?_ | fail
      exact Nx.again (k + 1) ⟨hlt, by rw [hsn, List.any_append, hall]; simp [hr]⟩ (by omega) ⟨rfl, rfl, rfl, rfl, trivial⟩ (Ent.refl _)
    | true =>
      rw [hr] at hW
      repeat' first
        | ((with_reducible refine Nx.is_wp ?_); first | refine Nx.wo ?_ | refine Nx.zp (fun hc => ?_) (fun hc => ?_))
        | (refine Nx.zo ?_; first | refine Nx.opr rfl rfl ?_ | refine Nx.indexAddr_nat rfl rfl rfl rfl rfl (by omega) (hl.outer.isSome (by omega) (by omega)) ?_ | refine Nx.loads rfl rfl rfl rfl (hrds _ _) rfl ?_ | refine Nx.callv rfl rfl rfl (by kernel_rfl) rfl hW ?_ | refine Nx.so ?_ | refine Nx.sb (fun bx => ?_) | refine Nx.sa (fun A2 c2 => ?_))
        | refine Nx.za ?_ | refine Nx.zr (fun hc => ?_) (fun hc => ?_)
        | refine Nx.zq ?_ | refine Nx.zu (fun hc => ?_) (fun hc => ?_)
        | refine Nx.zx ?_ | fail
      refine Nx.ret_fn rfl [] ⟨(k : Int), rfl, ?_, rfl⟩ (by (exact Ent.auto))
      rw [List.any_eq_true.2 ⟨q, hmem, hr⟩]
      simp
  · obtain rfl : k = l.length := by omega
    rw [List.take_length] at hall
    repeat' first
      | ((with_reducible refine Nx.is_wp ?_); first | refine Nx.wo ?_ | refine Nx.zp (fun hc => ?_) (fun hc => ?_))
      | (refine Nx.zo ?_; first | refine Nx.opr rfl rfl ?_ | refine Nx.so ?_ | refine Nx.sb (fun bx => ?_) | refine Nx.sa (fun A2 c2 => ?_))
      | refine Nx.za ?_ | refine Nx.zr (fun hc => ?_) (fun hc => ?_)
      | refine Nx.zq ?_ | refine Nx.zu (fun hc => ?_) (fun hc => ?_)
      | refine Nx.zx ?_ | fail
    exact Nx.ret_fn rfl [] ⟨-1, rfl, by rw [hall]; rfl, rfl⟩ (by (exact Ent.auto))
set_option maxRecDepth 10000 in
theorem ContainsFuncB_spec (A : Option Addr) (c : Nat) (l : List EqR) (I : PH) (hl : Eqs I A c l) :
    FnSpec Tryz.prog 97 [.slice A l.length c, .func (.func 109) #[] #[]] I [] (fun v R' => v = .bool (l.any bigQ) ∧ R' = []) := by
  have hI := IndexFuncB_spec A c l I hl
  refine FnSpec.enterP Tryz.func97 rfl Tryz.ntmps97 rfl fun w F => ?_
  repeat' first
    | ((with_reducible refine Nx.is_wp ?_); first | refine Nx.wo ?_ | refine Nx.zp (fun hc => ?_) (fun hc => ?_))
    | (refine Nx.zo ?_; first | refine Nx.opr rfl rfl ?_ | (refine Nx.call (Rpre := []) rfl rfl rfl (by kernel_rfl) rfl hI (Ent.refl _) ?_; rintro _ _ ⟨i, rfl, hi, rfl⟩) | refine Nx.so ?_ | refine Nx.sb (fun bx => ?_) | refine Nx.sa (fun A2 c2 => ?_))
    | refine Nx.za ?_ | refine Nx.zr (fun hc => ?_) (fun hc => ?_)
    | refine Nx.zq ?_ | refine Nx.zu (fun hc => ?_) (fun hc => ?_)
    | refine Nx.zx ?_ | fail
  exact Nx.ret_fn rfl [] ⟨by rw [← hi], rfl⟩ (by (exact Ent.auto))
set_option maxRecDepth 10000 in
theorem bcheck_spec (n : Int) (A : Option Addr) (c : Nat) (l : List EqR) (k : Int) (I : PH) (hl : Eqs I A c l) :
    FnSpec Tryz.prog 54 [.int .i64 n, .slice A l.length c, .int .i64 k] I [] (fun v R' => v = .int .i64 (chkB n l k) ∧ R' = []) := by
  have hlen := hl.len
  have hV := Valid_spec n A c l I hl
  have hC := ContainsFuncB_spec A c l I hl
  unfold chkB
  refine FnSpec.enterP Tryz.func54 rfl Tryz.ntmps54 rfl fun w F => ?_
  by_cases h1 : 1 ≤ n
  case neg =>
    rw [if_pos (.inl (by omega))]
    repeat' first
      | ((with_reducible refine Nx.is_wp ?_); first | refine Nx.wo ?_ | refine Nx.zp (fun hc => ?_) (fun hc => ?_))
      | (refine Nx.zo ?_; first | refine Nx.opr rfl rfl ?_ | refine Nx.so ?_ | refine Nx.sb (fun bx => ?_) | refine Nx.sa (fun A2 c2 => ?_))
      | refine Nx.za ?_ | refine Nx.zr (fun hc => ?_) (fun hc => ?_)
      | refine Nx.zq ?_ | refine Nx.zu (fun hc => ?_) (fun hc => ?_)
      | refine Nx.zx ?_ | fail
    exact Nx.ret_fn rfl [] ⟨rfl, rfl⟩ (by (exact Ent.auto))
  by_cases h2 : n ≤ 10
  case neg =>
    rw [if_pos (.inl (by omega))]
    repeat' first
      | ((with_reducible refine Nx.is_wp ?_); first | refine Nx.wo ?_ | refine Nx.zp (fun hc => ?_) (fun hc => ?_))
      | (refine Nx.zo ?_; first | refine Nx.opr rfl rfl ?_ | refine Nx.so ?_ | refine Nx.sb (fun bx => ?_) | refine Nx.sa (fun A2 c2 => ?_))
      | refine Nx.za ?_ | refine Nx.zr (fun hc => ?_) (fun hc => ?_)
      | refine Nx.zq ?_ | refine Nx.zu (fun hc => ?_) (fun hc => ?_)
      | refine Nx.zx ?_ | fail
    exact Nx.ret_fn rfl [] ⟨rfl, rfl⟩ (by (exact Ent.auto))
  cases hv : validB n l with
  | false =>
    rw [hv] at hV
    rw [if_pos (.inr rfl)]
    repeat' first
      | ((with_reducible refine Nx.is_wp ?_); first | refine Nx.wo ?_ | refine Nx.zp (fun hc => ?_) (fun hc => ?_))
      | (refine Nx.zo ?_; first | refine Nx.opr rfl rfl ?_ | refine Nx.callv rfl rfl rfl (by kernel_rfl) rfl hV ?_ | refine Nx.so ?_ | refine Nx.sb (fun bx => ?_) | refine Nx.sa (fun A2 c2 => ?_))
      | refine Nx.za ?_ | refine Nx.zr (fun hc => ?_) (fun hc => ?_)
      | refine Nx.zq ?_ | refine Nx.zu (fun hc => ?_) (fun hc => ?_)
      | refine Nx.zx ?_ | fail
    exact Nx.ret_fn rfl [] ⟨rfl, rfl⟩ (by (exact Ent.auto))
  | true =>
    rw [hv] at hV
    rw [if_neg (by rintro (h | h); exact h ⟨h1, h2⟩; cases h)]
    by_cases h3 : l.length ≤ 10
    case neg =>
      rw [if_pos (by omega)]
      repeat' first
        | ((with_reducible refine Nx.is_wp ?_); first | refine Nx.wo ?_ | refine Nx.zp (fun hc => ?_) (fun hc => ?_))
        | (refine Nx.zo ?_; first | refine Nx.opr rfl rfl ?_ | refine Nx.callv rfl rfl rfl (by kernel_rfl) rfl hV ?_ | refine Nx.so ?_ | refine Nx.sb (fun bx => ?_) | refine Nx.sa (fun A2 c2 => ?_))
        | refine Nx.za ?_ | refine Nx.zr (fun hc => ?_) (fun hc => ?_)
        | refine Nx.zq ?_ | refine Nx.zu (fun hc => ?_) (fun hc => ?_)
        | refine Nx.zx ?_ | fail
      exact Nx.ret_fn rfl [] ⟨rfl, rfl⟩ (by (exact Ent.auto))
    rw [if_neg (by omega)]
    cases hb : l.any bigQ with
    | true =>
      rw [hb] at hC
      rw [if_pos (.inl rfl)]
      repeat' first
        | ((with_reducible refine Nx.is_wp ?_); first | refine Nx.wo ?_ | refine Nx.zp (fun hc => ?_) (fun hc => ?_))
        | (refine Nx.zo ?_; first | refine Nx.opr rfl rfl ?_ | refine Nx.callv rfl rfl rfl (by kernel_rfl) rfl hV ?_ | refine Nx.callv rfl rfl rfl (by kernel_rfl) rfl hC ?_ | refine Nx.so ?_ | refine Nx.sb (fun bx => ?_) | refine Nx.sa (fun A2 c2 => ?_))
        | refine Nx.za ?_ | refine Nx.zr (fun hc => ?_) (fun hc => ?_)
        | refine Nx.zq ?_ | refine Nx.zu (fun hc => ?_) (fun hc => ?_)
        | refine Nx.zx ?_ | fail
      exact Nx.ret_fn rfl [] ⟨rfl, rfl⟩ (by (exact Ent.auto))
    | false =>
      rw [hb] at hC
      by_cases h4 : 0 ≤ k
      case neg =>
        rw [if_pos (.inr (by omega))]
        repeat' first
          | ((with_reducible refine Nx.is_wp ?_); first | refine Nx.wo ?_ | refine Nx.zp (fun hc => ?_) (fun hc => ?_))
          | (refine Nx.zo ?_; first | refine Nx.opr rfl rfl ?_ | refine Nx.callv rfl rfl rfl (by kernel_rfl) rfl hV ?_ | refine Nx.callv rfl rfl rfl (by kernel_rfl) rfl hC ?_ | refine Nx.so ?_ | refine Nx.sb (fun bx => ?_) | refine Nx.sa (fun A2 c2 => ?_))
          | refine Nx.za ?_ | refine Nx.zr (fun hc => ?_) (fun hc => ?_)
          | refine Nx.zq ?_ | refine Nx.zu (fun hc => ?_) (fun hc => ?_)
          | refine Nx.zx ?_ | fail
        exact Nx.ret_fn rfl [] ⟨rfl, rfl⟩ (by (exact Ent.auto))
      by_cases h5 : k < n
      case neg =>
        rw [if_pos (.inr (by omega))]
        repeat' first
          | ((with_reducible refine Nx.is_wp ?_); first | refine Nx.wo ?_ | refine Nx.zp (fun hc => ?_) (fun hc => ?_))
          | (refine Nx.zo ?_; first | refine Nx.opr rfl rfl ?_ | refine Nx.callv rfl rfl rfl (by kernel_rfl) rfl hV ?_ | refine Nx.callv rfl rfl rfl (by kernel_rfl) rfl hC ?_ | refine Nx.so ?_ | refine Nx.sb (fun bx => ?_) | refine Nx.sa (fun A2 c2 => ?_))
          | refine Nx.za ?_ | refine Nx.zr (fun hc => ?_) (fun hc => ?_)
          | refine Nx.zq ?_ | refine Nx.zu (fun hc => ?_) (fun hc => ?_)
          | refine Nx.zx ?_ | fail
        exact Nx.ret_fn rfl [] ⟨rfl, rfl⟩ (by (exact Ent.auto))
      rw [if_neg (by rintro (h | h); cases h; exact h ⟨h4, h5⟩)]
      repeat' first
        | ((with_reducible refine Nx.is_wp ?_); first | refine Nx.wo ?_ | refine Nx.zp (fun hc => ?_) (fun hc => ?_))
        | (refine Nx.zo ?_; first | refine Nx.opr rfl rfl ?_ | refine Nx.callv rfl rfl rfl (by kernel_rfl) rfl hV ?_ | refine Nx.callv rfl rfl rfl (by kernel_rfl) rfl hC ?_ | refine Nx.so ?_ | refine Nx.sb (fun bx => ?_) | refine Nx.sa (fun A2 c2 => ?_))
        | refine Nx.za ?_ | refine Nx.zr (fun hc => ?_) (fun hc => ?_)
        | refine Nx.zq ?_ | refine Nx.zu (fun hc => ?_) (fun hc => ?_)
        | refine Nx.zx ?_ | fail
      exact Nx.ret_fn rfl [] ⟨rfl, rfl⟩ (by (exact Ent.auto))
end Go.Proofs.YtpcnapidlhpbkaaGreatDoor
namespace Go.Proofs.YtpcnapidlhpbkaaGreatDoor
open Go.Eng Go.Sol
attribute [local irreducible] opK wpList Code.wp Exit.then Exit.inBlock fnPost bodyPost Nx Calls Oper.wp Rd Rds Wr Ent Stars Blk Again Vec FnSpec wpMix QRun Stop Upto wpAt
theorem outer_frozen {m N1 : Nat} {ra : Nat → Option Addr × Nat} {A : Option Addr} {c : Nat} {m2 I2 : PH} (hm : PH.le m2 I2) (h : outR m N1 ra A c m2) : SliceOf (fun i : Nat => Value.slice (ra i).1 N1 (ra i).2) I2 A c (List.range m) := by
  refine Vec.sliceOf (t := 25) hm ?_
  rw [List.length_range]
  exact h
end Go.Proofs.YtpcnapidlhpbkaaGreatDoor
namespace Go.Proofs.YtpcnapidlhpbkaaGreatDoor
open Go.Eng Go.Sol
attribute [local irreducible] opK wpList Code.wp Exit.then Exit.inBlock fnPost bodyPost Nx Calls Oper.wp Rd Rds Wr Ent Stars Blk Again Vec FnSpec wpMix QRun Stop Upto wpAt
theorem cs2_cost (q : Bl.Eqs) (cell : Nat) (up : Bool) : rl q.N (aimF q (Bl.sgn up) 0 (some cell)) = rl q.N (Bl.cst (Bl.cost2 cell up)) := rl_congr fun k hk => by
  show (if k = cell then ((Bl.sgn up : Int) : Rat) else if q.cnt ≤ k ∧ k < q.N then ((0 : Int) : Rat) else 0) = (((if k = cell then Bl.sgn up else 0) : Int) : Rat)
  by_cases h : k = cell
  · rw [if_pos h, if_pos h]
  · rw [if_neg h, if_neg h]
    split <;> rfl
theorem wt_gain {q : Bl.Eqs} {cell j : Nat} {up : Bool} {s : Bl.Tab} (hc : cell < q.cnt) : ((-(Bl.sgn up) : Int) : Rat) * Bl.gain q.m (Bl.cst (Bl.cost2 cell up)) s (q.cnt + j) = Bl.wt q cell up s j := by
  unfold Bl.wt Bl.gain
  have h : Bl.cst (Bl.cost2 cell up) (q.cnt + j) = 0 := by
    unfold Bl.cst Bl.cost2
    rw [if_neg (by omega)]; rfl
  rw [h, Rat.intCast_neg]
  grind
abbrev proofV (cell : Int) (up : Bool) (x : Rat) (p w : Value) : Value := .agg #[.int .i64 cell, .bool up, .int .i64 x.num, .int .i64 x.den, p, w]
abbrev noProof : Value := .agg #[.int .i64 0, .bool false, .int .i64 0, .int .i64 0, .slice none 0 0, .slice none 0 0]
def ProvePost (q : Bl.Eqs) (cell : Nat) (up : Bool) (v : Value) (R' : List Res) : Prop :=
  ((¬∃ x, Bl.Feas q x) ∧ v = .tuple #[noProof, .int .i64 52] ∧ R' = []) ∨
  ((∃ x, Bl.Feas q x) ∧ (up = true ∧ ∀ j, j < q.m → q.cell j cell = false) ∧ v = .tuple #[noProof, .int .i64 21] ∧ R' = []) ∨
  ((∃ x, Bl.Feas q x) ∧ ¬(up = true ∧ ∀ j, j < q.m → q.cell j cell = false) ∧ ∃ (x w : Nat → Rat) (D : Int) (b' : Nat) (A' : Option Addr) (c' : Nat), Bl.PrOk q cell up x w ∧ Bl.PrSz q x w D ∧ Bl.IsOpt q cell up (x cell) ∧
    v = .tuple #[proofV cell up (x cell) (.slice (some ⟨b', 0, none⟩) q.cnt q.cnt) (.slice A' q.m c'), .int .i64 0] ∧ R' = [ratsR (some ⟨b', 0, none⟩) q.cnt q.cnt (rl q.cnt x), ratsR A' q.m c' (rl q.m w)])
set_option maxRecDepth 10000 in
theorem prove_rest (w : World) (F : Res) (n : Nat) (_vl : Value) (ml : Nat) (Al : Option Addr) (cl' : Nat) (q : Bl.Eqs) (hq : q.Small) (hqn : q.cnt = n) (hqm : q.m = ml) (hc1 : 1 ≤ n) (cell : Nat) (up : Bool) (hcell : cell < n) (I I2 : PH) (hI2 : PH.le I I2) (hT : TabI I2) (b b8 : Nat) (ta : TA) (s : Bl.Tab) (hs : Bl.Rdy q s) (hfe : ∃ x, Bl.Feas q x) (vc : Value)
    (ho : SliceOf (fun i : Nat => Value.slice (ta.ra i).1 (q.N + 1) (ta.ra i).2) I2 ta.Ar ta.cr (List.range q.m)) (hra0 : ∀ i, i < q.m → (ta.ra i).1.isSome = true ∧ (ta.ra i).2 = q.N + 1) (hAb : 0 < q.m → ta.Ab.isSome = true) :
    Nx ⟨Tryz.prog, 66, w⟩ [(0, .int .i64 (n : Int)), (1, .slice Al ml cl'), (2, .int .i64 (cell : Int)), (3, .bool up), (8, .pointer (some ⟨b8, 0, none⟩)), (10, .pointer (some ⟨b, 0, none⟩)), (11, .int .i64 (Bl.sgn up))] I2
      [Blk b 193 (tabV q ta vc), basisR q ta s.B, trowsR q ta s.T, Blk b8 27 [.int .i64 0, .bool false, .int .i64 0, .int .i64 0, .slice none 0 0, .slice none 0 0], F]
      (Code.wp Tryz.prog (cr (cr (cr (cr (cr (bodyOf Tryz.f55)))))) (fnPost Tryz.prog Tryz.f55 I F w (fun v R' => ProvePost q cell up v R'))) := by
  subst hqn hqm
  have h1 := hq.cnt
  have h2 := hq.m
  have hsg : -1 ≤ Bl.sgn up ∧ Bl.sgn up ≤ 1 := by cases up <;> decide
  have hra := fun i hi => (hra0 i hi).1
  have hA := aim_spec b q hq hc1 (.slice ta.Ar q.m ta.cr) (.slice ta.Ab q.m ta.cb) vc (some cell) (Bl.sgn up) 0 (fun c h => by cases h; exact hcell) hsg (by decide) I2
  have hsq := hsg
  generalize hsv : Bl.sgn up = sg at hA hsq ⊢
  repeat' first
    | ((with_reducible refine Nx.is_wp ?_); first | refine Nx.p_stopr 8 rfl ?_ | refine Nx.wo ?_ | refine Nx.p_drawF (id := 15) rfl [0, 1, 2, 3, 5, 6, 7, 8, 4, 9, 10, 11] [4, 9, 10, 11] [12, 13, 14] _ rfl rfl (by kernel_rfl) (by kernel_rfl) rfl PanicOk.auto (Ent.refl _) ?_ | refine Nx.zp (fun hc => ?_) (fun hc => ?_))
    | (refine Nx.zo ?_; first | refine Nx.opr rfl rfl ?_ | (refine Nx.call rfl rfl rfl (by kernel_rfl) rfl hA (by (exact Ent.auto)) ?_; rintro _ _ ⟨bc, rfl⟩) | refine Nx.so ?_ | refine Nx.sb (fun bx => ?_) | refine Nx.sa (fun A2 c2 => ?_))
    | refine Nx.za ?_ | refine Nx.zr (fun hc => ?_) (fun hc => ?_)
    | refine Nx.zq ?_ | refine Nx.zu (fun hc => ?_) (fun hc => ?_)
    | refine Nx.zx ?_ | fail
  refine Nx.unstop ?_
  refine Nx.ent (R' := [ratsR (some ⟨bc, 0, none⟩) q.N q.N (rl q.N (Bl.cst (Bl.cost2 cell up))), Blk b 193 (tabV q ta (.slice (some ⟨bc, 0, none⟩) q.N q.N)), basisR q ta s.B, trowsR q ta s.T, Blk b8 27 [.int .i64 0, .bool false, .int .i64 0, .int .i64 0, .slice none 0 0, .slice none 0 0], F]) (by rw [← cs2_cost, hsv]; (exact Ent.auto)) ?_
  refine Nx.freezeAt 0 rfl fun I3 m3 hI3 hm3 hf3 => ?_
  have hcost : Rats I3 (some ⟨bc, 0, none⟩) q.N (rl q.N (Bl.cst (Bl.cost2 cell up))) := Vec.sliceN (t := 24) hm3 (by rw [rl_len]; exact hf3) fun _ _ => rfl
  replace ho := ho.mono hI3
  replace hT := tab_mono hI3 hT
  have hI3' := hI2.trans hI3
  have hIm := improve_spec b q hq ta s hs.inv.inv (Bl.cost2 cell up) (Bl.cost2_bd cell up) (some ⟨bc, 0, none⟩) q.N I3 hT hcost ho hra hAb
  repeat' first
    | ((with_reducible refine Nx.is_wp ?_); first | refine Nx.p_stopr 10 rfl ?_ | refine Nx.wo ?_ | refine Nx.p_drawF (id := 15) rfl [0, 1, 2, 3, 5, 6, 7, 8, 4, 9, 10, 11] [4, 9, 10, 11] [12, 13, 14] _ rfl rfl (by kernel_rfl) (by kernel_rfl) rfl PanicOk.auto (Ent.refl _) ?_ | refine Nx.zp (fun hc => ?_) (fun hc => ?_))
    | (refine Nx.zo ?_; first | refine Nx.opr rfl rfl ?_ | refine Nx.makeFunc (v1 := [.pointer (some ⟨b, 0, none⟩)]) (v2 := []) rfl rfl rfl ?_ | (refine Nx.call rfl rfl rfl (by kernel_rfl) rfl hIm (by (exact Ent.auto)) ?_; rintro _ _ ⟨s2, (_ | _), rfl, hrun, rfl⟩) | refine Nx.so ?_ | refine Nx.sb (fun bx => ?_) | refine Nx.sa (fun A2 c2 => ?_))
    | refine Nx.za ?_ | refine Nx.zr (fun hc => ?_) (fun hc => ?_)
    | refine Nx.zq ?_ | refine Nx.zu (fun hc => ?_) (fun hc => ?_)
    | refine Nx.zx ?_ | fail
  · exact Nx.imm_le hI3' (Nx.ret2 rfl (ROne.cell 0 rfl rfl rfl rfl rfl) (ROne.tmp rfl) [] (.inr (.inl ⟨hfe, (Bl.phase2_false hrun hs hcell).1 rfl, rfl, rfl⟩)) (by (exact Ent.auto)))
  have hs2 := hrun.rdy hs
  have hopt := Bl.phase2_true hs2 hcell (hrun.end_t rfl)
  have hok := Bl.proof_ok hs2 hcell (hrun.end_t rfl)
  obtain ⟨D, hsz⟩ := Bl.proof_sz (cell := cell) (up := up) hq hs2
  have hnf : ¬(up = true ∧ ∀ j, j < q.m → q.cell j cell = false) := fun h => Bool.noConfusion ((Bl.phase2_false hrun hs hcell).2 h)
  refine Nx.unstop ?_
  refine Nx.ent (R' := [basisR q ta s2.B, trowsR q ta s2.T, Blk b 193 (tabV q ta (.slice (some ⟨bc, 0, none⟩) q.N q.N)), Blk b8 27 [.int .i64 0, .bool false, .int .i64 0, .int .i64 0, .slice none 0 0, .slice none 0 0], F]) (by (exact Ent.auto)) ?_
  refine Nx.ent (Ent.stars (B := [basisR q ta s2.B, trowsR q ta s2.T])) ?_
  refine Nx.freezeAt 0 rfl fun I4 m4 hI4 hm4 hf4 => ?_
  have hTab : TabQ I4 q ta s2 := tabq_of hm4 hf4 (ho.mono hI4)
  replace hT := tab_mono hI4 hT
  replace hcost := hcost.mono hI4
  have hI4' := hI3'.trans hI4
  have hP := point_spec b q hq hc1 ta s2 hs2.inv.inv (.slice (some ⟨bc, 0, none⟩) q.N q.N) I4 hTab
  have hG := fun col hcol => gain_spec b q hq ta s2 hs2.inv.inv (Bl.cost2 cell up) (Bl.cost2_bd cell up) (some ⟨bc, 0, none⟩) q.N I4 hT hTab hcost col hcol
  obtain ⟨xc, hxc⟩ : ∃ xc, xc = Bl.pt q.m q.N s2 cell := ⟨_, rfl⟩
  have hrx : ∀ (W : World) (R : List Res) (b' k : Nat), nthL R k = some (ratsR (some ⟨b', 0, none⟩) q.cnt q.cnt (rl q.cnt (Bl.pt q.m q.N s2))) → Rds W I4 R ((ad (some ⟨b', 0, none⟩)).add (cell * 2)) (ratC xc) := fun W R b' k hk => by
    have := Rds.vecN (W := W) (I := I4) (f := ratC) k ratC_len hk (by rw [rl_len]; exact hcell)
    rwa [rl_at _ hcell, ← hxc] at this
  repeat' first
    | ((with_reducible refine Nx.is_wp ?_); first | refine Nx.wo ?_ | refine Nx.p_drawF (id := 15) rfl [0, 1, 2, 3, 5, 6, 7, 8, 4, 9, 10, 11] [4, 9, 10, 11] [12, 13, 14] _ rfl rfl (by kernel_rfl) (by kernel_rfl) rfl PanicOk.auto (Ent.refl _) ?_ | refine Nx.zp (fun hc => ?_) (fun hc => ?_))
    | (refine Nx.zo ?_; first | refine Nx.opr rfl rfl ?_ | (refine Nx.call rfl rfl rfl (by kernel_rfl) rfl hP (by (exact Ent.auto)) ?_; rintro _ _ ⟨b', rfl, rfl⟩) | refine Nx.indexAddr_nat (A := some ⟨b', 0, none⟩) (i := cell) (sz := 2) rfl rfl rfl rfl rfl hcell rfl ?_ | refine Nx.loads (vs := ratC xc) rfl rfl rfl rfl (by first | exact hrx _ _ _ 0 rfl | exact hrx _ _ _ 1 rfl | exact hrx _ _ _ 2 rfl) rfl ?_ | refine Nx.so ?_ | refine Nx.sb (fun bx => ?_) | refine Nx.sa (fun A2 c2 => ?_))
    | refine Nx.za ?_ | refine Nx.zr (fun hc => ?_) (fun hc => ?_)
    | refine Nx.zq ?_ | refine Nx.zu (fun hc => ?_) (fun hc => ?_)
    | refine Nx.zx ?_ | fail
  revert bx; intro b12
  refine Nx.p_loop (σ := Nat × (Option Addr × Nat)) (fun z => [(0, .int .i64 (q.cnt : Int)), (8, .pointer (some ⟨b8, 0, none⟩)), (10, .pointer (some ⟨b, 0, none⟩)), (11, .int .i64 sg), (12, .pointer (some ⟨b12, 0, none⟩)), (46, .int .i64 (q.m : Int)), (47, .int .i64 (z.1 : Int))])
    (fun z => [Blk b12 27 [.int .i64 (cell : Int), .bool up, .int .i64 xc.num, .int .i64 xc.den, .slice (some ⟨b', 0, none⟩) q.cnt q.cnt, .slice z.2.1 z.1 z.2.2], ratsR z.2.1 z.1 z.2.2 (rl z.1 (Bl.wt q cell up s2)), ratsR (some ⟨b', 0, none⟩) q.cnt q.cnt (rl q.cnt (Bl.pt q.m q.N s2)), Blk b 193 (tabV q ta (.slice (some ⟨bc, 0, none⟩) q.N q.N)), Blk b8 27 [.int .i64 0, .bool false, .int .i64 0, .int .i64 0, .slice none 0 0, .slice none 0 0], F]) (fun z => z.1 ≤ q.m) (fun z => q.m - z.1) (0, (none, 0)) rfl (Nat.zero_le _) ⟨rfl, rfl, rfl, rfl, rfl, rfl, rfl, trivial⟩ ((Ent.vec_nil 24 2 _).trans (by (exact Ent.auto))) ?_
  rintro ⟨i, Aw, cw⟩ hi
  have hi : i ≤ q.m := hi
  dsimp only
  by_cases him : i < q.m
  case neg =>
    obtain rfl : i = q.m := by omega
    repeat' first
      | ((with_reducible refine Nx.is_wp ?_); first | refine Nx.wo ?_ | refine Nx.zp (fun hc => ?_) (fun hc => ?_))
      | (refine Nx.zo ?_; first | refine Nx.opr rfl rfl ?_ | refine Nx.so ?_ | refine Nx.sb (fun bx => ?_) | refine Nx.sa (fun A2 c2 => ?_))
      | refine Nx.za ?_ | refine Nx.zr (fun hc => ?_) (fun hc => ?_)
      | refine Nx.zq ?_ | refine Nx.zu (fun hc => ?_) (fun hc => ?_)
      | refine Nx.zx ?_ | fail
    exact Nx.imm_le hI4' (Nx.ret2 rfl (ROne.cell 0 rfl rfl rfl rfl rfl) (ROne.tmp rfl) [_, _] (.inr (.inr ⟨hfe, hnf, _, _, D, b', Aw, cw, hok, hsz, hopt, by rw [← hxc], rfl⟩)) (by (exact Ent.auto)))
  have hNi : q.cnt + i < q.N := by show q.cnt + i < q.cnt + q.m; omega
  have hGi := hG (q.cnt + i) hNi
  have hgw := wt_gain (j := i) (up := up) (s := s2) hcell
  have hrs : (rl (i + 1) (Bl.wt q cell up s2)).flatMap ratC = (rl i (Bl.wt q cell up s2)).flatMap ratC ++ ratC (Bl.wt q cell up s2 i) := by rw [rl_succ, List.flatMap_append, List.flatMap_cons, List.flatMap_nil, List.append_nil]
  obtain ⟨P, hP1, hP2⟩ := hsz.wgt i him
  have hle := hsz.le
  have hRw : RB (Bl.wt q cell up s2 i) := Bl.rb_of hsz.ne hP1 (by omega) (by omega)
  obtain ⟨D2, hD2⟩ := hs2.inv.inv.num hq
  have hRg : RB (Bl.gain q.m (Bl.cst (Bl.cost2 cell up)) s2 (q.cnt + i)) := hD2.rbs hq hNi (fun i => Bl.cost2 cell up (s2.B i)) (fun i => Bl.cost2_bd _ _ _) (Bl.cost2 cell up (q.cnt + i)) (Bl.cost2_bd _ _ _) (Nat.le_refl _)
  rw [hsv] at hgw
  obtain ⟨wv, hwv⟩ : ∃ wv, wv = Bl.wt q cell up s2 i := ⟨_, rfl⟩
  rw [← hwv] at hgw hrs hRw
  have hrs' : (rl (i + 1) (Bl.wt q cell up s2)).flatMap ratC = (rl i (Bl.wt q cell up s2)).flatMap ratC ++ [Value.int .i64 wv.num, Value.int .i64 wv.den] := hrs
  generalize Bl.gain q.m (Bl.cst (Bl.cost2 cell up)) s2 (q.cnt + i) = gv at hGi hgw hRg
  have hM := btimes_spec (((-sg : Int)) : Rat) gv (RB_int (by omega)) hRg (by rw [hgw]; exact hRw) I4 hT
  rw [hgw] at hM
  have hni : (q.cnt : Int) + (i : Int) = ((q.cnt + i : Nat) : Int) := by omega
  repeat' first
    | ((with_reducible refine Nx.is_wp ?_); first | refine Nx.wo ?_ | refine Nx.p_drawF (id := 15) rfl [0, 1, 2, 3, 5, 6, 7, 8, 4, 9, 10, 11] [4, 9, 10, 11] [12, 13, 14] _ rfl rfl (by kernel_rfl) (by kernel_rfl) rfl PanicOk.auto (Ent.refl _) ?_ | refine Nx.zp (fun hc => ?_) (fun hc => ?_))
    | (refine Nx.zo ?_; first | refine Nx.opr rfl rfl ?_ | refine Nx.callv rfl rfl rfl (by kernel_rfl) rfl (bwhole_spec _ _) ?_ | (refine Nx.call rfl rfl rfl (by kernel_rfl) rfl hGi (by (exact Ent.auto)) ?_; rintro _ _ ⟨rfl, rfl⟩) | refine Nx.callv rfl rfl rfl (by kernel_rfl) rfl hM ?_ | refine Nx.so ?_ | refine Nx.sb (fun bx => ?_) | refine Nx.sa (fun A2 c2 => ?_))
    | refine Nx.za ?_ | refine Nx.zr (fun hc => ?_) (fun hc => ?_)
    | ((with_reducible refine Nx.is_mix ?_); first | refine Nx.m_quiet rfl rfl rfl rfl rfl (by first | exact QRun.opr rfl | exact QRun.neg rfl (by unfold I64; omega) | exact QRun.bin rfl rfl (run_addK (by unfold I64; omega) hni)) ?_ | refine Nx.m_quiet_do rfl rfl rfl rfl rfl rfl rfl (by first | exact QRun.opr rfl | exact QRun.neg rfl (by unfold I64; omega) | exact QRun.bin rfl rfl (run_addK (by unfold I64; omega) hni)) ?_ | refine Nx.m ?_ | refine Nx.zm ?_ | refine Nx.zt (fun hc => ?_) (fun hc => ?_))
    | refine Nx.zx ?_ | fail
  exact Nx.again (i + 1, (A2, c2)) him (by dsimp only; omega) ⟨rfl, rfl, rfl, rfl, rfl, rfl, rfl, trivial⟩ (by rw [← hrs']; (exact Ent.auto))
set_option maxRecDepth 10000 in
theorem bprove_spec (n : Nat) (A : Option Addr) (c : Nat) (l : List EqR) (cell : Nat) (up : Bool) (I : PH) (hl : Eqs I A c l) (hb : BEq n l) (hcell : cell < n) (hT : TabI I) :
    FnSpec Tryz.prog 55 [.int .i64 (n : Int), .slice A l.length c, .int .i64 (cell : Int), .bool up] I [] (fun v R' => ProvePost (toQ n l) cell up v R') := by
  have hlen := hl.len
  have hS := bstart_spec n A c l I hl hb
  have hcnt : 1 ≤ (toQ n l).cnt := hb.cnt.1
  have hsg : -1 ≤ Bl.sgn up ∧ Bl.sgn up ≤ 1 := by cases up <;> decide
  refine FnSpec.enterP Tryz.func55 rfl Tryz.ntmps55 rfl fun w F => ?_
  repeat' first
    | ((with_reducible refine Nx.is_wp ?_); first | refine Nx.p_stopr 7 rfl ?_ | refine Nx.wo ?_ | refine Nx.zp (fun hc => ?_) (fun hc => ?_))
    | (refine Nx.zo ?_; first | refine Nx.opr rfl rfl ?_ | (refine Nx.call rfl rfl rfl (by kernel_rfl) rfl hS (by (exact Ent.auto)) ?_; rintro _ _ ⟨b, ta, rfl, hra, hAb, rfl⟩; refine Nx.freezeAt 3 rfl fun I2 m2 hI2 hm2 hf => ?_) | (refine Nx.call rfl rfl rfl (by kernel_rfl) rfl (possible_spec b (toQ n l) hb.small hcnt ta (.slice none 0 0) I2 (tab_mono hI2 hT) (outer_frozen hm2 hf) hra hAb) (by (exact Ent.auto)) ?_; rintro _ _ ⟨s, (_ | _), vc, rfl, hbo, hrdy, rfl⟩) | refine Nx.so ?_ | refine Nx.sb (fun bx => ?_) | refine Nx.sa (fun A2 c2 => ?_))
    | refine Nx.za ?_ | refine Nx.zr (fun hc => ?_) (fun hc => ?_)
    | refine Nx.zq ?_ | refine Nx.zu (fun hc => ?_) (fun hc => ?_)
    | refine Nx.zx ?_ | fail
  · exact Nx.imm_le hI2 (Nx.ret2 rfl (ROne.cell 0 rfl rfl rfl rfl rfl) (ROne.tmp rfl) [] (.inl ⟨fun h => Bool.noConfusion (hbo.2 h), rfl, rfl⟩) (by (exact Ent.auto)))
  all_goals
    subst hc
    refine Nx.unstop ?_
    refine Nx.weak ?_ ?_ (prove_rest w F n (.slice A l.length c) l.length A c (toQ n l) hb.small rfl rfl hb.cnt.1 cell _ hcell I I2 hI2 (tab_mono hI2 hT) b bx ta s (hrdy rfl) (hbo.1 rfl) vc (outer_frozen hm2 hf) hra hAb)
    · exact ⟨rfl, rfl, rfl, rfl, rfl, rfl, rfl, trivial⟩
    · (exact Ent.auto)
end Go.Proofs.YtpcnapidlhpbkaaGreatDoor
namespace Go.Bl
def ls : List Rat → Rat
  | [] => 0
  | x :: l => x + ls l
theorem ls_app : ∀ a b : List Rat, ls (a ++ b) = ls a + ls b
  | [], b => by rw [List.nil_append, ls]; grind
  | x :: a, b => by rw [List.cons_append, ls, ls, ls_app a b]; grind
theorem ls_asc (f : Nat → Rat) : ∀ (n : Nat) (L : List Int), L.Pairwise (· < ·) → (∀ x ∈ L, 0 ≤ x ∧ x < n) → ls (L.map fun x => f x.toNat) = sm n fun k => if decide ((k : Int) ∈ L) then f k else 0
  | 0, L, _, h => by
    cases L with
    | nil => rfl
    | cons x L => have := h x List.mem_cons_self; omega
  | n + 1, L, hp, h => by
    rw [sm]
    by_cases hn : (n : Int) ∈ L
    · obtain ⟨A, B, rfl⟩ := List.append_of_mem hn
      have hB : B = [] := by
        cases B with
        | nil => rfl
        | cons y B =>
          have h1 := (List.pairwise_append.1 hp).2.1
          have h2 := (List.pairwise_cons.1 h1).1 y List.mem_cons_self
          have h3 := h y (by simp)
          omega
      subst hB
      have hA : ∀ x ∈ A, 0 ≤ x ∧ x < (n : Int) := fun x hx => by
        have h1 := (List.pairwise_append.1 hp).2.2 x hx (n : Int) List.mem_cons_self
        have h2 := h x (by simp [hx])
        omega
      rw [List.map_append, ls_app, ls_asc f n A (List.pairwise_append.1 hp).1 hA, if_pos (by simp), List.map_cons, List.map_nil, ls, ls, Rat.add_zero, Int.toNat_natCast]
      congr 1
      refine sm_congr fun k hk => ?_
      have : ((k : Int) ∈ A ++ [(n : Int)]) ↔ (k : Int) ∈ A := by
        rw [List.mem_append, List.mem_singleton]
        exact ⟨fun h => h.elim id fun h => by omega, .inl⟩
      rw [decide_eq_decide.2 this]
    · have hA : ∀ x ∈ L, 0 ≤ x ∧ x < (n : Int) := fun x hx => by
        have h2 := h x hx
        have : x ≠ (n : Int) := fun he => hn (he ▸ hx)
        omega
      rw [ls_asc f n L hp hA, if_neg (by simpa using hn), Rat.add_zero]
end Go.Bl
namespace Go.Bl
theorem IsOpt.low {q : Eqs} {cell : Nat} {v : Rat} (h : IsOpt q cell false v) {x : Nat → Rat} (hx : Feas q x) : v ≤ x cell := h.bound x hx
theorem IsOpt.high {q : Eqs} {cell : Nat} {v : Rat} (h : IsOpt q cell true v) {x : Nat → Rat} (hx : Feas q x) : x cell ≤ v := h.bound x hx
theorem IsOpt.free {q : Eqs} {cell : Nat} {v : Rat} (h : IsOpt q cell false v) (hcell : cell < q.cnt) (hn : ∀ j, j < q.m → q.cell j cell = false) : v = 0 := by
  obtain ⟨x, hx, rfl⟩ := h.at_
  have hx' : Feas q fun k => if k = cell then 0 else x k := ⟨fun k hk => by
    split
    · exact Rat.le_refl
    · exact hx.pos k hk, fun i hi => by
    rw [← hx.eqn i hi]
    refine sm_congr fun k _ => ?_
    by_cases hk : k = cell
    · rw [hk, hn i hi]; rfl
    · rw [if_neg hk]⟩
  have h1 := h.low hx'
  rw [if_pos rfl] at h1
  exact Rat.le_antisymm h1 (hx.pos cell hcell)
end Go.Bl
namespace Go.Proofs.YtpcnapidlhpbkaaGreatDoor
open Go.Eng Go.Sol
attribute [local irreducible] opK wpList Code.wp Exit.then Exit.inBlock fnPost bodyPost Nx Calls Oper.wp Rd Rds Wr Ent Stars Blk Again Vec FnSpec wpMix QRun Stop Upto wpAt
theorem asc_len : ∀ {xs : List Int} {a : Int} {n : Nat}, xs.Pairwise (· < ·) → (∀ x ∈ xs, a ≤ x ∧ x < a + n) → xs.length ≤ n
  | [], _, _, _, _ => Nat.zero_le _
  | x :: xs, a, n, h, hb => by
    have h1 := hb x List.mem_cons_self
    have h2 := List.pairwise_cons.1 h
    have := asc_len (xs := xs) (a := x + 1) (n := (a + n - x - 1).toNat) h2.2 fun y hy => by
      have h3 := h2.1 y hy
      have h4 := hb y (List.mem_cons_of_mem _ hy)
      omega
    rw [List.length_cons]
    omega
end Go.Proofs.YtpcnapidlhpbkaaGreatDoor
namespace Go.Proofs.YtpcnapidlhpbkaaGreatDoor
open Go.Eng Go.Sol
attribute [local irreducible] opK wpList Code.wp Exit.then Exit.inBlock fnPost bodyPost Nx Calls Oper.wp Rd Rds Wr Ent Stars Blk Again Vec FnSpec wpMix QRun Stop Upto wpAt
theorem flat_snoc (l : List Rat) (y : Rat) : (l ++ [y]).flatMap ratC = l.flatMap ratC ++ [Value.int .i64 y.num, Value.int .i64 y.den] := by rw [List.flatMap_append, List.flatMap_cons, List.flatMap_nil, List.append_nil]; rfl
end Go.Proofs.YtpcnapidlhpbkaaGreatDoor
namespace Go.Proofs.YtpcnapidlhpbkaaGreatDoor
open Go.Eng Go.Sol
attribute [local irreducible] opK wpList Code.wp Exit.then Exit.inBlock fnPost bodyPost Nx Calls Oper.wp Rd Rds Wr Ent Stars Blk Again Vec FnSpec wpMix QRun Stop Upto wpAt
attribute [local irreducible] wpFork
abbrev IvR := Rat × Rat × Bool
def ivC (x : IvR) : List Value := [.int .i64 x.1.num, .int .i64 x.1.den, .int .i64 x.2.1.num, .int .i64 x.2.1.den, .bool x.2.2]
def Unb (q : Bl.Eqs) (k : Nat) : Prop := ∀ j, j < q.m → q.cell j k = false
structure IvOk (q : Bl.Eqs) (k : Nat) (x : IvR) : Prop where
  rlow : RB x.1
  rhigh : RB x.2.1
  low : Bl.IsOpt q k false x.1
  opn : x.2.2 = true ↔ Unb q k
  top : x.2.2 = true → x.2.1 = 0
  high : x.2.2 = false → Bl.IsOpt q k true x.2.1
set_option maxRecDepth 10000 in
theorem bounds11 (w : World) (Q : Exit → Act → World → Prop) (hQ : PanicOk Q) (RR : List Res) (b9 : Nat) (n : Int) (v1 v7 v8 v19 v20 pv wv : Value) (cell : Int) (up : Bool) (x : Rat) (I : PH)
    (h : ∀ b11, Nx ⟨Tryz.prog, 59, w⟩ [(0, .int .i64 n), (1, v1), (7, v7), (8, v8), (11, .pointer (some ⟨b11, 0, none⟩)), (19, v19), (20, v20)] I
      (Blk b11 50 [.int .i64 x.num, .int .i64 x.den, .int .i64 0, .int .i64 1, .bool false] :: Blk b9 27 [.int .i64 cell, .bool up, .int .i64 x.num, .int .i64 x.den, pv, wv] :: RR) (Q .normal)) :
    Nx ⟨Tryz.prog, 59, w⟩ [(0, .int .i64 n), (1, v1), (7, v7), (8, v8), (9, .pointer (some ⟨b9, 0, none⟩)), (19, v19), (20, v20)] I
      (Blk b9 27 [.int .i64 cell, .bool up, .int .i64 x.num, .int .i64 x.den, pv, wv] :: RR) (Code.wp Tryz.prog (cl (cr (cr (cr (cl (cl (cr (cr (cl (cl (cr (cl (cr (cr (cr (bodyOf Tryz.f17)))))))))))))))) Q) := by
  have hW0 : FnSpec Tryz.prog 56 [.int .i64 0] I [] (fun v R' => v = .agg #[.int .i64 0, .int .i64 1] ∧ R' = []) := bwhole_spec 0 I
  refine Nx.p_fork (id := 11) rfl [0, 1] [5] [2, 3, 4, 5] [Blk b9 27 [.int .i64 cell, .bool up, .int .i64 x.num, .int .i64 x.den, pv, wv]] 4 rfl rfl (by kernel_rfl) (by kernel_rfl) (by kernel_rfl) hQ (by (exact Ent.auto)) ?_
  repeat' first
    | ((with_reducible refine Nx.is_wp ?_); first | refine Nx.wo ?_ | refine Nx.p_poolF (id := 11) rfl [0, 1, 2, 3] [2] [] [5] [5] [⟨4, 11, 50, _⟩] rfl rfl (by kernel_rfl) (by kernel_rfl) (by decide) (PoolFit.cons ⟨⟨_, _, _, rfl⟩, rfl, rfl⟩ PoolFit.nil) PanicOk.auto (Ent.eraseK 0 _) ?_ | refine Nx.zp (fun hc => ?_) (fun hc => ?_))
    | ((first | refine Nx.at_op rfl rfl ?_ | refine Nx.m_loud rfl rfl rfl ?_ | refine Nx.at_do rfl rfl rfl rfl ?_ | refine Nx.m_loud_do rfl rfl rfl rfl rfl ?_ | refine GoodF.loud_ rfl rfl rfl rfl (fun ex X => ?_)); first | refine Nx.opr rfl rfl ?_ | refine Nx.loads rfl rfl rfl rfl (Rds.cut 0 2 rfl rfl) rfl ?_ | refine Nx.so ?_ | refine Nx.sb (fun bx => ?_) | refine Nx.sa (fun A2 c2 => ?_))
    | refine Nx.za ?_ | refine Nx.zr (fun hc => ?_) (fun hc => ?_)
    | ((with_reducible refine Nx.is_mix ?_); first | refine Nx.m_quiet rfl rfl rfl rfl rfl (by first | exact QRun.opr rfl | exact QRun.loads rfl rfl rfl (Rds.cut 0 2 rfl rfl) rfl) ?_ | refine Nx.m_quiet_do rfl rfl rfl rfl rfl rfl rfl (by first | exact QRun.opr rfl | exact QRun.loads rfl rfl rfl (Rds.cut 0 2 rfl rfl) rfl) ?_ | refine Nx.m ?_ | refine Nx.zm ?_ | refine Nx.zt (fun hc => ?_) (fun hc => ?_))
    | ((with_reducible refine GoodF.is ?_); first | refine GoodF.quiet rfl rfl rfl rfl rfl rfl (by first | exact QRun.opr rfl | exact QRun.loads rfl rfl rfl (Rds.cut 0 2 rfl rfl) rfl |  exact QRun.std) ?_ | refine GoodF.done1 rfl (fun bx => ?_) | refine GoodF.done2 rfl (fun bx by_ => ?_) | refine GoodF.done3 rfl (fun bx by_ bz => ?_))
    | ((fail_if_success (with_reducible refine Nx.is_at ?_)); (fail_if_success (with_reducible refine Nx.is_wp ?_)); (fail_if_success (with_reducible refine Nx.is_mix ?_)); first | refine Nx.ex ?_ | refine Nx.pool_nextF 0 rfl (by exact Ent.auto) ?_ | refine Nx.pool_nextF 1 rfl (by exact Ent.auto) ?_ | refine Nx.pool_nextF 2 rfl (by exact Ent.auto) ?_ | refine Nx.pool_nextF 3 rfl (by exact Ent.auto) ?_)
  refine Nx.fork2 (i := 2) (j := 4) (by kernel_rfl) rfl rfl rfl rfl ?_ ?_
  · refine Nx.callv rfl rfl rfl (by kernel_rfl) rfl hW0 ?_
    refine Nx.mix_S (by (exact Ent.auto)) ?_
    refine Nx.fork2 (i := 3) (j := 4) (by kernel_rfl) rfl rfl rfl rfl ?_ ?_
    · refine Nx.so ?_
      refine Nx.mix_S (by (exact Ent.auto)) ?_
      refine Nx.fork1 (i := 4) (by kernel_rfl) rfl rfl ?_
      refine Nx.sb (fun b11 => ?_)
      refine Nx.mix_S (by (exact Ent.auto)) ?_
      refine Nx.fork_fin (by kernel_rfl) rfl ?_
      repeat' first
        | ((with_reducible refine Nx.is_wp ?_); first | refine Nx.wo ?_ | refine Nx.zp (fun hc => ?_) (fun hc => ?_))
        | (refine Nx.zo ?_; first | refine Nx.opr rfl rfl ?_ | refine Nx.so ?_ | refine Nx.sb (fun bx => ?_) | refine Nx.sa (fun A2 c2 => ?_))
        | refine Nx.za ?_ | refine Nx.zr (fun hc => ?_) (fun hc => ?_)
        | refine Nx.zq ?_ | refine Nx.zu (fun hc => ?_) (fun hc => ?_)
        | refine Nx.zx ?_ | fail
      exact Nx.weak (by exact ⟨rfl, rfl, rfl, rfl, rfl, rfl, rfl, trivial⟩) (by (exact Ent.auto)) (h b11)
    · refine Nx.sb (fun b11 => ?_)
      refine Nx.mix_S (by (exact Ent.auto)) ?_
      refine Nx.fork1 (i := 3) (by kernel_rfl) rfl rfl ?_
      refine Nx.so ?_
      refine Nx.mix_S (by (exact Ent.auto)) ?_
      refine Nx.fork_fin (by kernel_rfl) rfl ?_
      repeat' first
        | ((with_reducible refine Nx.is_wp ?_); first | refine Nx.wo ?_ | refine Nx.zp (fun hc => ?_) (fun hc => ?_))
        | (refine Nx.zo ?_; first | refine Nx.opr rfl rfl ?_ | refine Nx.so ?_ | refine Nx.sb (fun bx => ?_) | refine Nx.sa (fun A2 c2 => ?_))
        | refine Nx.za ?_ | refine Nx.zr (fun hc => ?_) (fun hc => ?_)
        | refine Nx.zq ?_ | refine Nx.zu (fun hc => ?_) (fun hc => ?_)
        | refine Nx.zx ?_ | fail
      exact Nx.weak (by exact ⟨rfl, rfl, rfl, rfl, rfl, rfl, rfl, trivial⟩) (by (exact Ent.auto)) (h b11)
  · refine Nx.sb (fun b11 => ?_)
    refine Nx.mix_S (by (exact Ent.auto)) ?_
    refine Nx.fork1 (i := 2) (by kernel_rfl) rfl rfl ?_
    refine Nx.callv rfl rfl rfl (by kernel_rfl) rfl hW0 ?_
    refine Nx.mix_S (by (exact Ent.auto)) ?_
    refine Nx.fork1 (i := 3) (by kernel_rfl) rfl rfl ?_
    refine Nx.so ?_
    refine Nx.mix_S (by (exact Ent.auto)) ?_
    refine Nx.fork_fin (by kernel_rfl) rfl ?_
    repeat' first
      | ((with_reducible refine Nx.is_wp ?_); first | refine Nx.wo ?_ | refine Nx.zp (fun hc => ?_) (fun hc => ?_))
      | (refine Nx.zo ?_; first | refine Nx.opr rfl rfl ?_ | refine Nx.so ?_ | refine Nx.sb (fun bx => ?_) | refine Nx.sa (fun A2 c2 => ?_))
      | refine Nx.za ?_ | refine Nx.zr (fun hc => ?_) (fun hc => ?_)
      | refine Nx.zq ?_ | refine Nx.zu (fun hc => ?_) (fun hc => ?_)
      | refine Nx.zx ?_ | fail
    exact Nx.weak (by exact ⟨rfl, rfl, rfl, rfl, rfl, rfl, rfl, trivial⟩) (by (exact Ent.auto)) (h b11)
set_option maxRecDepth 10000 in
theorem bBounds_spec (n : Int) (A : Option Addr) (c : Nat) (l : List EqR) (I : PH) (hl : Eqs I A c l) (hT : TabI I) :
    FnSpec Tryz.prog 17 [.int .i64 n, .slice A l.length c] I []
      (fun v R' => (chkB n l 0 ≠ 0 → v = .tuple #[.slice none 0 0, .int .i64 (chkB n l 0)] ∧ R' = []) ∧ (chkB n l 0 = 0 →
        ((¬∃ x, Bl.Feas (toQ n.toNat l) x) ∧ v = .tuple #[.slice none 0 0, .int .i64 52] ∧ R' = []) ∨
        ((∃ x, Bl.Feas (toQ n.toNat l) x) ∧ ∃ (A' : Option Addr) (c' : Nat) (L : List IvR), L.length = n.toNat ∧ (∀ k, k < n.toNat → IvOk (toQ n.toNat l) k (L.getD k default)) ∧
          v = .tuple #[.slice A' L.length c', .int .i64 0] ∧ R' = [Vec 50 5 A' L.length c' (L.flatMap ivC)]))) := by
  have hlen := hl.len
  have hC := bcheck_spec n A c l 0 I hl
  refine FnSpec.enterP Tryz.func17 rfl Tryz.ntmps17 rfl fun w F => ?_
  by_cases h0 : chkB n l 0 = 0
  case neg =>
    generalize chkB n l 0 = e at hC h0 ⊢
    repeat' first
      | ((with_reducible refine Nx.is_wp ?_); first | refine Nx.wo ?_ | refine Nx.zp (fun hc => ?_) (fun hc => ?_))
      | (refine Nx.zo ?_; first | refine Nx.opr rfl rfl ?_ | refine Nx.callv rfl rfl rfl (by kernel_rfl) rfl hC ?_ | refine Nx.so ?_ | refine Nx.sb (fun bx => ?_) | refine Nx.sa (fun A2 c2 => ?_))
      | refine Nx.za ?_ | refine Nx.zr (fun hc => ?_) (fun hc => ?_)
      | refine Nx.zq ?_ | refine Nx.zu (fun hc => ?_) (fun hc => ?_)
      | refine Nx.zx ?_ | fail
    exact Nx.ret_fn rfl [] ⟨fun _ => ⟨rfl, rfl⟩, fun h => absurd h h0⟩ (by (exact Ent.auto))
  obtain ⟨hb, _, h1⟩ := chkB_ok h0
  rw [h0] at hC ⊢
  obtain ⟨N, rfl⟩ : ∃ N : Nat, n = (N : Int) := ⟨n.toNat, by omega⟩
  rw [Int.toNat_natCast] at hb ⊢
  have hN := hb.cnt
  have hP := fun (k : Nat) (hk : k < N) (up : Bool) => bprove_spec N A c l k up I hl hb hk hT
  repeat' first
    | ((with_reducible refine Nx.is_wp ?_); first | refine Nx.wo ?_ | refine Nx.zp (fun hc => ?_) (fun hc => ?_))
    | (refine Nx.zo ?_; first | refine Nx.opr rfl rfl ?_ | refine Nx.callv rfl rfl rfl (by kernel_rfl) rfl hC ?_ | refine Nx.so ?_ | refine Nx.sb (fun bx => ?_) | refine Nx.sa (fun A2 c2 => ?_))
    | refine Nx.za ?_ | refine Nx.zr (fun hc => ?_) (fun hc => ?_)
    | refine Nx.zq ?_ | refine Nx.zu (fun hc => ?_) (fun hc => ?_)
    | refine Nx.zx ?_ | fail
  refine Nx.p_loop (σ := Nat × (Option Addr × Nat) × List IvR) (fun z => [(0, .int .i64 (N : Int)), (1, .slice A l.length c), (7, .slice z.2.1.1 z.2.2.length z.2.1.2), (19, .int .i64 (N : Int)), (20, .int .i64 (z.1 : Int))])
    (fun z => [Vec 50 5 z.2.1.1 z.2.2.length z.2.1.2 (z.2.2.flatMap ivC), F]) (fun z => z.1 ≤ N ∧ z.2.2.length = z.1 ∧ (∀ k, k < z.1 → IvOk (toQ N l) k (z.2.2.getD k default)) ∧ (0 < z.1 → ∃ x, Bl.Feas (toQ N l) x)) (fun z => N - z.1) (0, (none, 0), []) rfl ⟨Nat.zero_le _, rfl, fun k hk => absurd hk (Nat.not_lt_zero _), fun hk => absurd hk (Nat.lt_irrefl _)⟩ ⟨rfl, rfl, rfl, rfl, rfl, trivial⟩ ((Ent.vec_nil 50 5 _).trans (by (exact Ent.auto))) ?_
  rintro ⟨k, ⟨Ao, co⟩, L⟩ ⟨hk, hL, hok, hfe⟩
  dsimp only at hk hL hok hfe ⊢
  by_cases hkN : k < N
  case neg =>
    obtain rfl : k = N := by omega
    repeat' first
      | ((with_reducible refine Nx.is_wp ?_); first | refine Nx.wo ?_ | refine Nx.zp (fun hc => ?_) (fun hc => ?_))
      | (refine Nx.zo ?_; first | refine Nx.opr rfl rfl ?_ | refine Nx.so ?_ | refine Nx.sb (fun bx => ?_) | refine Nx.sa (fun A2 c2 => ?_))
      | refine Nx.za ?_ | refine Nx.zr (fun hc => ?_) (fun hc => ?_)
      | refine Nx.zq ?_ | refine Nx.zu (fun hc => ?_) (fun hc => ?_)
      | refine Nx.zx ?_ | fail
    exact Nx.ret_fn rfl [_] ⟨fun h => absurd rfl h, fun _ => .inr ⟨hfe (by omega), Ao, co, L, hL, hok, rfl, rfl⟩⟩ (by (exact Ent.auto))
  have hP0 := hP k hkN false
  have hP1 := hP k hkN true
  repeat' first
    | ((with_reducible refine Nx.is_wp ?_); first | refine Nx.p_stopr 11 rfl ?_ | refine Nx.wo ?_ | refine Nx.zp (fun hc => ?_) (fun hc => ?_))
    | (refine Nx.zo ?_; first | refine Nx.opr rfl rfl ?_ | (refine Nx.call rfl rfl rfl (by kernel_rfl) rfl hP0 (by (exact Ent.auto)) ?_; rintro v R' (⟨hf, rfl, rfl⟩ | ⟨hf, ⟨⟨⟩, _⟩, rfl, rfl⟩ | ⟨hf, hu, x, w', D, b', A', c', g1, g2, g3, rfl, rfl⟩)) | refine Nx.so ?_ | refine Nx.sb (fun bx => ?_) | refine Nx.sa (fun A2 c2 => ?_))
    | refine Nx.za ?_ | refine Nx.zr (fun hc => ?_) (fun hc => ?_)
    | refine Nx.zq ?_ | refine Nx.zu (fun hc => ?_) (fun hc => ?_)
    | refine Nx.zx ?_ | fail
  · exact Nx.ret_fn rfl [] ⟨fun h => absurd rfl h, fun _ => .inl ⟨hf, rfl, rfl⟩⟩ (by (exact Ent.auto))
  refine Nx.p_go rfl ?_
  revert bx; intro b9
  have hkq : k < (toQ N l).cnt := hkN
  have hR1 : RB (x k) := by
    obtain ⟨p, e1, e2⟩ := g2.pnt k hkq
    have := g2.le
    exact Bl.rb_of g2.ne e1 (by omega) (by omega)
  obtain ⟨xl, hxl⟩ : ∃ xl, xl = x k := ⟨_, rfl⟩
  rw [← hxl] at hR1 g3 ⊢
  refine Nx.weak (by exact ⟨rfl, rfl, rfl, rfl, rfl, rfl, rfl, trivial⟩) ?_ (bounds11 w _ PanicOk.auto [Vec 50 5 Ao L.length co (L.flatMap ivC), F] b9 (N : Int) (.slice A l.length c) (.slice Ao L.length co) (.int .i64 (k : Int)) (.int .i64 (N : Int)) (.int .i64 (k : Int)) (.slice (some ⟨b', 0, none⟩) (toQ N l).cnt (toQ N l).cnt) (.slice A' (toQ N l).m c') (k : Int) false xl I fun b11 => ?_)
  · (exact Ent.auto)
  have hlast : ∀ y : IvR, IvOk (toQ N l) k y → ∀ j, j < k + 1 → IvOk (toQ N l) j ((L ++ [y]).getD j default) := fun y hy j hj => by
    rw [List.getD_eq_getElem?_getD]
    by_cases hjk : j < k
    · rw [List.getElem?_append_left (by omega), ← List.getD_eq_getElem?_getD]
      exact hok j hjk
    · obtain rfl : j = L.length := by omega
      rw [List.getElem?_append_right (Nat.le_refl _), Nat.sub_self, hL]
      exact hy
  have hfl : ∀ y : IvR, (L ++ [y]).flatMap ivC = L.flatMap ivC ++ [.int .i64 y.1.num, .int .i64 y.1.den, .int .i64 y.2.1.num, .int .i64 y.2.1.den, .bool y.2.2] := fun y => by rw [List.flatMap_append, List.flatMap_cons, List.flatMap_nil, List.append_nil]; rfl
  have hle2 : (L.length : Int) + 1 ≤ 100 := by omega
  repeat' first
    | ((with_reducible refine Nx.is_wp ?_); first | refine Nx.wo ?_ | refine Nx.zp (fun hc => ?_) (fun hc => ?_))
    | (refine Nx.zo ?_; first | refine Nx.opr rfl rfl ?_ | (refine Nx.call rfl rfl rfl (by kernel_rfl) rfl hP1 (by (exact Ent.auto)) ?_; rintro v R' (⟨hf2, rfl, rfl⟩ | ⟨hf2, ⟨_, hu2⟩, rfl, rfl⟩ | ⟨hf2, hu2, x2, w2, D2, b2', A2', c2', k1, k2, k3, rfl, rfl⟩)) | refine Nx.loads rfl rfl rfl rfl (Rds.cut 1 2 rfl rfl) rfl ?_ | refine Nx.append_lit 5 rfl rfl rfl rfl (by kernel_rfl) rfl rfl rfl rfl (by omega) (fun A2 c2 => ?_) | refine Nx.so ?_ | refine Nx.sb (fun bx => ?_) | refine Nx.sa (fun A2 c2 => ?_))
    | refine Nx.za ?_ | refine Nx.zr (fun hc => ?_) (fun hc => ?_)
    | refine Nx.zq ?_ | refine Nx.zu (fun hc => ?_) (fun hc => ?_)
    | refine Nx.zx ?_ | fail
  · exact absurd hf hf2
  · refine Nx.again (k + 1, (A2, c2), L ++ [(xl, 0, true)]) ⟨hkN, by rw [List.length_append, hL]; rfl, hlast _ ⟨hR1, (show RB (0 : Rat) from ⟨by decide, by decide⟩), g3, ⟨fun _ => hu2, fun _ => rfl⟩, fun _ => rfl, fun h => by cases h⟩, fun _ => hf⟩ (by dsimp only; omega) ⟨rfl, rfl, by dsimp only; rw [List.length_append]; rfl, rfl, rfl, trivial⟩ (by dsimp only; rw [hfl, List.length_append]; (exact Ent.auto))
  have hR2 : RB (x2 k) := by
    obtain ⟨p, e1, e2⟩ := k2.pnt k hkq
    have := k2.le
    exact Bl.rb_of k2.ne e1 (by omega) (by omega)
  obtain ⟨xh, hxh⟩ : ∃ xh, xh = x2 k := ⟨_, rfl⟩
  rw [← hxh] at hR2 k3 ⊢
  have hnu : ¬ Unb (toQ N l) k := fun h => hu2 ⟨rfl, h⟩
  exact Nx.again (k + 1, (A2, c2), L ++ [(xl, xh, false)]) ⟨hkN, by rw [List.length_append, hL]; rfl, hlast _ ⟨hR1, hR2, g3, ⟨fun h => (by cases h), fun h => absurd h hnu⟩, fun h => (by cases h), fun _ => k3⟩, fun _ => hf⟩ (by dsimp only; omega) ⟨rfl, rfl, by dsimp only; rw [List.length_append]; rfl, rfl, rfl, trivial⟩ (by dsimp only; rw [hfl, List.length_append]; (exact Ent.auto))
end Go.Proofs.YtpcnapidlhpbkaaGreatDoor
namespace Go.Proofs.YtpcnapidlhpbkaaGreatDoor
open Go.Eng Go.Sol
attribute [local irreducible] opK wpList Code.wp Exit.then Exit.inBlock fnPost bodyPost Nx Calls Oper.wp Rd Rds Wr Ent Stars Blk Again Vec FnSpec wpMix QRun Stop Upto wpAt
set_option maxRecDepth 10000 in
theorem Space_spec8 (b : Nat) (A : Option Addr) (c : Nat) (l : List Int) (k : Nat) (I : PH) (hl : SliceOf (fun x : Int => Value.int .u8 x) I A c l) (hx : ∀ x ∈ l, 0 ≤ x ∧ x < 256) (hk : k ≤ l.length) :
    FnSpec Tryz.prog 62 [.pointer (some ⟨b, 0, none⟩)] I [Blk b 83 [.slice A l.length c, .int .i64 (k : Int)]]
      (fun v R' => ∃ (B : Option Addr) (c' : Nat) (s : List Int) (k' : Nat), v = .agg #[.slice B s.length c'] ∧ (Sizes s ∧ prod s ≤ 8) ∧ k' ≤ l.length ∧ R' = [Vec 3 1 B s.length c' (s.map (Value.int .i64)), Blk b 83 [.slice A l.length c, .int .i64 (k' : Int)]]) := by
  refine FnSpec.enterP Tryz.func62 rfl Tryz.ntmps62 rfl fun w F => ?_
  repeat' first
    | ((with_reducible refine Nx.is_wp ?_); first | refine Nx.wo ?_ | refine Nx.zp (fun hc => ?_) (fun hc => ?_))
    | (refine Nx.zo ?_; first | refine Nx.opr rfl rfl ?_ | refine Nx.so ?_ | refine Nx.sb (fun bx => ?_) | refine Nx.sa (fun A2 c2 => ?_))
    | refine Nx.za ?_ | refine Nx.zr (fun hc => ?_) (fun hc => ?_)
    | refine Nx.zq ?_ | refine Nx.zu (fun hc => ?_) (fun hc => ?_)
    | refine Nx.zx ?_ | fail
  refine Nx.pull 11 rfl ?_
  refine Nx.at_op rfl rfl ?_
  refine Nx.call rfl rfl rfl (by kernel_rfl) rfl (Next_spec b A c l k 9 I hl hx hk (by omega)) (Ent.refl _) ?_
  rintro v R' ⟨r, k', rfl, hr, hk', rfl⟩
  have hr9 : r = 0 ∨ r = 1 ∨ r = 2 ∨ r = 3 ∨ r = 4 ∨ r = 5 ∨ r = 6 ∨ r = 7 ∨ r = 8 := by omega
  rcases hr9 with rfl | rfl | rfl | rfl | rfl | rfl | rfl | rfl | rfl
  all_goals repeat' first
              | ((with_reducible refine Nx.is_wp ?_); first | refine Nx.wo ?_ | refine Nx.zp (fun hc => ?_) (fun hc => ?_))
              | (refine Nx.zo ?_; first | refine Nx.opr rfl rfl ?_ | refine Nx.indexAddr rfl rfl rfl rfl rfl (by decide) (by decide) rfl ?_ | refine Nx.so ?_ | refine Nx.sb (fun bx => ?_) | refine Nx.sa (fun A2 c2 => ?_))
              | refine Nx.za ?_ | refine Nx.zr (fun hc => ?_) (fun hc => ?_)
              | refine Nx.zq ?_ | refine Nx.zu (fun hc => ?_) (fun hc => ?_)
              | refine Nx.zx ?_ | fail
  all_goals refine Nx.blk_vec 0 0 1 rfl rfl (by omega) ?_
  all_goals first
    | (refine Nx.pull 11 rfl ?_; refine Nx.at_op rfl rfl ?_; refine Nx.append_lit 0 rfl rfl rfl rfl (by kernel_rfl) rfl rfl rfl rfl (by omega) (fun A2 c2 => ?_))
    | (refine Nx.pull 10 rfl ?_; refine Nx.at_op rfl rfl ?_; refine Nx.append_lit 0 rfl rfl rfl rfl (by kernel_rfl) rfl rfl rfl rfl (by omega) (fun A2 c2 => ?_))
    | (refine Nx.pull 9 rfl ?_; refine Nx.at_op rfl rfl ?_; refine Nx.append_lit 0 rfl rfl rfl rfl (by kernel_rfl) rfl rfl rfl rfl (by omega) (fun A2 c2 => ?_))
    | (refine Nx.pull 8 rfl ?_; refine Nx.at_op rfl rfl ?_; refine Nx.append_lit 0 rfl rfl rfl rfl (by kernel_rfl) rfl rfl rfl rfl (by omega) (fun A2 c2 => ?_))
    | (refine Nx.pull 7 rfl ?_; refine Nx.at_op rfl rfl ?_; refine Nx.append_lit 0 rfl rfl rfl rfl (by kernel_rfl) rfl rfl rfl rfl (by omega) (fun A2 c2 => ?_))
    | (refine Nx.pull 6 rfl ?_; refine Nx.at_op rfl rfl ?_; refine Nx.append_lit 0 rfl rfl rfl rfl (by kernel_rfl) rfl rfl rfl rfl (by omega) (fun A2 c2 => ?_))
    | (refine Nx.pull 5 rfl ?_; refine Nx.at_op rfl rfl ?_; refine Nx.append_lit 0 rfl rfl rfl rfl (by kernel_rfl) rfl rfl rfl rfl (by omega) (fun A2 c2 => ?_))
    | (refine Nx.pull 4 rfl ?_; refine Nx.at_op rfl rfl ?_; refine Nx.append_lit 0 rfl rfl rfl rfl (by kernel_rfl) rfl rfl rfl rfl (by omega) (fun A2 c2 => ?_))
    | (refine Nx.pull 3 rfl ?_; refine Nx.at_op rfl rfl ?_; refine Nx.append_lit 0 rfl rfl rfl rfl (by kernel_rfl) rfl rfl rfl rfl (by omega) (fun A2 c2 => ?_))
  all_goals refine Nx.pull 11 rfl ?_
  all_goals repeat' first
              | ((with_reducible refine Nx.is_wp ?_); first | refine Nx.wo ?_ | refine Nx.zp (fun hc => ?_) (fun hc => ?_))
              | (refine Nx.zo ?_; first | refine Nx.opr rfl rfl ?_ | refine Nx.so ?_ | refine Nx.sb (fun bx => ?_) | refine Nx.sa (fun A2 c2 => ?_))
              | refine Nx.za ?_ | refine Nx.zr (fun hc => ?_) (fun hc => ?_)
              | refine Nx.zq ?_ | refine Nx.zu (fun hc => ?_) (fun hc => ?_)
              | refine Nx.zx ?_ | fail
  all_goals first
    | (refine Nx.ret_cell 0 rfl rfl rfl rfl rfl rfl [Vec 3 1 _ (0 + 1) _ ([] ++ [.int .i64 2]), _] ⟨_, _, [2], k', rfl, ⟨⟨by decide, by decide, by decide⟩, by decide⟩, hk', rfl⟩ ?_; refine Ent.pick 1 rfl ?_)
    | (refine Nx.ret_cell 0 rfl rfl rfl rfl rfl rfl [Vec 3 1 _ (0 + 1) _ ([] ++ [.int .i64 3]), _] ⟨_, _, [3], k', rfl, ⟨⟨by decide, by decide, by decide⟩, by decide⟩, hk', rfl⟩ ?_; refine Ent.pick 1 rfl ?_)
    | (refine Nx.ret_cell 0 rfl rfl rfl rfl rfl rfl [Vec 3 1 _ (0 + 2) _ ([] ++ [.int .i64 2, .int .i64 2]), _] ⟨_, _, [2, 2], k', rfl, ⟨⟨by decide, by decide, by decide⟩, by decide⟩, hk', rfl⟩ ?_; refine Ent.pick 1 rfl ?_)
    | (refine Nx.ret_cell 0 rfl rfl rfl rfl rfl rfl [Vec 3 1 _ (0 + 2) _ ([] ++ [.int .i64 2, .int .i64 3]), _] ⟨_, _, [2, 3], k', rfl, ⟨⟨by decide, by decide, by decide⟩, by decide⟩, hk', rfl⟩ ?_; refine Ent.pick 1 rfl ?_)
    | (refine Nx.ret_cell 0 rfl rfl rfl rfl rfl rfl [Vec 3 1 _ (0 + 1) _ ([] ++ [.int .i64 4]), _] ⟨_, _, [4], k', rfl, ⟨⟨by decide, by decide, by decide⟩, by decide⟩, hk', rfl⟩ ?_; refine Ent.pick 1 rfl ?_)
    | (refine Nx.ret_cell 0 rfl rfl rfl rfl rfl rfl [Vec 3 1 _ (0 + 3) _ ([] ++ [.int .i64 2, .int .i64 2, .int .i64 2]), _] ⟨_, _, [2, 2, 2], k', rfl, ⟨⟨by decide, by decide, by decide⟩, by decide⟩, hk', rfl⟩ ?_; refine Ent.pick 1 rfl ?_)
    | (refine Nx.ret_cell 0 rfl rfl rfl rfl rfl rfl [Vec 3 1 _ (0 + 2) _ ([] ++ [.int .i64 3, .int .i64 2]), _] ⟨_, _, [3, 2], k', rfl, ⟨⟨by decide, by decide, by decide⟩, by decide⟩, hk', rfl⟩ ?_; refine Ent.pick 1 rfl ?_)
    | (refine Nx.ret_cell 0 rfl rfl rfl rfl rfl rfl [Vec 3 1 _ (0 + 1) _ ([] ++ [.int .i64 6]), _] ⟨_, _, [6], k', rfl, ⟨⟨by decide, by decide, by decide⟩, by decide⟩, hk', rfl⟩ ?_; refine Ent.pick 1 rfl ?_)
    | (refine Nx.ret_cell 0 rfl rfl rfl rfl rfl rfl [Vec 3 1 _ (0 + 2) _ ([] ++ [.int .i64 1, .int .i64 3]), _] ⟨_, _, [1, 3], k', rfl, ⟨⟨by decide, by decide, by decide⟩, by decide⟩, hk', rfl⟩ ?_; refine Ent.pick 1 rfl ?_)
  all_goals (exact Ent.auto)
theorem Space_made8 (b : Nat) (A : Option Addr) (c : Nat) (L : List Int) (k : Nat) (I : PH) (hL : CodesOk I A c L) (hk : k ≤ L.length) :
    FnSpec Tryz.prog 62 [.pointer (some ⟨b, 0, none⟩)] I [CodesR b A c L k]
      (fun v R' => ∃ (B : Option Addr) (c' : Nat) (s : List Int) (k' : Nat), v = .agg #[.slice B s.length c'] ∧ (Sizes s ∧ prod s ≤ 8) ∧ k' ≤ L.length ∧ R' = [Vec 3 1 B s.length c' (s.map (Value.int .i64)), CodesR b A c L k']) := Space_spec8 b A c L k I hL.sl hL.each hk
set_option maxRecDepth 10000 in
theorem Told_made8 (b : Nat) (A : Option Addr) (c : Nat) (L : List Int) (k most n : Nat) (I : PH) (hL : CodesOk I A c L) (hk : k ≤ L.length) (hm : most ≤ 1000) (hn : n ≤ 1000) :
    FnSpec Tryz.prog 20 [.pointer (some ⟨b, 0, none⟩), .int .i64 (most : Int), .int .i64 (n : Int)] I [CodesR b A c L k]
      (fun u R' => ∃ (B : Option Addr) (c' : Nat) (s : List Int) (At : Option Addr) (ct : Nat) (t : List Int) (As : Option Addr) (ca : Nat) (rs : List Rel) (k' : Nat), u = .tuple #[.agg #[.slice B s.length c'], .slice At t.length ct, .slice As rs.length ca] ∧ (Sizes s ∧ prod s ≤ 8) ∧ tabOk s t most ∧ rs.length ≤ n ∧ RelsOk s t rs ∧ k' ≤ L.length ∧ R' = toldR B c' s At ct t As ca rs ++ [CodesR b A c L k']) := by
  refine FnSpec.enterP Tryz.func20 rfl Tryz.ntmps20 rfl fun w F => ?_
  repeat' first
    | ((with_reducible refine Nx.is_wp ?_); first | refine Nx.wo ?_ | refine Nx.zp (fun hc => ?_) (fun hc => ?_))
    | (refine Nx.zo ?_; first | refine Nx.opr rfl rfl ?_ | refine Nx.so ?_ | refine Nx.sb (fun bx => ?_) | refine Nx.sa (fun A2 c2 => ?_))
    | refine Nx.za ?_ | refine Nx.zr (fun hc => ?_) (fun hc => ?_)
    | refine Nx.zq ?_ | refine Nx.zu (fun hc => ?_) (fun hc => ?_)
    | refine Nx.zx ?_ | fail
  revert bx; intro b6
  refine Nx.at_op rfl rfl ?_
  refine Nx.call rfl rfl rfl (by kernel_rfl) rfl (Space_made8 b A c L k I hL hk) (by (exact Ent.auto)) ?_
  rintro _ _ ⟨B, c', s, k1, rfl, ⟨hs, hs8⟩, hk1, rfl⟩
  repeat' first
    | ((with_reducible refine Nx.is_wp ?_); first | refine Nx.wo ?_ | refine Nx.zp (fun hc => ?_) (fun hc => ?_))
    | (refine Nx.zo ?_; first | refine Nx.opr rfl rfl ?_ | refine Nx.so ?_ | refine Nx.sb (fun bx => ?_) | refine Nx.sa (fun A2 c2 => ?_))
    | refine Nx.za ?_ | refine Nx.zr (fun hc => ?_) (fun hc => ?_)
    | refine Nx.zq ?_ | refine Nx.zu (fun hc => ?_) (fun hc => ?_)
    | refine Nx.zx ?_ | fail
  revert bx; intro b9
  refine Nx.at_op rfl rfl ?_
  refine Nx.call rfl rfl rfl (by kernel_rfl) rfl (FnSpec.keep [iR B c' s] fun m I' hle hm' hv => Cells_spec b A B c c' L s k1 most I' (hL.mono hle) hk1 (by obtain ⟨m1, hm1, h1⟩ := Stars.get 0 hv rfl; exact Vec.sliceOf (hm1.trans hm') h1) hs (by omega)) (by (exact Ent.auto)) ?_
  rintro _ _ ⟨_, ⟨bt, t, k2, rfl, htl, hte, hk2, rfl⟩, rfl⟩
  have hT : Table s t := ⟨htl, fun j hj => by have := hte j hj; omega⟩
  repeat' first
    | ((with_reducible refine Nx.is_wp ?_); first | refine Nx.wo ?_ | refine Nx.p_drawF (id := 3) rfl [0, 1, 2, 3, 4, 5, 6, 7, 8, 9] [6, 7] [] _ rfl rfl (by kernel_rfl) (by kernel_rfl) rfl PanicOk.auto ((Ent.eraseK 4 _).trans (Ent.eraseK 2 _)) ?_ | refine Nx.zp (fun hc => ?_) (fun hc => ?_))
    | (refine Nx.zo ?_; first | refine Nx.opr rfl rfl ?_ | (refine Nx.call rfl rfl rfl (by kernel_rfl) rfl (FnSpec.keep [iR B c' s, iR (some ⟨bt, 0, none⟩) t.length t] fun m I' hle hm' hv => Releases_made b A B (some ⟨bt, 0, none⟩) c c' t.length L s t k2 n I' (hL.mono hle) hk2 (by obtain ⟨m1, hm1, h1⟩ := Stars.get 0 hv rfl; exact Vec.sliceOf (hm1.trans hm') h1) hs (by obtain ⟨m1, hm1, h1⟩ := Stars.get 1 hv rfl; exact Vec.sliceOf (hm1.trans hm') h1) hT hn) (by (exact Ent.auto)) ?_; rintro _ _ ⟨_, ⟨As, ca, rs, k3, rfl, hrn, hro, hk3, rfl⟩, rfl⟩) | refine Nx.so ?_ | refine Nx.sb (fun bx => ?_) | refine Nx.sa (fun A2 c2 => ?_))
    | refine Nx.za ?_ | refine Nx.zr (fun hc => ?_) (fun hc => ?_)
    | refine Nx.zq ?_ | refine Nx.zu (fun hc => ?_) (fun hc => ?_)
    | refine Nx.zx ?_ | fail
  exact Nx.ret3 rfl (ROne.cell 0 rfl rfl rfl rfl rfl) (ROne.tmp rfl) (ROne.tmp rfl) [_, _, _, _, _] ⟨B, c', s, _, _, t, As, ca, rs, k3, rfl, ⟨hs, hs8⟩, ⟨htl, hte⟩, hrn, hro, hk3, rfl⟩ (by (exact Ent.auto))
set_option maxRecDepth 10000 in
theorem Equations_made8 (b : Nat) (A : Option Addr) (c : Nat) (L : List Int) (k most : Nat) (I : PH) (hL : CodesOk I A c L) (hk : k ≤ L.length) (hm : most ≤ 1000) :
    FnSpec Tryz.prog 11 [.pointer (some ⟨b, 0, none⟩), .int .i64 (most : Int)] I [CodesR b A c L k]
      (fun u R' => ∃ (N : Nat) (At : Option Addr) (ct : Nat) (t : List Int) (A' : Option Addr) (c' : Nat) (qs : List EqR) (k' : Nat), u = .tuple #[.int .i64 (N : Int), .slice At t.length ct, .slice A' qs.length c'] ∧ (EqsOk N t most qs ∧ N ≤ 8) ∧ k' ≤ L.length ∧ R' = iR At ct t :: (eqsR A' c' qs ++ [CodesR b A c L k'])) := by
  refine FnSpec.enterP Tryz.func11 rfl Tryz.ntmps11 rfl fun w F => ?_
  repeat' first
    | ((with_reducible refine Nx.is_wp ?_); first | refine Nx.wo ?_ | refine Nx.zp (fun hc => ?_) (fun hc => ?_))
    | (refine Nx.zo ?_; first | refine Nx.opr rfl rfl ?_ | (refine Nx.call rfl rfl rfl (by kernel_rfl) rfl (Told_made8 b A c L k most 3 I hL hk hm (by omega)) (by (exact Ent.auto)) ?_; rintro _ _ ⟨B, c', s, At, ct, t, As, ca, rs, k3, rfl, ⟨hs, hs8⟩, hT, hrn, hro, hk3, rfl⟩) | (refine Nx.call rfl rfl rfl (by kernel_rfl) rfl (FnSpec.keep [iR B c' s, Vec 116 3 As rs.length ca (rs.flatMap relC), Stars (rs.map relR)] fun m I' hle hm' hv => REAll_spec B As c' ca s rs I' (by obtain ⟨m1, hm1, h1⟩ := Stars.get 0 hv rfl; exact Vec.sliceOf (hm1.trans hm') h1) hs (by obtain ⟨m1, hm1, h1⟩ := Stars.get 1 hv rfl; obtain ⟨m2, hm2, h2⟩ := Stars.get 2 hv rfl; exact rels_of hm' h1 hm1 h2 hm2) (relsV_of hs hT (by omega) (by omega) hro (by omega))) (by (exact Ent.auto)) ?_; rintro _ _ ⟨_, ⟨Ao, co, ps, rfl, hps, hpl, rfl⟩, rfl⟩) | (refine Nx.call rfl rfl rfl (by kernel_rfl) rfl (FnSpec.keep [iR B c' s] fun m I' hle hm' hv => RCount_spec B c' s I' (by obtain ⟨m1, hm1, h1⟩ := Stars.get 0 hv rfl; exact Vec.sliceOf (hm1.trans hm') h1) hs) (by (exact Ent.auto)) ?_; rintro _ _ ⟨_, ⟨rfl, rfl⟩, rfl⟩) | refine Nx.so ?_ | refine Nx.sb (fun bx => ?_) | refine Nx.sa (fun A2 c2 => ?_))
    | refine Nx.za ?_ | refine Nx.zr (fun hc => ?_) (fun hc => ?_)
    | refine Nx.zq ?_ | refine Nx.zu (fun hc => ?_) (fun hc => ?_)
    | refine Nx.zx ?_ | fail
  have hall : ∀ q ∈ ps, GoodE (prod s).toNat q ∧ sumC t (eqn q).1 = q.2 := fun q hq => told_eq hs hT (by omega) (by omega) hro (by omega) (hps ▸ List.mem_map.2 ⟨q, hq, rfl⟩)
  have hpr := hs.bound (k := s.length) (Nat.le_refl _)
  rw [List.take_length] at hpr
  have hpc := hs.cells
  refine Nx.p_loop (σ := Nat × Option Addr × Nat) (fun z => [(8, .slice At t.length ct), (10, .slice Ao ps.length co), (12, .int .i64 (prod s)), (13, .slice z.2.1 (ps.take (min z.1 8)).length z.2.2), (30, .slice Ao ps.length co), (31, .int .i64 ps.length), (32, .int .i64 (z.1 : Int))])
    (fun z => Vec 46 2 Ao ps.length co (ps.flatMap eqC) :: Vec 46 2 z.2.1 (ps.take (min z.1 8)).length z.2.2 ((ps.take (min z.1 8)).flatMap eqC) :: Stars (ps.map fun q => rowR q.1) :: iR At ct t :: [CodesR b A c L k3, F]) (fun z => z.1 ≤ ps.length) (fun z => ps.length - z.1) (0, none, 0) rfl (Nat.zero_le _) ⟨rfl, rfl, rfl, rfl, rfl, rfl, rfl, trivial⟩ ((Ent.vec_nil 46 2 _).trans (by unfold eqsR toldR; (exact Ent.auto))) ?_
  rintro ⟨i, Ap, cp⟩ hi
  dsimp only at hi ⊢
  by_cases hiv : i < ps.length
  case neg =>
    obtain rfl : i = ps.length := by omega
    repeat' first
      | ((with_reducible refine Nx.is_wp ?_); first | refine Nx.wo ?_ | refine Nx.zp (fun hc => ?_) (fun hc => ?_))
      | (refine Nx.zo ?_; first | refine Nx.opr rfl rfl ?_ | refine Nx.so ?_ | refine Nx.sb (fun bx => ?_) | refine Nx.sa (fun A2 c2 => ?_))
      | refine Nx.za ?_ | refine Nx.zr (fun hc => ?_) (fun hc => ?_)
      | refine Nx.zq ?_ | refine Nx.zu (fun hc => ?_) (fun hc => ?_)
      | refine Nx.zx ?_ | fail
    refine Nx.ret_fn rfl [iR At ct t, Vec 46 2 Ap (ps.take (min ps.length 8)).length cp ((ps.take (min ps.length 8)).flatMap eqC), Stars ((ps.take (min ps.length 8)).map fun q => rowR q.1), CodesR b A c L k3] ⟨(prod s).toNat, At, ct, t, Ap, cp, ps.take (min ps.length 8), k3, by rw [show (((prod s).toNat : Nat) : Int) = prod s by omega], ⟨⟨by omega, hT.1, hT.2, by rw [List.length_take]; omega, fun q hq => (hall q (List.mem_of_mem_take hq)).1, fun q hq => (hall q (List.mem_of_mem_take hq)).2⟩, by omega⟩, hk3, rfl⟩ ?_
    refine Ent.trans (R' := Stars (ps.map fun q => rowR q.1) :: [Vec 46 2 Ap (ps.take (min ps.length 8)).length cp ((ps.take (min ps.length 8)).flatMap eqC), iR At ct t, CodesR b A c L k3, F]) (by (exact Ent.auto)) ?_
    have hsp : (ps.map fun q => rowR q.1) = ((ps.take (min ps.length 8)).map fun q => rowR q.1) ++ ((ps.drop (min ps.length 8)).map fun q => rowR q.1) := by rw [← List.map_append, List.take_append_drop]
    rw [hsp]
    exact Ent.stars_pre.trans (by (exact Ent.auto))
  have hmt := min_take hiv
  by_cases h8 : i < 8
  · rw [if_pos h8] at hmt
    have hln : (ps.take (min i 8)).length = i := by rw [List.length_take]; omega
    generalize ps.take (min i 8) = out at hmt hln
    subst hln
    have hcl : eqC (ps.getD out.length default) = [.slice (ps.getD out.length default).1.1 (ps.getD out.length default).1.2.2.length (ps.getD out.length default).1.2.1, .int .i64 (ps.getD out.length default).2] := rfl
    refine Nx.vec_fact fun _ _ _ hAo => ?_
    repeat' first
      | ((with_reducible refine Nx.is_wp ?_); first | refine Nx.wo ?_ | refine Nx.zp (fun hc => ?_) (fun hc => ?_))
      | (refine Nx.zo ?_; first | refine Nx.opr rfl rfl ?_ | refine Nx.indexAddr_nat (A := Ao) (sz := 2) rfl rfl rfl rfl rfl hiv (hAo (by omega)) ?_ | refine Nx.loads rfl rfl rfl rfl (Rds.vecN 0 eqC_len rfl hiv) rfl ?_ | refine Nx.so ?_ | refine Nx.sb (fun bx => ?_) | refine Nx.sa (fun A2 c2 => ?_))
      | refine Nx.za ?_ | refine Nx.zr (fun hc => ?_) (fun hc => ?_)
      | refine Nx.zq ?_ | refine Nx.zu (fun hc => ?_) (fun hc => ?_)
      | refine Nx.zx ?_ | fail
    refine Nx.again (out.length + 1, A2, c2) hiv (by dsimp only; omega) ⟨rfl, rfl, rfl, by dsimp only; rw [hmt, List.length_append]; rfl, rfl, rfl, rfl, trivial⟩ ?_
    dsimp only
    rw [hmt, List.length_append, List.flatMap_append, List.flatMap_cons, List.flatMap_nil, List.append_nil]
    (exact Ent.auto)
  · rw [if_neg h8] at hmt
    have hln : (ps.take (min i 8)).length = 8 := by rw [List.length_take]; omega
    rw [← hmt] at hln
    rw [← hmt]
    generalize hout : ps.take (min (i + 1) 8) = out at hln
    repeat' first
      | ((with_reducible refine Nx.is_wp ?_); first | refine Nx.wo ?_ | refine Nx.zp (fun hc => ?_) (fun hc => ?_))
      | (refine Nx.zo ?_; first | refine Nx.opr rfl rfl ?_ | refine Nx.so ?_ | refine Nx.sb (fun bx => ?_) | refine Nx.sa (fun A2 c2 => ?_))
      | refine Nx.za ?_ | refine Nx.zr (fun hc => ?_) (fun hc => ?_)
      | refine Nx.zq ?_ | refine Nx.zu (fun hc => ?_) (fun hc => ?_)
      | refine Nx.zx ?_ | fail
    exact Nx.again (i + 1, Ap, cp) hiv (by dsimp only; omega) ⟨rfl, rfl, rfl, by dsimp only; rw [hout]; rfl, rfl, rfl, rfl, trivial⟩ (by dsimp only; rw [hout]; (exact Ent.auto))
end Go.Proofs.YtpcnapidlhpbkaaGreatDoor
namespace Go.Proofs.YtpcnapidlhpbkaaGreatDoor
open Go.Eng Go.Sol
attribute [local irreducible] opK wpList Code.wp Exit.then Exit.inBlock fnPost bodyPost Nx Calls Oper.wp Rd Rds Wr Ent Stars Blk Again Vec FnSpec wpMix QRun Stop Upto wpAt
theorem valid30 {N : Nat} {qs : List EqR} (hN : 1 ≤ N ∧ N ≤ 48) (hl : qs.length ≤ 1152) (hg : ∀ q ∈ qs, GoodE N q) : validB (N : Int) qs = true := by
  unfold validB
  rw [decide_eq_true (show 1 ≤ (N : Int) ∧ (N : Int) ≤ 48 by omega), decide_eq_true hl]
  exact List.all_eq_true.2 fun q hq => rightB_iff.2 (hg q hq)
theorem sumC_bdB {t : List Int} {most : Int} (h0 : 0 ≤ most) (ht : ∀ j, j < t.length → 0 ≤ t.getD j default ∧ t.getD j default ≤ most) : ∀ cs : List Nat, sumC t cs ≤ most * (cs.length : Int)
  | [] => by show (0 : Int) ≤ most * ((0 : Nat) : Int); omega
  | c :: cs => by
    have ih := sumC_bdB h0 ht cs
    have hc : t.getD c 0 ≤ most := by
      by_cases h : c < t.length
      · exact (ht c h).2
      · rw [List.getD_eq_getElem?_getD, List.getElem?_eq_none (by omega)]; exact h0
    rw [sumC, List.length_cons]
    have : most * ((cs.length + 1 : Nat) : Int) = most * (cs.length : Int) + most := by rw [Int.natCast_add, Int.mul_add]; simp
    omega
theorem EqsOk.small {N : Nat} {t : List Int} {most : Int} {qs : List EqR} (h : EqsOk N t most qs) (hN : N ≤ 8) (h0 : 0 ≤ most) (hm : most ≤ 100) {q : EqR} (hq : q ∈ qs) : q.2 ≤ 1000 := by
  have hg := h.good q hq
  have h1 := sumC_bdB h0 h.tab (eqn q).1
  rw [h.sum q hq] at h1
  have h2 : (eqn q).1.length ≤ 8 := by
    unfold eqn
    rw [List.length_map]
    have := asc_len (a := 0) (n := N) hg.asc fun y hy => by have := hg.lt y hy; omega
    omega
  have : most * ((eqn q).1.length : Int) ≤ 100 * 8 := Int.mul_le_mul hm (by omega) (by omega) (by omega)
  omega
theorem EqsOk.beq {N : Nat} {t : List Int} {most : Int} {qs : List EqR} (h : EqsOk N t most qs) (hN : N ≤ 8) (h0 : 0 ≤ most) (hm : most ≤ 100) : BEq N qs := ⟨by have := h.n; omega, by have := h.few; omega, h.good, fun _ hq => h.small hN h0 hm hq⟩
theorem chkB_of {N : Nat} {qs : List EqR} (h : BEq N qs) (hv : validB (N : Int) qs = true) {k : Int} (hk : 0 ≤ k ∧ k < N) : chkB (N : Int) qs k = 0 := by
  have hn := h.cnt
  have hl := h.len
  unfold chkB
  rw [if_neg, if_neg (by omega), if_neg]
  · rintro (h1 | h1)
    · obtain ⟨q, hq, hb⟩ := List.any_eq_true.1 h1
      have := h.val q hq
      have hb' : 1000 < q.2 := of_decide_eq_true hb
      omega
    · exact h1 hk
  · rintro (h1 | h1)
    · exact h1 (by omega)
    · rw [hv] at h1; cases h1
def tabF (t : List Int) : Nat → Rat := fun k => ((t.getD k 0 : Int) : Rat)
theorem ls_tab (t : List Int) : ∀ cs : List Nat, Bl.ls (cs.map (tabF t)) = ((sumC t cs : Int) : Rat)
  | [] => rfl
  | c :: cs => by
    rw [List.map_cons, Bl.ls, ls_tab t cs, sumC, Rat.intCast_add]; rfl
theorem EqsOk.feas {N : Nat} {t : List Int} {most : Int} {qs : List EqR} (h : EqsOk N t most qs) : Bl.Feas (toQ N qs) (tabF t) := by
  have hlen := h.len
  refine ⟨fun k hk => ?_, fun i hi => ?_⟩
  · have hk : k < N := hk
    have := (h.tab k (by omega)).1
    have e : (0 : Rat) = ((0 : Int) : Rat) := rfl
    rw [e]
    exact Rat.intCast_le_intCast.2 this
  · have hm : qs.getD i default ∈ qs := getD_memQ hi
    have hg := h.good _ hm
    have h1 := h.sum _ hm
    have h2 := ls_tab t (eqn (qs.getD i default)).1
    rw [h1] at h2
    have h3 := Bl.ls_asc (tabF t) N (qs.getD i default).1.2.2 hg.asc (fun x hx => hg.lt x hx)
    rw [show (toQ N qs).val i = (qs.getD i default).2 from rfl, ← h2]
    unfold eqn
    rw [List.map_map]
    exact h3.symm
theorem eqs30 {A : Option Addr} {c : Nat} {qs : List EqR} {m m1 m2 I' : PH} (hm : PH.le m I') (h1 : Vec 46 2 A qs.length c (qs.flatMap eqC) m1) (hm1 : PH.le m1 m) (h2 : Stars (qs.map fun q => rowR q.1) m2) (hm2 : PH.le m2 m) : Eqs I' A c qs := by
  refine ⟨Vec.sliceN (t := 46) (hm1.trans hm) h1 fun x _ => eqC_len x, fun q hq => ?_⟩
  obtain ⟨i, hi, rfl⟩ := List.mem_iff_getElem.1 hq
  obtain ⟨m3, d3, h3⟩ := Stars.nth (i := i) (r := rowR qs[i].1) h2 (by rw [List.getElem?_map, List.getElem?_eq_getElem hi]; rfl)
  exact Vec.sliceOf (t := 3) ((d3.trans hm2).trans hm) h3
theorem Nx.giveEq30 {C : Cx} {e : Env} {I : PH} {R : List Res} {K : Act → World → Prop} {At A : Option Addr} {ct c : Nat} {t : List Int} {qs : List EqR} {RR : List Res}
    (hR : Ent R (Stars (iR At ct t :: eqsR A c qs) :: RR)) (h : ∀ I', PH.le I I' → Ints I' At ct t → Eqs I' A c qs → Nx C e I' RR K) : Nx C e I R K := by
  refine Nx.ent hR ?_
  refine Nx.freezeAt 0 rfl fun I1 m1 hI1 hm1 h1 => ?_
  obtain ⟨a1, ha1, b1⟩ := Stars.get 0 h1 rfl
  obtain ⟨a2, ha2, b2⟩ := Stars.get 1 h1 rfl
  obtain ⟨a3, ha3, b3⟩ := Stars.get 2 h1 rfl
  exact h I1 hI1 (Vec.sliceOf (ha1.trans hm1) b1) (eqs30 hm1 b2 ha2 b3 ha3)
theorem bBounds_made {N : Nat} {t : List Int} {most : Int} {qs : List EqR} (h : EqsOk N t most qs) (hN : N ≤ 8) (h0 : 0 ≤ most) (hm : most ≤ 100) (A : Option Addr) (c : Nat) (I : PH) (hl : Eqs I A c qs) (hT : TabI I) :
    FnSpec Tryz.prog 17 [.int .i64 (N : Int), .slice A qs.length c] I []
      (fun v R' => ∃ (A' : Option Addr) (c' : Nat) (L : List IvR), L.length = N ∧ (∀ k, k < N → IvOk (toQ N qs) k (L.getD k default)) ∧ v = .tuple #[.slice A' L.length c', .int .i64 0] ∧ R' = [Vec 50 5 A' L.length c' (L.flatMap ivC)]) := by
  have hn := h.n
  have hc := chkB_of (h.beq hN h0 hm) (valid30 h.n (by have := h.few; omega) h.good) (k := 0) (by omega)
  refine FnSpec.mono (bBounds_spec (N : Int) A c qs I hl hT) fun v R' hv => ?_
  rcases hv.2 hc with ⟨hno, _⟩ | ⟨_, A', c', L, hL, hok, h1, h2⟩
  · exact absurd ⟨_, h.feas⟩ hno
  · rw [Int.toNat_natCast] at hL hok
    exact ⟨A', c', L, hL, hok, h1, h2⟩
end Go.Proofs.YtpcnapidlhpbkaaGreatDoor
namespace Go.Proofs.YtpcnapidlhpbkaaGreatDoor
open Go.Eng Go.Sol
theorem Rds.sub {W : World} {I : PH} {R : List Res} {A : Addr} {vs us : List Value} (h : Rds W I R A vs) (o : Nat) (hs : ∀ j u, us[j]? = some u → vs[o + j]? = some u) : Rds W I R (A.add o) us := fun j u hj => by
  have := h (o + j) u (hs j u hj)
  rwa [← Addr.add_add] at this
theorem iv_low {W : World} {I : PH} {R : List Res} {A : Option Addr} {c : Nat} {L : List IvR} {k : Nat} (h : SliceN ivC 5 I A c L) (hk : k < L.length) : Rds W I R (((ad A).add (k * 5)).add 0) (ratC (L.getD k default).1) := Rds.sub (h.rds hk) 0 fun j u hj => by
  match j, hj with
  | 0, hj => exact hj
  | 1, hj => exact hj
  | j + 2, hj => cases hj
theorem iv_high {W : World} {I : PH} {R : List Res} {A : Option Addr} {c : Nat} {L : List IvR} {k : Nat} (h : SliceN ivC 5 I A c L) (hk : k < L.length) : Rds W I R (((ad A).add (k * 5)).add 2) (ratC (L.getD k default).2.1) := Rds.sub (h.rds hk) 2 fun j u hj => by
  match j, hj with
  | 0, hj => exact hj
  | 1, hj => exact hj
  | j + 2, hj => cases hj
theorem iv_open {W : World} {I : PH} {R : List Res} {A : Option Addr} {c : Nat} {L : List IvR} {k : Nat} (h : SliceN ivC 5 I A c L) (hk : k < L.length) : Rd W I R (((ad A).add (k * 5)).add 4) (.bool (L.getD k default).2.2) := h.rds hk 4 _ rfl
attribute [local irreducible] opK wpList Code.wp Exit.then Exit.inBlock fnPost bodyPost Nx Calls Oper.wp Rd Rds Wr Ent Stars Blk Again Vec FnSpec wpMix QRun Stop Upto wpAt
end Go.Proofs.YtpcnapidlhpbkaaGreatDoor
namespace Go.Proofs.YtpcnapidlhpbkaaGreatDoor
open Go.Eng Go.Sol
theorem iv_lowD {W : World} {I : PH} {R : List Res} {A : Option Addr} {c : Nat} {L : List IvR} {k : Nat} {lo hi : Rat} {op : Bool} (h : SliceN ivC 5 I A c L) (hk : k < L.length) (he : L.getD k default = (lo, hi, op)) : Rds W I R (((ad A).add (k * 5)).add 0) (ratC lo) := by
  have := iv_low (W := W) (R := R) h hk
  rwa [he] at this
theorem iv_highD {W : World} {I : PH} {R : List Res} {A : Option Addr} {c : Nat} {L : List IvR} {k : Nat} {lo hi : Rat} {op : Bool} (h : SliceN ivC 5 I A c L) (hk : k < L.length) (he : L.getD k default = (lo, hi, op)) : Rds W I R (((ad A).add (k * 5)).add 2) (ratC hi) := by
  have := iv_high (W := W) (R := R) h hk
  rwa [he] at this
theorem iv_openD {W : World} {I : PH} {R : List Res} {A : Option Addr} {c : Nat} {L : List IvR} {k : Nat} {lo hi : Rat} {op : Bool} (h : SliceN ivC 5 I A c L) (hk : k < L.length) (he : L.getD k default = (lo, hi, op)) : Rd W I R (((ad A).add (k * 5)).add 4) (.bool op) := by
  have := iv_open (W := W) (R := R) h hk
  rwa [he] at this
attribute [local irreducible] opK wpList Code.wp Exit.then Exit.inBlock fnPost bodyPost Nx Calls Oper.wp Rd Rds Wr Ent Stars Blk Again Vec FnSpec wpMix QRun Stop Upto wpAt
theorem sol_feas {N : Nat} {qs : List EqR} (hg : ∀ q ∈ qs, GoodE N q) {s : List Int} (hs : s ∈ solsOf N (eqns qs)) : Bl.Feas (toQ N qs) (tabF s) := by
  have G := (mem_sols hg).1 hs
  refine ⟨fun k _ => ?_, fun i hi => ?_⟩
  · have h0 : 0 ≤ s.getD k 0 := by
      by_cases hk : k ∈ touch N (eqns qs)
      · exact (G.pos k hk).1
      · rw [G.same k hk, List.getD_eq_getElem?_getD, List.getElem?_replicate]
        split <;> decide
    have e : (0 : Rat) = ((0 : Int) : Rat) := rfl
    rw [e]
    exact Rat.intCast_le_intCast.2 h0
  · have hm : qs.getD i default ∈ qs := getD_memQ hi
    have hgi := hg _ hm
    have h1 := sols_sum hg hs _ hm
    have h2 := ls_tab s (eqn (qs.getD i default)).1
    rw [h1] at h2
    have h3 := Bl.ls_asc (tabF s) N (qs.getD i default).1.2.2 hgi.asc (fun x hx => hgi.lt x hx)
    rw [show (toQ N qs).val i = (qs.getD i default).2 from rfl, ← h2]
    unfold eqn
    rw [List.map_map]
    exact h3.symm
theorem unb_touch {N : Nat} {qs : List EqR} (hg : ∀ q ∈ qs, GoodE N q) {x : Nat} (hx : x < N) : Unb (toQ N qs) x ↔ x ∉ touch N (eqns qs) := by
  constructor
  · intro h hto
    obtain ⟨_, q, hq, hxq⟩ := mem_touch.1 hto
    obtain ⟨p, hp, rfl⟩ := List.mem_map.1 hq
    obtain ⟨i, hi, rfl⟩ := List.mem_iff_getElem.1 hp
    have h1 := h i hi
    have e : qs.getD i default = qs[i] := by rw [List.getD_eq_getElem?_getD, List.getElem?_eq_getElem hi]; rfl
    have h2 : decide ((x : Int) ∈ (qs.getD i default).1.2.2) = false := h1
    rw [e] at h2
    obtain ⟨y, hy, hyx⟩ := List.mem_map.1 hxq
    have h3 := (hg _ hp).lt y hy
    exact absurd (show (x : Int) ∈ qs[i].1.2.2 by rw [show (x : Int) = y by omega]; exact hy) (of_decide_eq_false h2)
  · intro h i hi
    have hi' : i < qs.length := hi
    show decide ((x : Int) ∈ (qs.getD i default).1.2.2) = false
    refine decide_eq_false fun hm => h ?_
    exact mem_touch.2 ⟨hx, eqn (qs.getD i default), List.mem_map.2 ⟨_, getD_memQ hi', rfl⟩, List.mem_map.2 ⟨(x : Int), hm, Int.toNat_natCast x⟩⟩
theorem reach_in {N x : Nat} {qs : List EqR} (hg : ∀ q ∈ qs, GoodE N q) (hne : solsOf N (eqns qs) ≠ []) (hx : x < N) {lo hi : Rat} {op : Bool} (hok : IvOk (toQ N qs) x (lo, hi, op)) :
    (reachAt N (eqns qs) x).2.2 = op ∧ lo ≤ ((reachAt N (eqns qs) x).1 : Rat) ∧ (op = false → ((reachAt N (eqns qs) x).2.1 : Rat) ≤ hi) ∧ (0 ≤ (reachAt N (eqns qs) x).1 ∧ (reachAt N (eqns qs) x).1 ≤ 1000000) ∧ (0 ≤ (reachAt N (eqns qs) x).2.1 ∧ (reachAt N (eqns qs) x).2.1 ≤ 1000000) := by
  have hu := unb_touch hg hx
  unfold reachAt
  by_cases hto : x ∈ touch N (eqns qs)
  · rw [if_pos hto]
    have hop : op = false := by
      cases op with
      | false => rfl
      | true => exact absurd hto (hu.1 (hok.opn.1 rfl))
    subst hop
    obtain ⟨a1, _⟩ := ext_all hg hne hto false
    obtain ⟨b1, _⟩ := ext_all hg hne hto true
    refine ⟨rfl, hok.low.low (sol_feas hg a1), fun _ => (hok.high rfl).high (sol_feas hg b1), ?_, ?_⟩
    · exact ((mem_sols hg).1 a1).pos x hto
    · exact ((mem_sols hg).1 b1).pos x hto
  · rw [if_neg hto]
    have hop : op = true := hok.opn.2 (hu.2 hto)
    subst hop
    have h0 : lo = 0 := hok.low.free hx (hu.2 hto)
    refine ⟨rfl, ?_, fun h => (by cases h), ⟨Int.le_refl _, by decide⟩, ⟨Int.le_refl _, by decide⟩⟩
    rw [h0]; exact Rat.le_refl
set_option maxRecDepth 10000 in
theorem IntegersBounds_spec (A : Option Addr) (c : Nat) (l : List Int) (I : PH) (hl : Bytes I A c l) (hx : ∀ x ∈ l, 0 ≤ x ∧ x < 256) (hT : TabI I) :
    FnSpec Tryz.prog 8 [.slice A l.length c] I [] (fun v R' => v = .bool true ∧ R' = []) := by
  have hL := bytes_take hl hx
  refine FnSpec.enterP Tryz.func8 rfl Tryz.ntmps8 rfl fun w F => ?_
  repeat' first
    | ((with_reducible refine Nx.is_wp ?_); first | refine Nx.p_stopr 3 rfl ?_ | refine Nx.wo ?_ | refine Nx.zp (fun hc => ?_) (fun hc => ?_))
    | (refine Nx.zo ?_; first | refine Nx.opr rfl rfl ?_ | (refine Nx.call (Rpre := []) rfl rfl rfl (by kernel_rfl) rfl (New_codes A c l I hl) (Ent.refl _) ?_; rintro _ _ ⟨b, rfl, rfl⟩) | (refine Nx.call rfl rfl rfl (by kernel_rfl) rfl (Equations_made8 b A c _ 0 2 I hL (Nat.zero_le _) (by omega)) (by (exact Ent.auto)) ?_; rintro _ _ ⟨N, At, ct, t, Aq, cq, qs, k1, rfl, ⟨hE, hN8⟩, hk1, rfl⟩) | refine Nx.so ?_ | refine Nx.sb (fun bx => ?_) | refine Nx.sa (fun A2 c2 => ?_))
    | refine Nx.za ?_ | refine Nx.zr (fun hc => ?_) (fun hc => ?_)
    | refine Nx.zq ?_ | refine Nx.zu (fun hc => ?_) (fun hc => ?_)
    | refine Nx.zx ?_ | fail
  refine Nx.unstop ?_
  refine Nx.giveEq30 (At := At) (ct := ct) (t := t) (A := Aq) (c := cq) (qs := qs) (RR := [F]) (by refine Ent.trans ?_ Ent.stars; unfold eqsR; (exact Ent.auto)) fun I1 hI1 ht hq => ?_
  have hN := hE.n
  have hfew := hE.few
  have hL1 := little_spec (N : Int) Aq cq qs I1 hq
  have hR1 := Reaches_spec (N : Int) Aq cq qs I1 hq (by have := hE.all; omega)
  have hB := bBounds_made hE hN8 (by omega) (by omega) Aq cq I1 hq (tab_mono hI1 hT)
  rcases reach_made hE with ⟨hc1, h1⟩ | ⟨hc1, h1⟩
  · rw [h1] at hR1
    dsimp only at hR1
    repeat' first
      | ((with_reducible refine Nx.is_wp ?_); first | refine Nx.wo ?_ | refine Nx.zp (fun hc => ?_) (fun hc => ?_))
      | (refine Nx.zo ?_; first | refine Nx.opr rfl rfl ?_ | (refine Nx.call (Rpre := []) rfl rfl rfl (by kernel_rfl) rfl hL1 (Ent.refl _) ?_; rintro _ _ ⟨bl, rfl, rfl⟩; cases bl) | (refine Nx.call (Rpre := []) rfl rfl rfl (by kernel_rfl) rfl hR1 (Ent.refl _) ?_; rintro _ _ ⟨Ax, cx, rfl, rfl⟩) | (refine Nx.call (Rpre := []) rfl rfl rfl (by kernel_rfl) rfl hB (Ent.refl _) ?_; rintro v R' ⟨A1, c1, L, hLl, hok, rfl, rfl⟩) | refine Nx.callv rfl rfl rfl (by kernel_rfl) rfl (awakeI_spec _) ?_ | refine Nx.so ?_ | refine Nx.sb (fun bx => ?_) | refine Nx.sa (fun A2 c2 => ?_))
      | refine Nx.za ?_ | refine Nx.zr (fun hc => ?_) (fun hc => ?_)
      | refine Nx.zq ?_ | refine Nx.zu (fun hc => ?_) (fun hc => ?_)
      | refine Nx.zx ?_ | fail
    all_goals exact Nx.imm_le hI1 (Nx.ret_fn rfl [] ⟨rfl, rfl⟩ (by (exact Ent.auto)))
  rw [h1] at hR1
  dsimp only at hR1
  have hra : ∀ x, x < N → ((List.range N).map (reachAt N (eqns qs))).getD x default = reachAt N (eqns qs) x := fun x hx => range_at hx
  have hla : ((List.range N).map (reachAt N (eqns qs))).length = N := by simp
  generalize (List.range N).map (reachAt N (eqns qs)) = ra at hR1 hra hla
  repeat' first
    | ((with_reducible refine Nx.is_wp ?_); first | refine Nx.p_stop 9 rfl ?_ | refine Nx.wo ?_ | refine Nx.zp (fun hc => ?_) (fun hc => ?_))
    | (refine Nx.zo ?_; first | refine Nx.opr rfl rfl ?_ | (refine Nx.call (Rpre := []) rfl rfl rfl (by kernel_rfl) rfl hL1 (Ent.refl _) ?_; rintro _ _ ⟨bl, rfl, rfl⟩; cases bl) | (refine Nx.call (Rpre := []) rfl rfl rfl (by kernel_rfl) rfl hR1 (Ent.refl _) ?_; rintro _ _ ⟨Ax, cx, rfl, rfl⟩) | (refine Nx.call (Rpre := []) rfl rfl rfl (by kernel_rfl) rfl hB (Ent.refl _) ?_; rintro v R' ⟨A1, c1, L, hLl, hok, rfl, rfl⟩) | refine Nx.callv rfl rfl rfl (by kernel_rfl) rfl (awakeI_spec _) ?_ | refine Nx.so ?_ | refine Nx.sb (fun bx => ?_) | refine Nx.sa (fun A2 c2 => ?_))
    | refine Nx.za ?_ | refine Nx.zr (fun hc => ?_) (fun hc => ?_)
    | refine Nx.zq ?_ | refine Nx.zu (fun hc => ?_) (fun hc => ?_)
    | refine Nx.zx ?_ | fail
  · exact Nx.imm_le hI1 (Nx.ret_fn rfl [] ⟨rfl, rfl⟩ (by (exact Ent.auto)))
  refine Nx.unstop ?_
  refine Nx.ent (R' := [rcR Ax cx ra, Vec 50 5 A1 L.length c1 (L.flatMap ivC), F]) (by (exact Ent.auto)) ?_
  refine Nx.freezeAt 0 rfl fun I3 m3 hI3 hm3 h3 => ?_
  refine Nx.freezeAt 0 rfl fun I4 m4 hI4 hm4 h4 => ?_
  have hRa : Rchs I4 Ax cx ra := Vec.sliceN (hm3.trans hI4) h3 fun x _ => rcC_len x
  have hIv : SliceN ivC 5 I4 A1 c1 L := Vec.sliceN (t := 50) hm4 h4 fun _ _ => rfl
  have hI14 := hI3.trans hI4
  have hraN : (ra.length : Int) = (N : Int) := by omega
  have hLN : (L.length : Int) = (N : Int) := by omega
  repeat' first
    | ((with_reducible refine Nx.is_wp ?_); first | refine Nx.wo ?_ | refine Nx.zp (fun hc => ?_) (fun hc => ?_))
    | (refine Nx.zo ?_; first | refine Nx.opr rfl rfl ?_ | refine Nx.so ?_ | refine Nx.sb (fun bx => ?_) | refine Nx.sa (fun A2 c2 => ?_))
    | refine Nx.za ?_ | refine Nx.zr (fun hc => ?_) (fun hc => ?_)
    | refine Nx.zq ?_ | refine Nx.zu (fun hc => ?_) (fun hc => ?_)
    | refine Nx.zx ?_ | fail
  refine Nx.p_loop (σ := Nat) (fun x => [(7, .slice Ax ra.length cx), (9, .slice A1 L.length c1), (54, .int .i64 L.length), (55, .int .i64 (x : Int))])
    (fun _ => [F]) (fun x => x ≤ L.length) (fun x => L.length - x) 0 rfl (Nat.zero_le _) ⟨rfl, rfl, rfl, rfl, trivial⟩ (by (exact Ent.auto)) ?_
  intro x hx'
  have hx' : x ≤ L.length := hx'
  by_cases hxl : x < L.length
  case neg =>
    repeat' first
      | ((with_reducible refine Nx.is_wp ?_); first | refine Nx.wo ?_ | refine Nx.zp (fun hc => ?_) (fun hc => ?_))
      | (refine Nx.zo ?_; first | refine Nx.opr rfl rfl ?_ | refine Nx.callv rfl rfl rfl (by kernel_rfl) rfl (awakeI_spec _) ?_ | refine Nx.so ?_ | refine Nx.sb (fun bx => ?_) | refine Nx.sa (fun A2 c2 => ?_))
      | refine Nx.za ?_ | refine Nx.zr (fun hc => ?_) (fun hc => ?_)
      | refine Nx.zq ?_ | refine Nx.zu (fun hc => ?_) (fun hc => ?_)
      | refine Nx.zx ?_ | fail
    exact Nx.imm_le (hI1.trans hI14) (Nx.ret_fn rfl [] ⟨rfl, rfl⟩ (by (exact Ent.auto)))
  have hxN : x < N := by omega
  have hxr : x < ra.length := by omega
  have hokx := hok x hxN
  have hAx := hRa.isSome (by omega) (by omega)
  have hA1 := hIv.isSome (by omega) (by omega)
  generalize hivd : L.getD x default = iv at hokx
  obtain ⟨lo, hi, op⟩ := iv
  obtain ⟨w1, w2, w3, w4, w5⟩ := reach_in hE.good hE.some hxN hokx
  have hax := hra x hxN
  have a0 := fun (W : World) (R : List Res) => SliceN.fld (W := W) (R := R) (v := .int .i64 (ra.getD x default).1) hRa hxr 0 rfl
  have a1 := fun (W : World) (R : List Res) => SliceN.fld (W := W) (R := R) (v := .int .i64 (ra.getD x default).2.1) hRa hxr 1 rfl
  have a2 := fun (W : World) (R : List Res) => SliceN.fld (W := W) (R := R) (v := .bool (ra.getD x default).2.2) hRa hxr 2 rfl
  rw [hax] at a0 a1 a2
  rw [w1] at a2
  clear hax
  generalize reachAt N (eqns qs) x = pa at w2 w3 w4 w5 a0 a1
  obtain ⟨rlo, rhi, ro⟩ := pa
  dsimp only at w2 w3 w4 w5 a0 a1
  have b0 := fun (W : World) (R : List Res) => iv_lowD (W := W) (R := R) hIv hxl hivd
  have b1 := fun (W : World) (R : List Res) => iv_highD (W := W) (R := R) hIv hxl hivd
  have b2 := fun (W : World) (R : List Res) => iv_openD (W := W) (R := R) hIv hxl hivd
  have hRl : RB (rlo : Rat) := RB_int (by omega)
  have hRh : RB (rhi : Rat) := RB_int (by omega)
  have hLs1 := rLess_rat (rlo : Rat) lo hRl hokx.rlow I4
  rw [decide_eq_false (Rat.not_lt.2 w2)] at hLs1
  cases op with
  | true =>
    have hBn := fun {p q : Operand} (w : World) => (run_boolne (t := 4) (x := p) (y := q) Tryz.underlying4 true true w).trans (show _ = Result.ok (Value.bool false) w from rfl)
    repeat' first
      | ((with_reducible refine Nx.is_wp ?_); first | refine Nx.wo ?_ | refine Nx.p_drawF (id := 14) rfl [0, 1, 2, 3, 4, 5, 6, 7, 8, 9, 10, 11, 12, 13, 14, 15, 16, 17, 18, 19, 20, 21, 22, 23, 24, 25, 26, 27, 28, 29, 30, 31, 32, 33, 34, 35, 36, 37, 38, 39, 40, 41, 42, 43] [23] [44, 45, 46] _ rfl rfl (by kernel_rfl) (by kernel_rfl) rfl PanicOk.auto (Ent.refl _) ?_ | refine Nx.zp (fun hc => ?_) (fun hc => ?_))
      | (refine Nx.zo ?_; first | refine Nx.opr rfl rfl ?_ | refine Nx.callv rfl rfl rfl (by kernel_rfl) rfl hLs1 ?_ | refine Nx.so ?_ | refine Nx.sb (fun bx => ?_) | refine Nx.sa (fun A2 c2 => ?_))
      | refine Nx.za ?_ | refine Nx.zr (fun hc => ?_) (fun hc => ?_)
      | ((with_reducible refine Nx.is_mix ?_); first | refine Nx.m_quiet rfl rfl rfl rfl rfl (by first | exact QRun.fld (A := (ad A1).add (x * 5)) rfl rfl | exact QRun.fld (A := (ad Ax).add (x * 3)) rfl rfl | exact QRun.binr rfl rfl hBn | exact QRun.opr rfl | exact QRun.idx (A := A1) (i := x) (sz := 5) rfl rfl rfl rfl hxl hA1 | exact QRun.idx (A := Ax) (i := x) (sz := 3) rfl rfl rfl rfl hxr hAx | exact QRun.load rfl rfl (b2 _ _) | exact QRun.load rfl rfl (a2 _ _) | exact QRun.load rfl rfl (a0 _ _) | exact QRun.loads rfl rfl rfl (b0 _ _) rfl) ?_ | refine Nx.m_quiet_do rfl rfl rfl rfl rfl rfl rfl (by first | exact QRun.fld (A := (ad A1).add (x * 5)) rfl rfl | exact QRun.fld (A := (ad Ax).add (x * 3)) rfl rfl | exact QRun.binr rfl rfl hBn | exact QRun.opr rfl | exact QRun.idx (A := A1) (i := x) (sz := 5) rfl rfl rfl rfl hxl hA1 | exact QRun.idx (A := Ax) (i := x) (sz := 3) rfl rfl rfl rfl hxr hAx | exact QRun.load rfl rfl (b2 _ _) | exact QRun.load rfl rfl (a2 _ _) | exact QRun.load rfl rfl (a0 _ _) | exact QRun.loads rfl rfl rfl (b0 _ _) rfl) ?_ | refine Nx.m ?_ | refine Nx.zm ?_ | refine Nx.zt (fun hc => ?_) (fun hc => ?_))
      | refine Nx.zx ?_ | fail
    exact Nx.again (x + 1) hxl (by omega) ⟨rfl, rfl, rfl, rfl, trivial⟩ (by (exact Ent.auto))
  | false =>
    have hLs2 := rLess_rat hi (rhi : Rat) hokx.rhigh hRh I4
    rw [decide_eq_false (Rat.not_lt.2 (w3 rfl))] at hLs2
    have hBn := fun {p q : Operand} (w : World) => (run_boolne (t := 4) (x := p) (y := q) Tryz.underlying4 false false w).trans (show _ = Result.ok (Value.bool false) w from rfl)
    repeat' first
      | ((with_reducible refine Nx.is_wp ?_); first | refine Nx.wo ?_ | refine Nx.p_drawF (id := 14) rfl [0, 1, 2, 3, 4, 5, 6, 7, 8, 9, 10, 11, 12, 13, 14, 15, 16, 17, 18, 19, 20, 21, 22, 23, 24, 25, 26, 27, 28, 29, 30, 31, 32, 33, 34, 35, 36, 37, 38, 39, 40, 41, 42, 43] [23] [44, 45, 46] _ rfl rfl (by kernel_rfl) (by kernel_rfl) rfl PanicOk.auto (Ent.refl _) ?_ | refine Nx.zp (fun hc => ?_) (fun hc => ?_))
      | (refine Nx.zo ?_; first | refine Nx.opr rfl rfl ?_ | refine Nx.callv rfl rfl rfl (by kernel_rfl) rfl hLs1 ?_ | refine Nx.callv rfl rfl rfl (by kernel_rfl) rfl hLs2 ?_ | refine Nx.so ?_ | refine Nx.sb (fun bx => ?_) | refine Nx.sa (fun A2 c2 => ?_))
      | refine Nx.za ?_ | refine Nx.zr (fun hc => ?_) (fun hc => ?_)
      | ((with_reducible refine Nx.is_mix ?_); first | refine Nx.m_quiet rfl rfl rfl rfl rfl (by first | exact QRun.fld (A := (ad A1).add (x * 5)) rfl rfl | exact QRun.fld (A := (ad Ax).add (x * 3)) rfl rfl | exact QRun.binr rfl rfl hBn | exact QRun.opr rfl | exact QRun.idx (A := A1) (i := x) (sz := 5) rfl rfl rfl rfl hxl hA1 | exact QRun.idx (A := Ax) (i := x) (sz := 3) rfl rfl rfl rfl hxr hAx | exact QRun.load rfl rfl (b2 _ _) | exact QRun.load rfl rfl (a2 _ _) | exact QRun.load rfl rfl (a0 _ _) | exact QRun.load rfl rfl (a1 _ _) | exact QRun.loads rfl rfl rfl (b0 _ _) rfl | exact QRun.loads rfl rfl rfl (b1 _ _) rfl) ?_ | refine Nx.m_quiet_do rfl rfl rfl rfl rfl rfl rfl (by first | exact QRun.fld (A := (ad A1).add (x * 5)) rfl rfl | exact QRun.fld (A := (ad Ax).add (x * 3)) rfl rfl | exact QRun.binr rfl rfl hBn | exact QRun.opr rfl | exact QRun.idx (A := A1) (i := x) (sz := 5) rfl rfl rfl rfl hxl hA1 | exact QRun.idx (A := Ax) (i := x) (sz := 3) rfl rfl rfl rfl hxr hAx | exact QRun.load rfl rfl (b2 _ _) | exact QRun.load rfl rfl (a2 _ _) | exact QRun.load rfl rfl (a0 _ _) | exact QRun.load rfl rfl (a1 _ _) | exact QRun.loads rfl rfl rfl (b0 _ _) rfl | exact QRun.loads rfl rfl rfl (b1 _ _) rfl) ?_ | refine Nx.m ?_ | refine Nx.zm ?_ | refine Nx.zt (fun hc => ?_) (fun hc => ?_))
      | refine Nx.zx ?_ | fail
    exact Nx.again (x + 1) hxl (by omega) ⟨rfl, rfl, rfl, rfl, trivial⟩ (by (exact Ent.auto))
end Go.Proofs.YtpcnapidlhpbkaaGreatDoor
namespace Go.Proofs.YtpcnapidlhpbkaaGreatDoor
open Go.Eng
theorem g64 : Tryz.prog.globalNamed  "math/bits.deBruijn64tab" = some 1 := by kernel_rfl
theorem g64T : (Tryz.prog.globals[1]?).map (·.type) = some 291 := by kernel_rfl
theorem c5 : Tryz.prog.cellsOf 5 = 1 := by kernel_rfl
theorem c79 : Tryz.prog.cellsOf 291 = 64 := by kernel_rfl
abbrev laid1 : List (String × DataW Unit) := [("math/bits.deBruijn64tab", Rows.laid_math_bits_deBruijn64tab)]
def setBlk (cs : List Value) : Obj → Obj
  | .cells _ t frozen => .cells cs.toArray t frozen
  | o => o
noncomputable def laidWorld (os : Os) : World :=
  { World.holding Tryz.prog os ⟨#[], #[], []⟩ with heap := (World.holding Tryz.prog os ⟨#[], #[], []⟩).heap.modify 1 (setBlk (Lib.deBruijn64tab.map fun z : Nat => Value.int .u8 z)) }
theorem laidWorld_met (os : Os) (args : Array Value) : laidMetH Tryz.prog laid1 ((laidWorld os).forCall (fun _ _ => 0) ⟨#[], args, []⟩).memory :=
  laidMetH_of_parts (laidMet_of_run' 8 (by kernel_rfl) (by kernel_rfl)) (by kernel_rfl)
theorem heap_keep {W w0 w : World} {R : List Res} (h : St w0 (fun i => W.heap[i]?) R w) {i : Nat} {o : Obj} (ho : W.heap[i]? = some o) : w.heap[i]? = some o := by
  obtain ⟨m, _, hs⟩ := h.mem
  exact hs.imm i o ho
theorem var_keep {W w0 w : World} {R : List Res} (h : St w0 (fun i => W.heap[i]?) R w) {P : Program} {name : String} {k : IntKind} {zs : List Int} (ht : Lib.TabIs P W name k zs) : Lib.TabIs P w name k zs := by
  unfold Lib.TabIs World.var? at *
  cases hg : P.globalNamed name with
  | none => simp [hg] at ht
  | some g =>
    simp only [hg, Option.bind_some] at ht ⊢
    cases ho : W.heap[g]? with
    | none => rw [ho] at ht; simp at ht
    | some o => rw [heap_keep h ho]; rw [ho] at ht; exact ht
theorem tab_of {W : World} (h : laidMetH Tryz.prog laid1 W) : TabI (fun i => W.heap[i]?) := fun _ _ _ hst j hj => by
  have h1 : Lib.TabIs Tryz.prog W  "math/bits.deBruijn64tab" .u8 (Lib.deBruijn64tab.map fun z : Nat => (z : Int)) := Lib.tabIs_of_head g64 g64T Tryz.underlying291 Tryz.underlying5 c5 c79 (h : laidMet Tryz.prog laid1 W)
  have h2 := (var_keep hst h1).cell g64 j (by rw [List.length_map]; exact hj)
  rw [show (Lib.deBruijn64tab.map fun z : Nat => (z : Int)).getD j 0 = ((Lib.deBruijn64tab.getD j 0 : Nat) : Int) by
    rw [List.getD_eq_getElem?_getD, List.getD_eq_getElem?_getD, List.getElem?_map]
    cases Lib.deBruijn64tab[j]? <;> rfl] at h2
  exact h2
end Go.Proofs.YtpcnapidlhpbkaaGreatDoor
