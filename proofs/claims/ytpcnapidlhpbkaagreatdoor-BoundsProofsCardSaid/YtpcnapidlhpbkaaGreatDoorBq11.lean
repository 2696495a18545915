/- Contracts of functions of the given program, and lemmas. -/
import Derived.Deep.Slices
import Derived.ChangeSlices
import Derived.OpenShut
import Derived.Lib.SmallJoins
import Derived.Test.YtpcnapidlhpbkaaGreatDoorBq10
set_option maxHeartbeats 32000000
namespace Go.Proofs.YtpcnapidlhpbkaaGreatDoor
open Go.Eng Go.Sol
attribute [local irreducible] opK wpList Code.wp Exit.then Exit.inBlock fnPost bodyPost Nx Calls Oper.wp Rd Rds Wr Ent Stars Blk Again Vec FnSpec wpMix QRun Stop Upto wpAt
def prow (N k : Nat) (f : Nat → Rat) : List (Int × Int) := (List.range N).map fun j => if j < k then ((f j).num, ((f j).den : Int)) else (0, 0)
theorem prow_len (N k : Nat) (f : Nat → Rat) : (prow N k f).length = N := by unfold prow; rw [List.length_map, List.length_range]
theorem prow_set {N k : Nat} {f : Nat → Rat} (hk : k < N) : (prow N k f).set k ((f k).num, ((f k).den : Int)) = prow N (k + 1) f := by
  refine List.ext_getElem? fun j => ?_
  unfold prow
  rw [List.getElem?_set, List.getElem?_map, List.length_map, List.length_range, List.getElem?_map]
  by_cases hj : j < N
  · rw [List.getElem?_range hj]
    by_cases h : k = j
    · subst h; rw [if_pos rfl, if_pos hk]; show _ = some (if k < k + 1 then ((f k).num, ((f k).den : Int)) else (0, 0)); rw [if_pos (by omega)]
    · rw [if_neg h]
      show some (if j < k then ((f j).num, ((f j).den : Int)) else (0, 0)) = some (if j < k + 1 then ((f j).num, ((f j).den : Int)) else (0, 0))
      by_cases h2 : j < k
      · rw [if_pos h2, if_pos (by omega)]
      · rw [if_neg h2, if_neg (by omega)]
  · rw [List.getElem?_eq_none (by rw [List.length_range]; omega)]
    split
    · omega
    · rfl
theorem prow_zero (N : Nat) (f : Nat → Rat) : (List.replicate N ((0 : Int), (0 : Int))).flatMap frC0 = (prow N 0 f).flatMap frC0 := by
  congr 1
  unfold prow
  refine (List.eq_replicate_iff.2 ⟨by rw [List.length_map, List.length_range], fun x hx => ?_⟩).symm
  obtain ⟨j, _, rfl⟩ := List.mem_map.1 hx
  rfl
theorem prow_end (N : Nat) (f : Nat → Rat) : (prow N N f).flatMap frC0 = (rl N f).flatMap ratC := by
  have e : prow N N f = (rl N f).map fun q => (q.num, (q.den : Int)) := by
    unfold prow rl
    rw [List.map_map]
    refine List.map_congr_left fun j hj => ?_
    rw [if_pos (List.mem_range.1 hj)]; rfl
  rw [e, List.flatMap_map]; rfl
abbrev outQ (q : Bl.Eqs) (ra : RA) : Res := outR q.m q.N ra.ta.ra ra.ta.Ar ra.ta.cr
theorem out_rd {W : World} {I : PH} {R : List Res} {m N1 : Nat} {ra : Nat → Option Addr × Nat} {A : Option Addr} {c i : Nat} (k : Nat) (hk : nthL R k = some (outR m N1 ra A c)) (hi : i < m) : Rd W I R ((ad A).add (i * 1)) (.slice (ra i).1 N1 (ra i).2) := by
  have := Rd.vecEl (W := W) (I := I) (R := R) (f := fun i : Nat => Value.slice (ra i).1 N1 (ra i).2) (l := List.range m) (i := i) (A := A) (n := m) (c := c) (t := 25) k hk (by rw [List.length_range]; exact hi)
  rwa [range_getD hi] at this
theorem out_keep {q : Bl.Eqs} {ra : RA} {m I' : PH} (hm : PH.le m I') (hv : Stars [outQ q ra] m) : SliceOf (fun i : Nat => Value.slice (ra.ta.ra i).1 q.N (ra.ta.ra i).2) I' ra.ta.Ar ra.ta.cr (List.range q.m) := by
  obtain ⟨m1, d1, h1⟩ := Stars.get 0 hv rfl
  exact outer_frozen (d1.trans hm) h1
set_option maxRecDepth 10000 in
theorem ready_spec (n : Nat) (A : Option Addr) (c : Nat) (l : List EqR) (I : PH) (hl : Eqs I A c l) (hb : BEq n l) :
    FnSpec Tryz.prog 39 [.int .i64 (n : Int), .slice A l.length c] I []
      (fun v R' => ∃ (ra : RA) (s : Bl.Tab) (bo : Bool), v = .tuple #[rtV (toQ n l) ra, .bool bo] ∧ (bo = true ↔ ∃ x, Bl.Feas (toQ n l) x) ∧ (bo = true → Bl.Rdy (toQ n l) s) ∧ (∀ i, i < l.length → (ra.ta.ra i).1.isSome = true) ∧ (0 < l.length → ra.Ax.isSome = true) ∧ (0 < l.length → ra.ta.Ab.isSome = true) ∧ (0 < l.length → ra.ta.Ar.isSome = true) ∧
        R' = [outQ (toQ n l) ra, rrowsR (toQ n l) ra.ta s.T, rightR (toQ n l) ra s.T, basisR (toQ n l) ra.ta s.B]) := by
  have hn := hb.cnt
  have hlen := hb.len
  have hB := begin_spec n A c l I hl hb
  have hq := hb.small
  have hqm : (toQ n l).m = l.length := rfl
  have hqn : (toQ n l).cnt = n := rfl
  have hNN : (n : Int) + (l.length : Int) = ((toQ n l).N : Int) := by show _ = ((n + l.length : Nat) : Int); omega
  have hNb : (toQ n l).N ≤ 20 := by show n + l.length ≤ 20; omega
  generalize toQ n l = q at hB hq hqm hqn hNN hNb ⊢
  obtain ⟨N, hN⟩ : ∃ N, N = q.N := ⟨_, rfl⟩
  refine FnSpec.enterP Tryz.func39 rfl Tryz.ntmps39 rfl fun w F => ?_
  rw [← hN] at hNN hNb
  repeat' first
    | ((with_reducible refine Nx.is_wp ?_); first | refine Nx.wo ?_ | refine Nx.zp (fun hc => ?_) (fun hc => ?_))
    | (refine Nx.zo ?_; first | refine Nx.opr rfl rfl ?_ | (refine Nx.call rfl rfl rfl (by kernel_rfl) rfl hB (by (exact Ent.auto)) ?_; rintro _ _ ⟨⟨ta, Ax, cx⟩, rfl, hra0, hAx, hAb, rfl⟩) | refine Nx.bin rfl rfl (run_addK (by unfold I64; omega) hNN) rfl ?_ | refine Nx.makeStructs (sz := 2) (by_ := 16) (m := N) frC0 (0, 0) rfl rfl rfl rfl rfl rfl rfl rfl rfl rfl (by omega) (by unfold maxLen; omega) (fun bx => ?_) | refine Nx.so ?_ | refine Nx.sb (fun bx => ?_) | refine Nx.sa (fun A2 c2 => ?_))
    | refine Nx.za ?_ | refine Nx.zr (fun hc => ?_) (fun hc => ?_)
    | refine Nx.zq ?_ | refine Nx.zu (fun hc => ?_) (fun hc => ?_)
    | refine Nx.zx ?_ | fail
  rename_i b4 b6
  revert bx; intro bc
  dsimp only at hra0 hAx hAb
  refine Nx.ent (R' := [outQ q ⟨ta, Ax, cx⟩, Vec 24 2 (some ⟨bc, 0, none⟩) N N ((List.replicate N ((0 : Int), (0 : Int))).flatMap frC0), Blk b6 87 (rtC q ⟨ta, Ax, cx⟩), rrowsR q ta q.s0.T, rightR q ⟨ta, Ax, cx⟩ q.s0.T, basisR q ta q.s0.B, Blk b4 87 [.slice none 0 0, .slice none 0 0, .slice none 0 0], F]) (by rw [← hqm]; (exact Ent.auto)) ?_
  refine Nx.vec_fact fun _ _ _ hAr => ?_
  rw [hqm] at hAr
  have hra : ∀ i, i < q.m → (ta.ra i).1.isSome = true := fun i hi => (hra0 i (by omega)).1
  refine Nx.p_loop (σ := Nat) (fun k => [(0, .int .i64 (n : Int)), (4, .pointer (some ⟨b4, 0, none⟩)), (6, .pointer (some ⟨b6, 0, none⟩)), (7, .slice (some ⟨bc, 0, none⟩) N N), (21, .int .i64 (N : Int)), (22, .int .i64 (k : Int))])
    (fun k => [Vec 24 2 (some ⟨bc, 0, none⟩) N N ((prow N k (Bl.cst (Bl.cost1 q))).flatMap frC0), Blk b6 87 (rtC q ⟨ta, Ax, cx⟩), outQ q ⟨ta, Ax, cx⟩, rrowsR q ta q.s0.T, rightR q ⟨ta, Ax, cx⟩ q.s0.T, basisR q ta q.s0.B, Blk b4 87 [.slice none 0 0, .slice none 0 0, .slice none 0 0], F]) (fun k => k ≤ N) (fun k => N - k) 0 rfl (Nat.zero_le _) ⟨rfl, rfl, rfl, rfl, rfl, rfl, trivial⟩ (by rw [← prow_zero]; (exact Ent.auto)) ?_
  intro k hk
  have hk : k ≤ N := hk
  by_cases hkN : k < N
  · have hset := prow_set (f := Bl.cst (Bl.cost1 q)) hkN
    by_cases hkc : (n : Int) ≤ (k : Int)
    · have hv : Bl.cst (Bl.cost1 q) k = ((-1 : Int) : Rat) := by unfold Bl.cst Bl.cost1; rw [if_neg (by omega)]
      rw [hv] at hset
      have hss : ((prow N k (Bl.cst (Bl.cost1 q))).set k (0, 1)).set k (((-1 : Int) : Rat).num, (((-1 : Int) : Rat).den : Int)) = prow N (k + 1) (Bl.cst (Bl.cost1 q)) := by rw [List.set_set]; exact hset
      repeat' first
        | ((with_reducible refine Nx.is_wp ?_); first | refine Nx.wo ?_ | refine Nx.zp (fun hc => ?_) (fun hc => ?_))
        | (refine Nx.zo ?_; first | refine Nx.opr rfl rfl ?_ | refine Nx.callv rfl rfl rfl (by kernel_rfl) rfl (rwhole_spec _ _) ?_ | refine Nx.indexAddr_nat (A := some ⟨bc, 0, none⟩) (i := k) (sz := 2) rfl rfl rfl rfl rfl hkN rfl ?_ | refine Nx.store_el2 (f := frC0) (a := fun q => .int .i64 q.1) (b := fun q => .int .i64 q.2) (A := some ⟨bc, 0, none⟩) (l := prow N k (Bl.cst (Bl.cost1 q))) (i := k) (z := ((0 : Int), (1 : Int))) 0 rfl rfl rfl (fun _ => rfl) rfl rfl rfl rfl (by rw [prow_len]; exact hkN) hkN ?_ | refine Nx.store_el2 (f := frC0) (a := fun q => .int .i64 q.1) (b := fun q => .int .i64 q.2) (A := some ⟨bc, 0, none⟩) (l := (prow N k (Bl.cst (Bl.cost1 q))).set k ((0 : Int), (1 : Int))) (i := k) (z := (((-1 : Int) : Rat).num, (((-1 : Int) : Rat).den : Int))) 0 rfl rfl rfl (fun _ => rfl) rfl rfl rfl rfl (by rw [List.length_set, prow_len]; exact hkN) hkN ?_ | refine Nx.so ?_ | refine Nx.sb (fun bx => ?_) | refine Nx.sa (fun A2 c2 => ?_))
        | refine Nx.za ?_ | refine Nx.zr (fun hc => ?_) (fun hc => ?_)
        | refine Nx.zq ?_ | refine Nx.zu (fun hc => ?_) (fun hc => ?_)
        | refine Nx.zx ?_ | fail
      exact Nx.again (k + 1) hkN (by omega) ⟨rfl, rfl, rfl, rfl, rfl, rfl, trivial⟩ (by rw [← hss]; (exact Ent.auto))
    · have hv : Bl.cst (Bl.cost1 q) k = ((0 : Int) : Rat) := by unfold Bl.cst Bl.cost1; rw [if_pos (by omega)]
      rw [hv] at hset
      repeat' first
        | ((with_reducible refine Nx.is_wp ?_); first | refine Nx.wo ?_ | refine Nx.zp (fun hc => ?_) (fun hc => ?_))
        | (refine Nx.zo ?_; first | refine Nx.opr rfl rfl ?_ | refine Nx.callv rfl rfl rfl (by kernel_rfl) rfl (rwhole_spec _ _) ?_ | refine Nx.indexAddr_nat (A := some ⟨bc, 0, none⟩) (i := k) (sz := 2) rfl rfl rfl rfl rfl hkN rfl ?_ | refine Nx.store_el2 (f := frC0) (a := fun q => .int .i64 q.1) (b := fun q => .int .i64 q.2) (A := some ⟨bc, 0, none⟩) (l := prow N k (Bl.cst (Bl.cost1 q))) (i := k) (z := (((0 : Int) : Rat).num, (((0 : Int) : Rat).den : Int))) 0 rfl rfl rfl (fun _ => rfl) rfl rfl rfl rfl (by rw [prow_len]; exact hkN) hkN ?_ | refine Nx.so ?_ | refine Nx.sb (fun bx => ?_) | refine Nx.sa (fun A2 c2 => ?_))
        | refine Nx.za ?_ | refine Nx.zr (fun hc => ?_) (fun hc => ?_)
        | refine Nx.zq ?_ | refine Nx.zu (fun hc => ?_) (fun hc => ?_)
        | refine Nx.zx ?_ | fail
      exact Nx.again (k + 1) hkN (by omega) ⟨rfl, rfl, rfl, rfl, rfl, rfl, trivial⟩ (by rw [← hset]; (exact Ent.auto))
  obtain rfl : N = k := by omega
  rw [prow_end]
  refine Nx.freezeAt 0 rfl fun I2 m2 hI2 hm2 hf2 => ?_
  rw [hN] at hf2 ⊢
  have hcost : Rats I2 (some ⟨bc, 0, none⟩) q.N (rl q.N (Bl.cst (Bl.cost1 q))) := Vec.sliceN (t := 24) hm2 (by rw [rl_len]; exact hf2) fun _ _ => rfl
  have hG := fun (m I' : PH) (hle : PH.le I2 I') (hm : PH.le m I') (hv : Stars [outQ q ⟨ta, Ax, cx⟩] m) => greatest_spec q hq ⟨ta, Ax, cx⟩ q.s0 (Bl.s0_inv hq) (Bl.cost1 q) (Bl.cost1_bd q) (some ⟨bc, 0, none⟩) q.N I' (hcost.mono hle) (out_keep hm hv) hra (fun h => hAx (by omega)) (fun h => hAb (by omega))
  rw [hqn] at hG
  repeat' first
    | ((with_reducible refine Nx.is_wp ?_); first | refine Nx.wo ?_ | refine Nx.zp (fun hc => ?_) (fun hc => ?_))
    | (refine Nx.zo ?_; first | refine Nx.opr rfl rfl ?_ | (refine Nx.call rfl rfl rfl (by kernel_rfl) rfl (FnSpec.keep [outQ q ⟨ta, Ax, cx⟩] hG) (by (exact Ent.auto)) ?_; rintro _ _ ⟨_, ⟨s1, bo1, hrun, rfl⟩, rfl⟩) | refine Nx.so ?_ | refine Nx.sb (fun bx => ?_) | refine Nx.sa (fun A2 c2 => ?_))
    | refine Nx.za ?_ | refine Nx.zr (fun hc => ?_) (fun hc => ?_)
    | refine Nx.zq ?_ | refine Nx.zu (fun hc => ?_) (fun hc => ?_)
    | refine Nx.zx ?_ | fail
  rw [← hqn] at hrun
  have hinv := hrun.inv2 (Bl.s0_inv2 hq)
  have hph := Bl.phase1 hrun hq
  refine Nx.p_loop (σ := Nat) (fun i => [(0, .int .i64 (n : Int)), (4, .pointer (some ⟨b4, 0, none⟩)), (6, .pointer (some ⟨b6, 0, none⟩)), (43, .int .i64 (q.m : Int)), (44, .int .i64 (i : Int))])
    (fun _ => [Blk b6 87 (rtC q ⟨ta, Ax, cx⟩), outQ q ⟨ta, Ax, cx⟩, rrowsR q ta s1.T, rightR q ⟨ta, Ax, cx⟩ s1.T, basisR q ta s1.B, Blk b4 87 [.slice none 0 0, .slice none 0 0, .slice none 0 0], F]) (fun i => i ≤ q.m ∧ ∀ j, j < i → q.cnt ≤ s1.B j → s1.T j q.N = 0) (fun i => q.m - i) 0 rfl ⟨Nat.zero_le _, fun j hj => absurd hj (Nat.not_lt_zero _)⟩ ⟨rfl, rfl, rfl, rfl, rfl, trivial⟩ (by (exact Ent.auto)) ?_
  rintro i ⟨hi, hz⟩
  by_cases him : i < q.m
  · have hAb' := hAb (by omega)
    have hAx' := hAx (by omega)
    have hbr := fun (W : World) (R : List Res) (j : Nat) (hj : nthL R j = some (basisR q ta s1.B)) => bas_rd (W := W) (I := I2) j hj him
    have hnr := fun (W : World) (R : List Res) (j : Nat) (hj : nthL R j = some (rightR q ⟨ta, Ax, cx⟩ s1.T)) => Rds.get (right_rds (W := W) (I := I2) (ra := ⟨ta, Ax, cx⟩) j hj him) 0 (u := .int .i64 (s1.T i q.N).num) rfl
    have hzi : (s1.B i < q.cnt ∨ s1.T i q.N = 0) → ∀ j, j < i + 1 → q.cnt ≤ s1.B j → s1.T j q.N = 0 := fun hh j hj hb => by
      by_cases hji : j < i
      · exact hz j hji hb
      · obtain rfl : j = i := by omega
        exact hh.resolve_left (by omega)
    have hbad : q.cnt ≤ s1.B i → s1.T i q.N ≠ 0 → ¬ ∃ x, Bl.Feas q x := fun hb hne hex => hne (hph.2 hex i him hb)
    obtain ⟨xn, hxn⟩ : ∃ xn, xn = s1.T i q.N := ⟨_, rfl⟩
    rw [← hxn] at hnr hzi hbad
    generalize s1.B i = Bi at hbr hzi hbad
    by_cases hB : n ≤ Bi
    case neg =>
      repeat' first
        | ((with_reducible refine Nx.is_wp ?_); first | refine Nx.wo ?_ | refine Nx.zp (fun hc => ?_) (fun hc => ?_))
        | (refine Nx.zo ?_; first | refine Nx.opr rfl rfl ?_ | refine Nx.indexAddr_nat (A := ta.Ab) (i := i) (sz := 1) rfl rfl rfl rfl rfl him hAb' ?_ | refine Nx.load rfl rfl rfl (hbr _ _ 4 rfl) ?_ | refine Nx.so ?_ | refine Nx.sb (fun bx => ?_) | refine Nx.sa (fun A2 c2 => ?_))
        | refine Nx.za ?_ | refine Nx.zr (fun hc => ?_) (fun hc => ?_)
        | refine Nx.zq ?_ | refine Nx.zu (fun hc => ?_) (fun hc => ?_)
        | refine Nx.zx ?_ | fail
      exact Nx.again (i + 1) ⟨him, hzi (.inl (by omega))⟩ (by omega) ⟨rfl, rfl, rfl, rfl, rfl, trivial⟩ (by (exact Ent.auto))
    by_cases hx0 : xn = 0
    · have hn0 : xn.num = 0 := by rw [hx0]; rfl
      repeat' first
        | ((with_reducible refine Nx.is_wp ?_); first | refine Nx.wo ?_ | refine Nx.zp (fun hc => ?_) (fun hc => ?_))
        | (refine Nx.zo ?_; first | refine Nx.fieldAddr (A := (ad Ax).add (i * 2)) rfl rfl rfl ?_ | refine Nx.opr rfl rfl ?_ | refine Nx.indexAddr_nat (A := ta.Ab) (i := i) (sz := 1) rfl rfl rfl rfl rfl him hAb' ?_ | refine Nx.load rfl rfl rfl (hbr _ _ 4 rfl) ?_ | refine Nx.indexAddr_nat (A := Ax) (i := i) (sz := 2) rfl rfl rfl rfl rfl him hAx' ?_ | refine Nx.load rfl rfl rfl (hnr _ _ 3 rfl) ?_ | refine Nx.so ?_ | refine Nx.sb (fun bx => ?_) | refine Nx.sa (fun A2 c2 => ?_))
        | refine Nx.za ?_ | refine Nx.zr (fun hc => ?_) (fun hc => ?_)
        | refine Nx.zq ?_ | refine Nx.zu (fun hc => ?_) (fun hc => ?_)
        | refine Nx.zx ?_ | fail
      exact Nx.again (i + 1) ⟨him, hzi (.inr hx0)⟩ (by omega) ⟨rfl, rfl, rfl, rfl, rfl, trivial⟩ (by (exact Ent.auto))
    · have hn0 : xn.num ≠ 0 := rat_ne hx0
      repeat' first
        | ((with_reducible refine Nx.is_wp ?_); first | refine Nx.wo ?_ | refine Nx.zp (fun hc => ?_) (fun hc => ?_))
        | (refine Nx.zo ?_; first | refine Nx.fieldAddr (A := (ad Ax).add (i * 2)) rfl rfl rfl ?_ | refine Nx.opr rfl rfl ?_ | refine Nx.indexAddr_nat (A := ta.Ab) (i := i) (sz := 1) rfl rfl rfl rfl rfl him hAb' ?_ | refine Nx.load rfl rfl rfl (hbr _ _ 4 rfl) ?_ | refine Nx.indexAddr_nat (A := Ax) (i := i) (sz := 2) rfl rfl rfl rfl rfl him hAx' ?_ | refine Nx.load rfl rfl rfl (hnr _ _ 3 rfl) ?_ | refine Nx.so ?_ | refine Nx.sb (fun bx => ?_) | refine Nx.sa (fun A2 c2 => ?_))
        | refine Nx.za ?_ | refine Nx.zr (fun hc => ?_) (fun hc => ?_)
        | refine Nx.zq ?_ | refine Nx.zu (fun hc => ?_) (fun hc => ?_)
        | refine Nx.zx ?_ | fail
      exact Nx.imm_le hI2 (Nx.ret2 rfl (ROne.cell 0 rfl rfl rfl rfl rfl) (ROne.tmp rfl) [_, _, _, _] ⟨⟨ta, Ax, cx⟩, s1, false, rfl, ⟨fun h => (by cases h), fun h => absurd h (hbad (by omega) hx0)⟩, fun h => (by cases h), fun i hi => hra i (by omega), hAx, hAb, hAr, rfl⟩ (by (exact Ent.auto)))
  obtain rfl : i = q.m := by omega
  have hart : Bl.Art0 q s1 := hz
  have hfeas := hph.1 hart
  repeat' first
    | ((with_reducible refine Nx.is_wp ?_); first | refine Nx.wo ?_ | refine Nx.zp (fun hc => ?_) (fun hc => ?_))
    | (refine Nx.zo ?_; first | refine Nx.opr rfl rfl ?_ | refine Nx.so ?_ | refine Nx.sb (fun bx => ?_) | refine Nx.sa (fun A2 c2 => ?_))
    | refine Nx.za ?_ | refine Nx.zr (fun hc => ?_) (fun hc => ?_)
    | refine Nx.zq ?_ | refine Nx.zu (fun hc => ?_) (fun hc => ?_)
    | refine Nx.zx ?_ | fail
  refine Nx.p_loop (σ := Nat × Bl.Tab) (fun z => [(0, .int .i64 (n : Int)), (4, .pointer (some ⟨b4, 0, none⟩)), (6, .pointer (some ⟨b6, 0, none⟩)), (67, .int .i64 (q.m : Int)), (68, .int .i64 (z.1 : Int))])
    (fun z => [Blk b6 87 (rtC q ⟨ta, Ax, cx⟩), outQ q ⟨ta, Ax, cx⟩, rrowsR q ta z.2.T, rightR q ⟨ta, Ax, cx⟩ z.2.T, basisR q ta z.2.B, Blk b4 87 [.slice none 0 0, .slice none 0 0, .slice none 0 0], F]) (fun z => z.1 ≤ q.m ∧ Bl.Inv2 q z.2 ∧ Bl.Art0 q z.2 ∧ Bl.Zer q z.2 z.1) (fun z => q.m - z.1) (0, s1) rfl ⟨Nat.zero_le _, hinv, hart, fun i hi => absurd hi (Nat.not_lt_zero _)⟩ ⟨rfl, rfl, rfl, rfl, rfl, trivial⟩ (by (exact Ent.auto)) ?_
  clear hrun hph hz hinv hart
  rintro ⟨i, s⟩ ⟨hi, hs, ha, hzr⟩
  dsimp only at hi hs ha hzr ⊢
  by_cases him : i < q.m
  case neg =>
    obtain rfl : i = q.m := by omega
    repeat' first
      | ((with_reducible refine Nx.is_wp ?_); first | refine Nx.wo ?_ | refine Nx.zp (fun hc => ?_) (fun hc => ?_))
      | (refine Nx.zo ?_; first | refine Nx.opr rfl rfl ?_ | refine Nx.so ?_ | refine Nx.sb (fun bx => ?_) | refine Nx.sa (fun A2 c2 => ?_))
      | refine Nx.za ?_ | refine Nx.zr (fun hc => ?_) (fun hc => ?_)
      | refine Nx.zq ?_ | refine Nx.zu (fun hc => ?_) (fun hc => ?_)
      | refine Nx.zx ?_ | fail
    exact Nx.imm_le hI2 (Nx.ret2 rfl (ROne.cell 0 rfl rfl rfl rfl rfl) (ROne.tmp rfl) [_, _, _, _] ⟨⟨ta, Ax, cx⟩, s, true, rfl, ⟨fun _ => hfeas, fun _ => rfl⟩, fun _ => ⟨hs, ha, hzr⟩, fun i hi => hra i (by omega), hAx, hAb, hAr, rfl⟩ (by (exact Ent.auto)))
  have hAb' := hAb (by omega)
  have hAr' := hAr (by omega)
  have hri := hra i him
  repeat' first
    | ((with_reducible refine Nx.is_wp ?_); first | refine Nx.wo ?_ | refine Nx.zp (fun hc => ?_) (fun hc => ?_))
    | (refine Nx.zo ?_; first | refine Nx.opr rfl rfl ?_ | refine Nx.so ?_ | refine Nx.sb (fun bx => ?_) | refine Nx.sa (fun A2 c2 => ?_))
    | refine Nx.za ?_ | refine Nx.zr (fun hc => ?_) (fun hc => ?_)
    | refine Nx.zq ?_ | refine Nx.zu (fun hc => ?_) (fun hc => ?_)
    | refine Nx.zx ?_ | fail
  refine Nx.p_loop (σ := Nat × Bl.Tab) (fun z => [(0, .int .i64 (n : Int)), (4, .pointer (some ⟨b4, 0, none⟩)), (6, .pointer (some ⟨b6, 0, none⟩)), (10, .int .i64 (i : Int)), (11, .int .i64 (z.1 : Int)), (67, .int .i64 (q.m : Int)), (68, .int .i64 (i : Int))])
    (fun z => [Blk b6 87 (rtC q ⟨ta, Ax, cx⟩), outQ q ⟨ta, Ax, cx⟩, rrowsR q ta z.2.T, rightR q ⟨ta, Ax, cx⟩ z.2.T, basisR q ta z.2.B, Blk b4 87 [.slice none 0 0, .slice none 0 0, .slice none 0 0], F]) (fun z => z.1 ≤ n ∧ Bl.Inv2 q z.2 ∧ Bl.Art0 q z.2 ∧ Bl.Zer q z.2 i ∧ (n ≤ z.2.B i → ∀ j, j < z.1 → z.2.T i j = 0)) (fun z => n - z.1) (0, s) rfl ⟨Nat.zero_le _, hs, ha, hzr, fun _ j hj => absurd hj (Nat.not_lt_zero _)⟩ ⟨rfl, rfl, rfl, rfl, rfl, rfl, rfl, trivial⟩ (by (exact Ent.auto)) ?_
  clear hs ha hzr
  rintro ⟨k, s'⟩ ⟨hk, hs, ha, hzr, hzk⟩
  dsimp only at hk hs ha hzr hzk ⊢
  have hend : ¬(k < n ∧ n ≤ s'.B i) → Bl.Zer q s' (i + 1) := fun hh j hj hb x hx => by
    by_cases hji : j < i
    · exact hzr j hji hb x hx
    · obtain rfl : j = i := by omega
      have hkn : ¬ k < n := fun h => hh ⟨h, by omega⟩
      exact hzk (by omega) x (by omega)
  by_cases hkn : k < n
  case neg =>
    have hz1 := hend fun h => hkn h.1
    repeat' first
      | ((with_reducible refine Nx.is_wp ?_); first | refine Nx.wo ?_ | refine Nx.zp (fun hc => ?_) (fun hc => ?_))
      | (refine Nx.zo ?_; first | refine Nx.opr rfl rfl ?_ | refine Nx.so ?_ | refine Nx.sb (fun bx => ?_) | refine Nx.sa (fun A2 c2 => ?_))
      | refine Nx.za ?_ | refine Nx.zr (fun hc => ?_) (fun hc => ?_)
      | refine Nx.zq ?_ | refine Nx.zu (fun hc => ?_) (fun hc => ?_)
      | refine Nx.zx ?_ | fail
    exact Nx.again (i + 1, s') ⟨him, hs, ha, hz1⟩ (by dsimp only; omega) ⟨rfl, rfl, rfl, rfl, rfl, trivial⟩ (by (exact Ent.auto))
  have hbr := fun (W : World) (R : List Res) (j : Nat) (hj : nthL R j = some (basisR q ta s'.B)) => bas_rd (W := W) (I := I2) j hj him
  by_cases hB : n ≤ s'.B i
  case neg =>
    have hz1 := hend fun h => hB h.2
    generalize s'.B i = Bi at hbr hB
    repeat' first
      | ((with_reducible refine Nx.is_wp ?_); first | refine Nx.wo ?_ | refine Nx.zp (fun hc => ?_) (fun hc => ?_))
      | (refine Nx.zo ?_; first | refine Nx.opr rfl rfl ?_ | refine Nx.indexAddr_nat (A := ta.Ab) (i := i) (sz := 1) rfl rfl rfl rfl rfl him hAb' ?_ | refine Nx.load rfl rfl rfl (hbr _ _ 4 rfl) ?_ | refine Nx.so ?_ | refine Nx.sb (fun bx => ?_) | refine Nx.sa (fun A2 c2 => ?_))
      | refine Nx.za ?_ | refine Nx.zr (fun hc => ?_) (fun hc => ?_)
      | refine Nx.zq ?_ | refine Nx.zu (fun hc => ?_) (fun hc => ?_)
      | refine Nx.zx ?_ | fail
    exact Nx.again (i + 1, s') ⟨him, hs, ha, hz1⟩ (by dsimp only; omega) ⟨rfl, rfl, rfl, rfl, rfl, trivial⟩ (by (exact Ent.auto))
  have hN0 := ha i him (by omega)
  have hkN : k < q.N := by show k < q.cnt + q.m; omega
  have hor := fun (W : World) (R : List Res) (j : Nat) (hj : nthL R j = some (outQ q ⟨ta, Ax, cx⟩)) => out_rd (W := W) (I := I2) j hj him
  dsimp only at hor
  have hnr := fun (W : World) (R : List Res) (j : Nat) (hj : nthL R j = some (rrowsR q ta s'.T)) => Rds.get (rnum_rds (W := W) (I := I2) j hj him hkN) 0 (u := .int .i64 (s'.T i k).num) rfl
  by_cases hx0 : s'.T i k = 0
  · have hzk1 : n ≤ s'.B i → ∀ j, j < k + 1 → s'.T i j = 0 := fun hb j hj => by
      by_cases hjk : j < k
      · exact hzk hb j hjk
      · obtain rfl : j = k := by omega
        exact hx0
    have hn0 : (s'.T i k).num = 0 := by rw [hx0]; rfl
    generalize s'.T i k = xn at hnr hn0
    generalize hBi : s'.B i = Bi at hbr hB
    repeat' first
      | ((with_reducible refine Nx.is_wp ?_); first | refine Nx.wo ?_ | refine Nx.zp (fun hc => ?_) (fun hc => ?_))
      | (refine Nx.zo ?_; first | refine Nx.fieldAddr (A := (ad (ta.ra i).1).add (k * 2)) rfl rfl rfl ?_ | refine Nx.opr rfl rfl ?_ | refine Nx.indexAddr_nat (A := ta.Ab) (i := i) (sz := 1) rfl rfl rfl rfl rfl him hAb' ?_ | refine Nx.load rfl rfl rfl (hbr _ _ 4 rfl) ?_ | refine Nx.indexAddr_nat (A := ta.Ar) (i := i) (sz := 1) rfl rfl rfl rfl rfl him hAr' ?_ | refine Nx.load rfl rfl rfl (hor _ _ 1 rfl) ?_ | refine Nx.indexAddr_nat (A := (ta.ra i).1) (i := k) (sz := 2) rfl rfl rfl rfl rfl hkN hri ?_ | refine Nx.load rfl rfl rfl (hnr _ _ 2 rfl) ?_ | refine Nx.so ?_ | refine Nx.sb (fun bx => ?_) | refine Nx.sa (fun A2 c2 => ?_))
      | refine Nx.za ?_ | refine Nx.zr (fun hc => ?_) (fun hc => ?_)
      | refine Nx.zq ?_ | refine Nx.zu (fun hc => ?_) (fun hc => ?_)
      | refine Nx.zx ?_ | fail
    exact Nx.again (k + 1, s') ⟨hkn, hs, ha, hzr, hzk1⟩ (by dsimp only; omega) ⟨rfl, rfl, rfl, rfl, rfl, rfl, rfl, trivial⟩ (by (exact Ent.auto))
  have hP := fun (m I' : PH) (hle : PH.le I2 I') (hm : PH.le m I') (hv : Stars [outQ q ⟨ta, Ax, cx⟩] m) => rpivot_spec q hq ⟨ta, Ax, cx⟩ s' hs.inv i k him (by omega) hx0 (hs.inv.out him (by omega) hx0 hN0) I' (out_keep hm hv) hra (hAx (by omega)) hAb'
  have hp1 : Bl.Inv2 q (Bl.piv s' i k) := hs.out him (by omega) hx0 hN0
  have hp2 : Bl.Art0 q (Bl.piv s' i k) := Bl.art0_piv ha hN0
  have hp3 : Bl.Zer q (Bl.piv s' i k) i := Bl.zer_piv hzr (by omega)
  have hp4 : n ≤ (Bl.piv s' i k).B i → ∀ j, j < k + 1 → (Bl.piv s' i k).T i j = 0 := fun hb => by
    have : (Bl.piv s' i k).B i = k := if_pos rfl
    omega
  have hn0 : (s'.T i k).num ≠ 0 := rat_ne hx0
  generalize s'.T i k = xn at hnr hn0
  generalize hBi : s'.B i = Bi at hbr hB
  repeat' first
    | ((with_reducible refine Nx.is_wp ?_); first | refine Nx.wo ?_ | refine Nx.zp (fun hc => ?_) (fun hc => ?_))
    | (refine Nx.zo ?_; first | refine Nx.fieldAddr (A := (ad (ta.ra i).1).add (k * 2)) rfl rfl rfl ?_ | refine Nx.opr rfl rfl ?_ | refine Nx.indexAddr_nat (A := ta.Ab) (i := i) (sz := 1) rfl rfl rfl rfl rfl him hAb' ?_ | refine Nx.load rfl rfl rfl (hbr _ _ 4 rfl) ?_ | refine Nx.indexAddr_nat (A := ta.Ar) (i := i) (sz := 1) rfl rfl rfl rfl rfl him hAr' ?_ | refine Nx.load rfl rfl rfl (hor _ _ 1 rfl) ?_ | refine Nx.indexAddr_nat (A := (ta.ra i).1) (i := k) (sz := 2) rfl rfl rfl rfl rfl hkN hri ?_ | refine Nx.load rfl rfl rfl (hnr _ _ 2 rfl) ?_ | (refine Nx.call rfl rfl rfl (by kernel_rfl) rfl (FnSpec.keep [outQ q ⟨ta, Ax, cx⟩] hP) (by (exact Ent.auto)) ?_; rintro _ _ ⟨_, rfl, rfl⟩) | refine Nx.so ?_ | refine Nx.sb (fun bx => ?_) | refine Nx.sa (fun A2 c2 => ?_))
    | refine Nx.za ?_ | refine Nx.zr (fun hc => ?_) (fun hc => ?_)
    | refine Nx.zq ?_ | refine Nx.zu (fun hc => ?_) (fun hc => ?_)
    | refine Nx.zx ?_ | fail
  exact Nx.again (k + 1, Bl.piv s' i k) ⟨hkn, hp1, hp2, hp3, hp4⟩ (by dsimp only; omega) ⟨rfl, rfl, rfl, rfl, rfl, rfl, rfl, trivial⟩ (by (exact Ent.auto))
end Go.Proofs.YtpcnapidlhpbkaaGreatDoor
namespace Go.Proofs.YtpcnapidlhpbkaaGreatDoor
open Go.Eng Go.Sol
attribute [local irreducible] opK wpList Code.wp Exit.then Exit.inBlock fnPost bodyPost Nx Calls Oper.wp Rd Rds Wr Ent Stars Blk Again Vec FnSpec wpMix QRun Stop Upto wpAt
def inB (l : List EqR) (k : Int) : Bool := l.any fun q => decide (k ∈ q.1.2.2)
theorem inB_unb {n : Nat} {l : List EqR} {k : Nat} : inB l k = false ↔ Unb (toQ n l) k := by
  unfold inB Unb
  rw [← Bool.not_eq_true, List.any_eq_true]
  constructor
  · intro h j hj
    refine decide_eq_false fun hm => h ⟨l.getD j default, getD_memQ hj, decide_eq_true hm⟩
  · rintro h ⟨q, hq, hm⟩
    obtain ⟨j, hj, rfl⟩ := List.mem_iff_getElem.1 hq
    have := h j hj
    have e : l.getD j default = l[j] := by rw [List.getD_eq_getElem?_getD, List.getElem?_eq_getElem hj]; rfl
    rw [show (toQ n l).cell j k = decide ((k : Int) ∈ (l.getD j default).1.2.2) from rfl, e, hm] at this
    cases this
set_option maxRecDepth 10000 in
theorem rin_spec (A : Option Addr) (c : Nat) (l : List EqR) (k : Int) (I : PH) (hl : Eqs I A c l) :
    FnSpec Tryz.prog 40 [.slice A l.length c, .int .i64 k] I [] (fun v R' => v = .bool (inB l k) ∧ R' = []) := by
  have hlen := hl.len
  refine FnSpec.enterP Tryz.func40 rfl Tryz.ntmps40 rfl fun w F => ?_
  repeat' first
    | ((with_reducible refine Nx.is_wp ?_); first | refine Nx.wo ?_ | refine Nx.zp (fun hc => ?_) (fun hc => ?_))
    | (refine Nx.zo ?_; first | refine Nx.opr rfl rfl ?_ | refine Nx.so ?_ | refine Nx.sb (fun bx => ?_) | refine Nx.sa (fun A2 c2 => ?_))
    | refine Nx.za ?_ | refine Nx.zr (fun hc => ?_) (fun hc => ?_)
    | refine Nx.zq ?_ | refine Nx.zu (fun hc => ?_) (fun hc => ?_)
    | refine Nx.zx ?_ | fail
  refine Nx.p_loop (σ := Nat) (fun i => [(1, .int .i64 k), (9, .slice A l.length c), (10, .int .i64 l.length), (11, .int .i64 (i : Int))])
    (fun _ => [F]) (fun i => i ≤ l.length ∧ inB (l.take i) k = false) (fun i => l.length - i) 0 rfl ⟨Nat.zero_le _, rfl⟩ ⟨rfl, rfl, rfl, rfl, trivial⟩ (by (exact Ent.auto)) ?_
  rintro i ⟨hi, hno⟩
  by_cases him : i < l.length
  case neg =>
    obtain rfl : i = l.length := by omega
    rw [List.take_length] at hno
    repeat' first
      | ((with_reducible refine Nx.is_wp ?_); first | refine Nx.wo ?_ | refine Nx.zp (fun hc => ?_) (fun hc => ?_))
      | (refine Nx.zo ?_; first | refine Nx.opr rfl rfl ?_ | refine Nx.so ?_ | refine Nx.sb (fun bx => ?_) | refine Nx.sa (fun A2 c2 => ?_))
      | refine Nx.za ?_ | refine Nx.zr (fun hc => ?_) (fun hc => ?_)
      | refine Nx.zq ?_ | refine Nx.zu (fun hc => ?_) (fun hc => ?_)
      | refine Nx.zx ?_ | fail
    exact Nx.ret_fn rfl [] ⟨by rw [hno], rfl⟩ (by (exact Ent.auto))
  have hm := getD_memQ him
  have hin := hl.inner _ hm
  have hrds : ∀ (W : World) (R : List Res), Rds W I R ((ad A).add (i * 2)) (eqC (l.getD i default)) := fun W R => hl.outer.rds him
  have hA := hl.outer.isSome (by omega) (by omega)
  have hyes : k ∈ (l.getD i default).1.2.2 → inB l k = true := fun h => List.any_eq_true.2 ⟨_, hm, decide_eq_true h⟩
  have hnx : k ∉ (l.getD i default).1.2.2 → inB (l.take (i + 1)) k = false := fun h => by
    unfold inB at hno ⊢
    rw [take_snocQ him, List.any_append, hno, List.any_cons, decide_eq_false h]; rfl
  generalize l.getD i default = q at hm hin hrds hyes hnx
  obtain ⟨⟨Ax, cx, L⟩, vx⟩ := q
  dsimp only at hin hyes hnx
  have hLl := hin.len
  repeat' first
    | ((with_reducible refine Nx.is_wp ?_); first | refine Nx.wo ?_ | refine Nx.zp (fun hc => ?_) (fun hc => ?_))
    | (refine Nx.zo ?_; first | refine Nx.opr rfl rfl ?_ | refine Nx.indexAddr_nat (A := A) (i := i) (sz := 2) rfl rfl rfl rfl rfl him hA ?_ | refine Nx.loads rfl rfl rfl rfl (hrds _ _) rfl ?_ | refine Nx.so ?_ | refine Nx.sb (fun bx => ?_) | refine Nx.sa (fun A2 c2 => ?_))
    | refine Nx.za ?_ | refine Nx.zr (fun hc => ?_) (fun hc => ?_)
    | refine Nx.zq ?_ | refine Nx.zu (fun hc => ?_) (fun hc => ?_)
    | refine Nx.zx ?_ | fail
  revert bx; intro b6
  refine Nx.p_loop (σ := Nat) (fun j => [(1, .int .i64 k), (9, .slice A l.length c), (10, .int .i64 l.length), (11, .int .i64 (i : Int)), (16, .slice Ax L.length cx), (17, .int .i64 L.length), (18, .int .i64 (j : Int))])
    (fun _ => [F]) (fun j => j ≤ L.length ∧ k ∉ L.take j) (fun j => L.length - j) 0 rfl ⟨Nat.zero_le _, by simp⟩ ⟨rfl, rfl, rfl, rfl, rfl, rfl, rfl, trivial⟩ (by (exact Ent.auto)) ?_
  rintro j ⟨hj, hnj⟩
  by_cases hjL : j < L.length
  case neg =>
    obtain rfl : j = L.length := by omega
    rw [List.take_length] at hnj
    repeat' first
      | ((with_reducible refine Nx.is_wp ?_); first | refine Nx.wo ?_ | refine Nx.zp (fun hc => ?_) (fun hc => ?_))
      | (refine Nx.zo ?_; first | refine Nx.opr rfl rfl ?_ | refine Nx.so ?_ | refine Nx.sb (fun bx => ?_) | refine Nx.sa (fun A2 c2 => ?_))
      | refine Nx.za ?_ | refine Nx.zr (fun hc => ?_) (fun hc => ?_)
      | refine Nx.zq ?_ | refine Nx.zu (fun hc => ?_) (fun hc => ?_)
      | refine Nx.zx ?_ | fail
    exact Nx.again (i + 1) ⟨him, hnx hnj⟩ (by omega) ⟨rfl, rfl, rfl, rfl, trivial⟩ (by (exact Ent.auto))
  have hrd : ∀ (W : World) (R : List Res), Rd W I R ((ad Ax).add (j * 1)) (.int .i64 (L.getD j default)) := fun W R => hin.rd hjL
  have hAx := hin.isSome (by omega)
  have hmem : L.getD j default ∈ L := by rw [List.getD_eq_getElem?_getD, List.getElem?_eq_getElem hjL]; exact List.getElem_mem _
  have hts := take_snocJ hjL
  generalize L.getD j default = y at hrd hmem hts
  by_cases hy : y = k
  · subst hy
    repeat' first
      | ((with_reducible refine Nx.is_wp ?_); first | refine Nx.wo ?_ | refine Nx.zp (fun hc => ?_) (fun hc => ?_))
      | (refine Nx.zo ?_; first | refine Nx.opr rfl rfl ?_ | refine Nx.indexAddr_nat (A := Ax) (i := j) (sz := 1) rfl rfl rfl rfl rfl hjL hAx ?_ | refine Nx.load rfl rfl rfl (hrd _ _) ?_ | refine Nx.so ?_ | refine Nx.sb (fun bx => ?_) | refine Nx.sa (fun A2 c2 => ?_))
      | refine Nx.za ?_ | refine Nx.zr (fun hc => ?_) (fun hc => ?_)
      | refine Nx.zq ?_ | refine Nx.zu (fun hc => ?_) (fun hc => ?_)
      | refine Nx.zx ?_ | fail
    all_goals first
      | exact Nx.ret_fn rfl [] ⟨by rw [hyes hmem], rfl⟩ (by (exact Ent.auto))
      | exact absurd rfl (by assumption)
  · have hnj2 : k ∉ L.take (j + 1) := by
      rw [hts, List.mem_append, List.mem_singleton]
      rintro (h | h)
      · exact hnj h
      · exact hy h.symm
    repeat' first
      | ((with_reducible refine Nx.is_wp ?_); first | refine Nx.wo ?_ | refine Nx.zp (fun hc => ?_) (fun hc => ?_))
      | (refine Nx.zo ?_; first | refine Nx.opr rfl rfl ?_ | refine Nx.indexAddr_nat (A := Ax) (i := j) (sz := 1) rfl rfl rfl rfl rfl hjL hAx ?_ | refine Nx.load rfl rfl rfl (hrd _ _) ?_ | refine Nx.so ?_ | refine Nx.sb (fun bx => ?_) | refine Nx.sa (fun A2 c2 => ?_))
      | refine Nx.za ?_ | refine Nx.zr (fun hc => ?_) (fun hc => ?_)
      | refine Nx.zq ?_ | refine Nx.zu (fun hc => ?_) (fun hc => ?_)
      | refine Nx.zx ?_ | fail
    all_goals first
      | exact Nx.again (j + 1) ⟨hjL, hnj2⟩ (by omega) ⟨rfl, rfl, rfl, rfl, rfl, rfl, rfl, trivial⟩ (by (exact Ent.auto))
      | exact absurd (by assumption) hy
set_option maxRecDepth 10000 in
theorem rcheck_spec (n : Int) (A : Option Addr) (c : Nat) (l : List EqR) (I : PH) (hl : Eqs I A c l) :
    FnSpec Tryz.prog 38 [.int .i64 n, .slice A l.length c] I [] (fun v R' => v = .int .i64 (chkB n l 0) ∧ R' = []) := by
  have hlen := hl.len
  have hV := RValid_spec n A c l I hl
  unfold chkB
  refine FnSpec.enterP Tryz.func38 rfl Tryz.ntmps38 rfl fun w F => ?_
  by_cases h1 : 1 ≤ n
  case neg =>
    rw [if_pos (.inl (by omega))]
    repeat' first
      | ((with_reducible refine Nx.is_wp ?_); first | refine Nx.wo ?_ | refine Nx.zp (fun hc => ?_) (fun hc => ?_))
      | (refine Nx.zo ?_; first | refine Nx.opr rfl rfl ?_ | refine Nx.so ?_ | refine Nx.sb (fun bx => ?_) | refine Nx.sa (fun A2 c2 => ?_))
      | refine Nx.za ?_ | refine Nx.zr (fun hc => ?_) (fun hc => ?_)
      | refine Nx.zq ?_ | refine Nx.zu (fun hc => ?_) (fun hc => ?_)
      | refine Nx.zx ?_ | fail
    exact Nx.ret_fn rfl [] ⟨rfl, rfl⟩ (by (exact Ent.auto))
  by_cases h2 : n ≤ 10
  case neg =>
    rw [if_pos (.inl (by omega))]
    repeat' first
      | ((with_reducible refine Nx.is_wp ?_); first | refine Nx.wo ?_ | refine Nx.zp (fun hc => ?_) (fun hc => ?_))
      | (refine Nx.zo ?_; first | refine Nx.opr rfl rfl ?_ | refine Nx.so ?_ | refine Nx.sb (fun bx => ?_) | refine Nx.sa (fun A2 c2 => ?_))
      | refine Nx.za ?_ | refine Nx.zr (fun hc => ?_) (fun hc => ?_)
      | refine Nx.zq ?_ | refine Nx.zu (fun hc => ?_) (fun hc => ?_)
      | refine Nx.zx ?_ | fail
    exact Nx.ret_fn rfl [] ⟨rfl, rfl⟩ (by (exact Ent.auto))
  cases hv : validB n l with
  | false =>
    rw [hv] at hV
    rw [if_pos (.inr rfl)]
    repeat' first
      | ((with_reducible refine Nx.is_wp ?_); first | refine Nx.wo ?_ | refine Nx.zp (fun hc => ?_) (fun hc => ?_))
      | (refine Nx.zo ?_; first | refine Nx.opr rfl rfl ?_ | refine Nx.callv rfl rfl rfl (by kernel_rfl) rfl hV ?_ | refine Nx.so ?_ | refine Nx.sb (fun bx => ?_) | refine Nx.sa (fun A2 c2 => ?_))
      | refine Nx.za ?_ | refine Nx.zr (fun hc => ?_) (fun hc => ?_)
      | refine Nx.zq ?_ | refine Nx.zu (fun hc => ?_) (fun hc => ?_)
      | refine Nx.zx ?_ | fail
    exact Nx.ret_fn rfl [] ⟨rfl, rfl⟩ (by (exact Ent.auto))
  | true =>
  rw [hv] at hV
  rw [if_neg (by rintro (h | h); exact h ⟨h1, h2⟩; cases h)]
  by_cases h3 : l.length ≤ 10
  case neg =>
    rw [if_pos (by omega)]
    repeat' first
      | ((with_reducible refine Nx.is_wp ?_); first | refine Nx.wo ?_ | refine Nx.zp (fun hc => ?_) (fun hc => ?_))
      | (refine Nx.zo ?_; first | refine Nx.opr rfl rfl ?_ | refine Nx.callv rfl rfl rfl (by kernel_rfl) rfl hV ?_ | refine Nx.so ?_ | refine Nx.sb (fun bx => ?_) | refine Nx.sa (fun A2 c2 => ?_))
      | refine Nx.za ?_ | refine Nx.zr (fun hc => ?_) (fun hc => ?_)
      | refine Nx.zq ?_ | refine Nx.zu (fun hc => ?_) (fun hc => ?_)
      | refine Nx.zx ?_ | fail
    exact Nx.ret_fn rfl [] ⟨rfl, rfl⟩ (by (exact Ent.auto))
  rw [if_neg (by omega)]
  repeat' first
    | ((with_reducible refine Nx.is_wp ?_); first | refine Nx.wo ?_ | refine Nx.zp (fun hc => ?_) (fun hc => ?_))
    | (refine Nx.zo ?_; first | refine Nx.opr rfl rfl ?_ | refine Nx.callv rfl rfl rfl (by kernel_rfl) rfl hV ?_ | refine Nx.so ?_ | refine Nx.sb (fun bx => ?_) | refine Nx.sa (fun A2 c2 => ?_))
    | refine Nx.za ?_ | refine Nx.zr (fun hc => ?_) (fun hc => ?_)
    | refine Nx.zq ?_ | refine Nx.zu (fun hc => ?_) (fun hc => ?_)
    | refine Nx.zx ?_ | fail
  refine Nx.p_loop (σ := Nat) (fun i => [(22, .slice A l.length c), (23, .int .i64 l.length), (24, .int .i64 (i : Int))])
    (fun _ => [F]) (fun i => i ≤ l.length ∧ (l.take i).any bigQ = false) (fun i => l.length - i) 0 rfl ⟨Nat.zero_le _, rfl⟩ ⟨rfl, rfl, rfl, trivial⟩ (by (exact Ent.auto)) ?_
  rintro i ⟨hi, hno⟩
  by_cases him : i < l.length
  case neg =>
    obtain rfl : i = l.length := by omega
    rw [List.take_length] at hno
    rw [if_neg (by rintro (h | h); rw [hno] at h; cases h; exact h ⟨by omega, by omega⟩)]
    repeat' first
      | ((with_reducible refine Nx.is_wp ?_); first | refine Nx.wo ?_ | refine Nx.zp (fun hc => ?_) (fun hc => ?_))
      | (refine Nx.zo ?_; first | refine Nx.opr rfl rfl ?_ | refine Nx.so ?_ | refine Nx.sb (fun bx => ?_) | refine Nx.sa (fun A2 c2 => ?_))
      | refine Nx.za ?_ | refine Nx.zr (fun hc => ?_) (fun hc => ?_)
      | refine Nx.zq ?_ | refine Nx.zu (fun hc => ?_) (fun hc => ?_)
      | refine Nx.zx ?_ | fail
    exact Nx.ret_fn rfl [] ⟨rfl, rfl⟩ (by (exact Ent.auto))
  have hm := getD_memQ him
  have hrds : ∀ (W : World) (R : List Res), Rds W I R ((ad A).add (i * 2)) (eqC (l.getD i default)) := fun W R => hl.outer.rds him
  have hA := hl.outer.isSome (by omega) (by omega)
  have hsn := take_snocQ him
  generalize l.getD i default = q at hm hrds hsn
  by_cases hb : 1000 < q.2
  · rw [if_pos (.inl (List.any_eq_true.2 ⟨q, hm, decide_eq_true hb⟩))]
    repeat' first
      | ((with_reducible refine Nx.is_wp ?_); first | refine Nx.wo ?_ | refine Nx.zp (fun hc => ?_) (fun hc => ?_))
      | (refine Nx.zo ?_; first | refine Nx.opr rfl rfl ?_ | refine Nx.indexAddr_nat (A := A) (i := i) (sz := 2) rfl rfl rfl rfl rfl him hA ?_ | refine Nx.loads rfl rfl rfl rfl (hrds _ _) rfl ?_ | refine Nx.so ?_ | refine Nx.sb (fun bx => ?_) | refine Nx.sa (fun A2 c2 => ?_))
      | refine Nx.za ?_ | refine Nx.zr (fun hc => ?_) (fun hc => ?_)
      | refine Nx.zq ?_ | refine Nx.zu (fun hc => ?_) (fun hc => ?_)
      | refine Nx.zx ?_ | fail
    exact Nx.ret_fn rfl [] ⟨rfl, rfl⟩ (by (exact Ent.auto))
  · repeat' first
      | ((with_reducible refine Nx.is_wp ?_); first | refine Nx.wo ?_ | refine Nx.zp (fun hc => ?_) (fun hc => ?_))
      | (refine Nx.zo ?_; first | refine Nx.opr rfl rfl ?_ | refine Nx.indexAddr_nat (A := A) (i := i) (sz := 2) rfl rfl rfl rfl rfl him hA ?_ | refine Nx.loads rfl rfl rfl rfl (hrds _ _) rfl ?_ | refine Nx.so ?_ | refine Nx.sb (fun bx => ?_) | refine Nx.sa (fun A2 c2 => ?_))
      | refine Nx.za ?_ | refine Nx.zr (fun hc => ?_) (fun hc => ?_)
      | refine Nx.zq ?_ | refine Nx.zu (fun hc => ?_) (fun hc => ?_)
      | refine Nx.zx ?_ | fail
    exact Nx.again (i + 1) ⟨him, by rw [hsn, List.any_append, hno, List.any_cons, show bigQ q = false from decide_eq_false hb]; rfl⟩ (by omega) ⟨rfl, rfl, rfl, trivial⟩ (by (exact Ent.auto))
end Go.Proofs.YtpcnapidlhpbkaaGreatDoor
namespace Go.Proofs.YtpcnapidlhpbkaaGreatDoor
open Go.Eng Go.Sol
attribute [local irreducible] opK wpList Code.wp Exit.then Exit.inBlock fnPost bodyPost Nx Calls Oper.wp Rd Rds Wr Ent Stars Blk Again Vec FnSpec wpMix QRun Stop Upto wpAt
attribute [local irreducible] wpFork
structure RQ (I : PH) (q : Bl.Eqs) (ra : RA) (s : Bl.Tab) : Prop where
  outer : SliceOf (fun i : Nat => Value.slice (ra.ta.ra i).1 q.N (ra.ta.ra i).2) I ra.ta.Ar ra.ta.cr (List.range q.m)
  rows : ∀ i, i < q.m → Rats I (ra.ta.ra i).1 (ra.ta.ra i).2 (rl q.N (s.T i))
  right : Rats I ra.Ax ra.cx (rl q.m fun i => s.T i q.N)
  basis : SliceOf (fun i : Nat => Value.int .i64 (s.B i : Int)) I ra.ta.Ab ra.ta.cb (List.range q.m)
theorem rq_of {q : Bl.Eqs} {ra : RA} {s : Bl.Tab} {m I' : PH} (hm : PH.le m I') (h : Stars [outQ q ra, rrowsR q ra.ta s.T, rightR q ra s.T, basisR q ra.ta s.B] m) : RQ I' q ra s := by
  obtain ⟨m0, d0, h0⟩ := Stars.get 0 h rfl
  obtain ⟨m2, d2, h2⟩ := Stars.get 1 h rfl
  obtain ⟨m3, d3, h3⟩ := Stars.get 2 h rfl
  obtain ⟨m1, d1, h1⟩ := Stars.get 3 h rfl
  refine ⟨outer_frozen (d0.trans hm) h0, fun i hi => ?_, ?_, ?_⟩
  · obtain ⟨m4, d4, h4⟩ := Stars.nth (i := i) h2 (by rw [List.getElem?_map]; unfold rowsL; rw [List.getElem?_map, List.getElem?_range hi]; rfl)
    have h4 : Vec 24 2 (ra.ta.ra i).1 q.N (ra.ta.ra i).2 ((rl q.N (s.T i)).flatMap ratC) m4 := h4
    exact Vec.sliceN (t := 24) (l := rl q.N (s.T i)) ((d4.trans d2).trans hm) (by rw [rl_len]; exact h4) fun _ _ => rfl
  · have h3 : Vec 24 2 ra.Ax q.m ra.cx ((rl q.m fun i => s.T i q.N).flatMap ratC) m3 := h3
    exact Vec.sliceN (t := 24) (l := rl q.m fun i => s.T i q.N) (d3.trans hm) (by rw [rl_len]; exact h3) fun _ _ => rfl
  · have h1 : Vec 3 1 ra.ta.Ab q.m ra.ta.cb ((basL q s.B).map (Value.int .i64)) m1 := h1
    refine Vec.sliceOf (t := 3) (d1.trans hm) ?_
    rw [List.length_range]
    unfold basL at h1
    rw [List.map_map] at h1
    exact h1
section
variable {I : PH} {q : Bl.Eqs} {ra : RA} {s : Bl.Tab} {W : World} {R : List Res}
theorem RQ.row (h : RQ I q ra s) {i : Nat} (hi : i < q.m) : Rd W I R ((ad ra.ta.Ar).add (i * 1)) (.slice (ra.ta.ra i).1 q.N (ra.ta.ra i).2) := by
  have := h.outer.rd (W := W) (R := R) (k := i) (by rw [List.length_range]; exact hi)
  rwa [range_getD hi] at this
theorem RQ.bas (h : RQ I q ra s) {i : Nat} (hi : i < q.m) : Rd W I R ((ad ra.ta.Ab).add (i * 1)) (.int .i64 (s.B i : Int)) := by
  have := h.basis.rd (W := W) (R := R) (k := i) (by rw [List.length_range]; exact hi)
  rwa [range_getD hi] at this
theorem RQ.num (h : RQ I q ra s) {i k : Nat} (hi : i < q.m) (hk : k < q.N) : Rds W I R ((ad (ra.ta.ra i).1).add (k * 2)) (ratC (s.T i k)) := by
  have := (h.rows i hi).rds (W := W) (R := R) (k := k) (by rw [rl_len]; exact hk)
  rwa [rl_at _ hk] at this
theorem RQ.rgt (h : RQ I q ra s) {i : Nat} (hi : i < q.m) : Rds W I R ((ad ra.Ax).add (i * 2)) (ratC (s.T i q.N)) := by
  have := h.right.rds (W := W) (R := R) (k := i) (by rw [rl_len]; exact hi)
  rwa [rl_at _ hi] at this
end
def wsm (q : Bl.Eqs) (cell : Nat) (up : Bool) (s : Bl.Tab) (j i : Nat) : Rat := Bl.sm i fun a => Bl.cst (Bl.cost2 cell up) (s.B a) * s.T a (q.cnt + j)
theorem wsm_succ (q : Bl.Eqs) (cell : Nat) (up : Bool) (s : Bl.Tab) (j i : Nat) : wsm q cell up s j (i + 1) = wsm q cell up s j i + Bl.cst (Bl.cost2 cell up) (s.B i) * s.T i (q.cnt + j) := rfl
theorem wsm_skip {q : Bl.Eqs} {cell : Nat} {up : Bool} {s : Bl.Tab} {j i : Nat} (hc : cell < q.cnt) (hB : q.cnt ≤ s.B i) : wsm q cell up s j (i + 1) = wsm q cell up s j i := by
  rw [wsm_succ]
  have h : Bl.cst (Bl.cost2 cell up) (s.B i) = 0 := by unfold Bl.cst Bl.cost2; rw [if_neg (by omega)]; rfl
  rw [h]; grind
theorem wsm_wt (q : Bl.Eqs) (cell : Nat) (up : Bool) (s : Bl.Tab) (j : Nat) : Bl.wt q cell up s j = if up then wsm q cell up s j q.m else -wsm q cell up s j q.m := by
  unfold Bl.wt Bl.y wsm
  cases up
  · rw [Bl.sgn_f, if_neg Bool.false_ne_true]; grind
  · rw [Bl.sgn_t, if_pos rfl]; grind
theorem cs2_up (q : Bl.Eqs) (cell : Nat) : rl q.N (updF (fun _ => 0) cell 1) = rl q.N (Bl.cst (Bl.cost2 cell true)) := rl_congr fun k _ => by
  unfold updF Bl.cst Bl.cost2 Bl.sgn
  by_cases h : k = cell
  · rw [if_pos h, if_pos h]; rfl
  · rw [if_neg h, if_neg h]; rfl
theorem cs2_down (q : Bl.Eqs) (cell : Nat) : rl q.N (updF (updF (fun _ => 0) cell 1) cell (-1)) = rl q.N (Bl.cst (Bl.cost2 cell false)) := rl_congr fun k _ => by
  unfold updF Bl.cst Bl.cost2 Bl.sgn
  by_cases h : k = cell
  · rw [if_pos h, if_pos h]; rfl
  · rw [if_neg h, if_neg h, if_neg h]; rfl
set_option maxRecDepth 10000 in
theorem bound12 (w : World) (Q : Exit → Act → World → Prop) (hQ : PanicOk Q) (RR : List Res) (n : Nat) (hn10 : n ≤ 10) (cell : Int) (up : Bool) (v1 v8 v9 v11 : Value) (I : PH)
    (h : ∀ b' b13, Nx ⟨Tryz.prog, 155, w⟩ [(0, .int .i64 (n : Int)), (1, v1), (2, .int .i64 cell), (3, .bool up), (8, v8), (9, v9), (11, v11), (13, .pointer (some ⟨b13, 0, none⟩))] I
      (Blk b13 27 [.int .i64 cell, .bool up, .int .i64 0, .int .i64 1, .slice (some ⟨b', 0, none⟩) n n, .slice none 0 0] :: Vec 24 2 (some ⟨b', 0, none⟩) n n ((List.replicate n ((0 : Int), (0 : Int))).flatMap frC0) :: RR) (Q .normal)) :
    Nx ⟨Tryz.prog, 155, w⟩ [(0, .int .i64 (n : Int)), (1, v1), (2, .int .i64 cell), (3, .bool up), (8, v8), (9, v9), (11, v11)] I RR (Code.wp Tryz.prog (cl (cr (cr (cr (cr (cr (cr (cr (bodyOf Tryz.f41))))))))) Q) := by
  have hW : FnSpec Tryz.prog 52 [.int .i64 0] I [] (fun v R' => v = .agg #[.int .i64 0, .int .i64 1] ∧ R' = []) := rwhole_spec 0 I
  refine Nx.p_forkF (id := 12) rfl [7] [7] [7] [] rfl rfl (by kernel_rfl) (by kernel_rfl) hQ (Ent.nil _) ?_
  refine Nx.forkF_qs [0, 1, 3] 5 rfl (by kernel_rfl) ?_
  repeat' first
    | ((with_reducible refine Nx.is_wp ?_); first | refine Nx.wo ?_ | refine Nx.zp (fun hc => ?_) (fun hc => ?_))
    | (refine Nx.zo ?_; first | refine Nx.opr rfl rfl ?_ | refine Nx.so ?_ | refine Nx.sb (fun bx => ?_) | refine Nx.sa (fun A2 c2 => ?_))
    | refine Nx.za ?_ | refine Nx.zr (fun hc => ?_) (fun hc => ?_)
    | refine Nx.zq ?_ | refine Nx.zu (fun hc => ?_) (fun hc => ?_)
    | refine Nx.zx ?_ | fail
  refine Nx.forkF3 (i := 2) (j := 4) (k := 6) (by kernel_rfl) rfl rfl rfl rfl rfl rfl ?_ ?_ ?_
  · refine Nx.callv rfl rfl rfl (by kernel_rfl) rfl hW ?_
    refine Nx.mix_S (by (exact Ent.auto)) ?_
    refine Nx.forkF2 (i := 4) (j := 6) (by kernel_rfl) rfl rfl rfl rfl ?_ ?_
    · refine Nx.makeStructs (sz := 2) (by_ := 16) (m := n) frC0 (0, 0) rfl rfl rfl rfl rfl rfl rfl rfl rfl rfl (by omega) (by unfold maxLen; omega) (fun b' => ?_)
      refine Nx.mix_S (by (exact Ent.auto)) ?_
      refine Nx.forkF_q 5 (by kernel_rfl) ?_
      repeat' first
        | ((with_reducible refine Nx.is_wp ?_); first | refine Nx.wo ?_ | refine Nx.zp (fun hc => ?_) (fun hc => ?_))
        | (refine Nx.zo ?_; first | refine Nx.opr rfl rfl ?_ | refine Nx.so ?_ | refine Nx.sb (fun bx => ?_) | refine Nx.sa (fun A2 c2 => ?_))
        | refine Nx.za ?_ | refine Nx.zr (fun hc => ?_) (fun hc => ?_)
        | refine Nx.zq ?_ | refine Nx.zu (fun hc => ?_) (fun hc => ?_)
        | refine Nx.zx ?_ | fail
      refine Nx.forkF1 (i := 6) (by kernel_rfl) rfl rfl ?_
      refine Nx.sb (fun b13 => ?_)
      refine Nx.mix_S (by (exact Ent.auto)) ?_
      refine Nx.forkF_fin (by kernel_rfl) (by kernel_rfl) rfl ?_
      repeat' first
        | ((with_reducible refine Nx.is_wp ?_); first | refine Nx.wo ?_ | refine Nx.zp (fun hc => ?_) (fun hc => ?_))
        | (refine Nx.zo ?_; first | refine Nx.opr rfl rfl ?_ | refine Nx.so ?_ | refine Nx.sb (fun bx => ?_) | refine Nx.sa (fun A2 c2 => ?_))
        | refine Nx.za ?_ | refine Nx.zr (fun hc => ?_) (fun hc => ?_)
        | refine Nx.zq ?_ | refine Nx.zu (fun hc => ?_) (fun hc => ?_)
        | refine Nx.zx ?_ | fail
      exact Nx.weak (by exact ⟨rfl, rfl, rfl, rfl, rfl, rfl, rfl, rfl, trivial⟩) (by (exact Ent.auto)) (h b' b13)
    · refine Nx.sb (fun b13 => ?_)
      refine Nx.mix_S (by (exact Ent.auto)) ?_
      refine Nx.forkF1 (i := 4) (by kernel_rfl) rfl rfl ?_
      refine Nx.makeStructs (sz := 2) (by_ := 16) (m := n) frC0 (0, 0) rfl rfl rfl rfl rfl rfl rfl rfl rfl rfl (by omega) (by unfold maxLen; omega) (fun b' => ?_)
      refine Nx.mix_S (by (exact Ent.auto)) ?_
      refine Nx.forkF_q 5 (by kernel_rfl) ?_
      repeat' first
        | ((with_reducible refine Nx.is_wp ?_); first | refine Nx.wo ?_ | refine Nx.zp (fun hc => ?_) (fun hc => ?_))
        | (refine Nx.zo ?_; first | refine Nx.opr rfl rfl ?_ | refine Nx.so ?_ | refine Nx.sb (fun bx => ?_) | refine Nx.sa (fun A2 c2 => ?_))
        | refine Nx.za ?_ | refine Nx.zr (fun hc => ?_) (fun hc => ?_)
        | refine Nx.zq ?_ | refine Nx.zu (fun hc => ?_) (fun hc => ?_)
        | refine Nx.zx ?_ | fail
      refine Nx.forkF_fin (by kernel_rfl) (by kernel_rfl) rfl ?_
      repeat' first
        | ((with_reducible refine Nx.is_wp ?_); first | refine Nx.wo ?_ | refine Nx.zp (fun hc => ?_) (fun hc => ?_))
        | (refine Nx.zo ?_; first | refine Nx.opr rfl rfl ?_ | refine Nx.so ?_ | refine Nx.sb (fun bx => ?_) | refine Nx.sa (fun A2 c2 => ?_))
        | refine Nx.za ?_ | refine Nx.zr (fun hc => ?_) (fun hc => ?_)
        | refine Nx.zq ?_ | refine Nx.zu (fun hc => ?_) (fun hc => ?_)
        | refine Nx.zx ?_ | fail
      exact Nx.weak (by exact ⟨rfl, rfl, rfl, rfl, rfl, rfl, rfl, rfl, trivial⟩) (by (exact Ent.auto)) (h b' b13)
  · refine Nx.makeStructs (sz := 2) (by_ := 16) (m := n) frC0 (0, 0) rfl rfl rfl rfl rfl rfl rfl rfl rfl rfl (by omega) (by unfold maxLen; omega) (fun b' => ?_)
    refine Nx.mix_S (by (exact Ent.auto)) ?_
    refine Nx.forkF2 (i := 2) (j := 6) (by kernel_rfl) rfl rfl rfl rfl ?_ ?_
    · refine Nx.callv rfl rfl rfl (by kernel_rfl) rfl hW ?_
      refine Nx.mix_S (by (exact Ent.auto)) ?_
      refine Nx.forkF_q 5 (by kernel_rfl) ?_
      repeat' first
        | ((with_reducible refine Nx.is_wp ?_); first | refine Nx.wo ?_ | refine Nx.zp (fun hc => ?_) (fun hc => ?_))
        | (refine Nx.zo ?_; first | refine Nx.opr rfl rfl ?_ | refine Nx.so ?_ | refine Nx.sb (fun bx => ?_) | refine Nx.sa (fun A2 c2 => ?_))
        | refine Nx.za ?_ | refine Nx.zr (fun hc => ?_) (fun hc => ?_)
        | refine Nx.zq ?_ | refine Nx.zu (fun hc => ?_) (fun hc => ?_)
        | refine Nx.zx ?_ | fail
      refine Nx.forkF1 (i := 6) (by kernel_rfl) rfl rfl ?_
      refine Nx.sb (fun b13 => ?_)
      refine Nx.mix_S (by (exact Ent.auto)) ?_
      refine Nx.forkF_fin (by kernel_rfl) (by kernel_rfl) rfl ?_
      repeat' first
        | ((with_reducible refine Nx.is_wp ?_); first | refine Nx.wo ?_ | refine Nx.zp (fun hc => ?_) (fun hc => ?_))
        | (refine Nx.zo ?_; first | refine Nx.opr rfl rfl ?_ | refine Nx.so ?_ | refine Nx.sb (fun bx => ?_) | refine Nx.sa (fun A2 c2 => ?_))
        | refine Nx.za ?_ | refine Nx.zr (fun hc => ?_) (fun hc => ?_)
        | refine Nx.zq ?_ | refine Nx.zu (fun hc => ?_) (fun hc => ?_)
        | refine Nx.zx ?_ | fail
      exact Nx.weak (by exact ⟨rfl, rfl, rfl, rfl, rfl, rfl, rfl, rfl, trivial⟩) (by (exact Ent.auto)) (h b' b13)
    · refine Nx.sb (fun b13 => ?_)
      refine Nx.mix_S (by (exact Ent.auto)) ?_
      refine Nx.forkF1 (i := 2) (by kernel_rfl) rfl rfl ?_
      refine Nx.callv rfl rfl rfl (by kernel_rfl) rfl hW ?_
      refine Nx.mix_S (by (exact Ent.auto)) ?_
      refine Nx.forkF_q 5 (by kernel_rfl) ?_
      repeat' first
        | ((with_reducible refine Nx.is_wp ?_); first | refine Nx.wo ?_ | refine Nx.zp (fun hc => ?_) (fun hc => ?_))
        | (refine Nx.zo ?_; first | refine Nx.opr rfl rfl ?_ | refine Nx.so ?_ | refine Nx.sb (fun bx => ?_) | refine Nx.sa (fun A2 c2 => ?_))
        | refine Nx.za ?_ | refine Nx.zr (fun hc => ?_) (fun hc => ?_)
        | refine Nx.zq ?_ | refine Nx.zu (fun hc => ?_) (fun hc => ?_)
        | refine Nx.zx ?_ | fail
      refine Nx.forkF_fin (by kernel_rfl) (by kernel_rfl) rfl ?_
      repeat' first
        | ((with_reducible refine Nx.is_wp ?_); first | refine Nx.wo ?_ | refine Nx.zp (fun hc => ?_) (fun hc => ?_))
        | (refine Nx.zo ?_; first | refine Nx.opr rfl rfl ?_ | refine Nx.so ?_ | refine Nx.sb (fun bx => ?_) | refine Nx.sa (fun A2 c2 => ?_))
        | refine Nx.za ?_ | refine Nx.zr (fun hc => ?_) (fun hc => ?_)
        | refine Nx.zq ?_ | refine Nx.zu (fun hc => ?_) (fun hc => ?_)
        | refine Nx.zx ?_ | fail
      exact Nx.weak (by exact ⟨rfl, rfl, rfl, rfl, rfl, rfl, rfl, rfl, trivial⟩) (by (exact Ent.auto)) (h b' b13)
  · refine Nx.sb (fun b13 => ?_)
    refine Nx.mix_S (by (exact Ent.auto)) ?_
    refine Nx.forkF2 (i := 2) (j := 4) (by kernel_rfl) rfl rfl rfl rfl ?_ ?_
    · refine Nx.callv rfl rfl rfl (by kernel_rfl) rfl hW ?_
      refine Nx.mix_S (by (exact Ent.auto)) ?_
      refine Nx.forkF1 (i := 4) (by kernel_rfl) rfl rfl ?_
      refine Nx.makeStructs (sz := 2) (by_ := 16) (m := n) frC0 (0, 0) rfl rfl rfl rfl rfl rfl rfl rfl rfl rfl (by omega) (by unfold maxLen; omega) (fun b' => ?_)
      refine Nx.mix_S (by (exact Ent.auto)) ?_
      refine Nx.forkF_q 5 (by kernel_rfl) ?_
      repeat' first
        | ((with_reducible refine Nx.is_wp ?_); first | refine Nx.wo ?_ | refine Nx.zp (fun hc => ?_) (fun hc => ?_))
        | (refine Nx.zo ?_; first | refine Nx.opr rfl rfl ?_ | refine Nx.so ?_ | refine Nx.sb (fun bx => ?_) | refine Nx.sa (fun A2 c2 => ?_))
        | refine Nx.za ?_ | refine Nx.zr (fun hc => ?_) (fun hc => ?_)
        | refine Nx.zq ?_ | refine Nx.zu (fun hc => ?_) (fun hc => ?_)
        | refine Nx.zx ?_ | fail
      refine Nx.forkF_fin (by kernel_rfl) (by kernel_rfl) rfl ?_
      repeat' first
        | ((with_reducible refine Nx.is_wp ?_); first | refine Nx.wo ?_ | refine Nx.zp (fun hc => ?_) (fun hc => ?_))
        | (refine Nx.zo ?_; first | refine Nx.opr rfl rfl ?_ | refine Nx.so ?_ | refine Nx.sb (fun bx => ?_) | refine Nx.sa (fun A2 c2 => ?_))
        | refine Nx.za ?_ | refine Nx.zr (fun hc => ?_) (fun hc => ?_)
        | refine Nx.zq ?_ | refine Nx.zu (fun hc => ?_) (fun hc => ?_)
        | refine Nx.zx ?_ | fail
      exact Nx.weak (by exact ⟨rfl, rfl, rfl, rfl, rfl, rfl, rfl, rfl, trivial⟩) (by (exact Ent.auto)) (h b' b13)
    · refine Nx.makeStructs (sz := 2) (by_ := 16) (m := n) frC0 (0, 0) rfl rfl rfl rfl rfl rfl rfl rfl rfl rfl (by omega) (by unfold maxLen; omega) (fun b' => ?_)
      refine Nx.mix_S (by (exact Ent.auto)) ?_
      refine Nx.forkF1 (i := 2) (by kernel_rfl) rfl rfl ?_
      refine Nx.callv rfl rfl rfl (by kernel_rfl) rfl hW ?_
      refine Nx.mix_S (by (exact Ent.auto)) ?_
      refine Nx.forkF_q 5 (by kernel_rfl) ?_
      repeat' first
        | ((with_reducible refine Nx.is_wp ?_); first | refine Nx.wo ?_ | refine Nx.zp (fun hc => ?_) (fun hc => ?_))
        | (refine Nx.zo ?_; first | refine Nx.opr rfl rfl ?_ | refine Nx.so ?_ | refine Nx.sb (fun bx => ?_) | refine Nx.sa (fun A2 c2 => ?_))
        | refine Nx.za ?_ | refine Nx.zr (fun hc => ?_) (fun hc => ?_)
        | refine Nx.zq ?_ | refine Nx.zu (fun hc => ?_) (fun hc => ?_)
        | refine Nx.zx ?_ | fail
      refine Nx.forkF_fin (by kernel_rfl) (by kernel_rfl) rfl ?_
      repeat' first
        | ((with_reducible refine Nx.is_wp ?_); first | refine Nx.wo ?_ | refine Nx.zp (fun hc => ?_) (fun hc => ?_))
        | (refine Nx.zo ?_; first | refine Nx.opr rfl rfl ?_ | refine Nx.so ?_ | refine Nx.sb (fun bx => ?_) | refine Nx.sa (fun A2 c2 => ?_))
        | refine Nx.za ?_ | refine Nx.zr (fun hc => ?_) (fun hc => ?_)
        | refine Nx.zq ?_ | refine Nx.zu (fun hc => ?_) (fun hc => ?_)
        | refine Nx.zx ?_ | fail
      exact Nx.weak (by exact ⟨rfl, rfl, rfl, rfl, rfl, rfl, rfl, rfl, trivial⟩) (by (exact Ent.auto)) (h b' b13)
set_option maxRecDepth 10000 in
theorem bound_rest (w : World) (F : Res) (n : Nat) (A : Option Addr) (c : Nat) (l : List EqR) (cell : Nat) (up : Bool) (I : PH) (q : Bl.Eqs) (hq : q.Small) (hqm : q.m = l.length) (hqn : q.cnt = n) (hn1 : 1 ≤ n) (hcell : cell < n) (hnu : ¬(up = true ∧ ∀ j, j < q.m → q.cell j cell = false)) (ta : TA) (Ax : Option Addr) (cx : Nat) (s : Bl.Tab) (hrdy : Bl.Rdy q s) (b8 b9 bc : Nat)
    (hra : ∀ i, i < l.length → (ta.ra i).1.isSome = true) (hAx : 0 < l.length → Ax.isSome = true) (hAb : 0 < l.length → ta.Ab.isSome = true) (hAr : 0 < l.length → ta.Ar.isSome = true) :
    Nx ⟨Tryz.prog, 155, w⟩ [(0, .int .i64 (n : Int)), (1, .slice A l.length c), (2, .int .i64 (cell : Int)), (3, .bool up), (8, .pointer (some ⟨b8, 0, none⟩)), (9, .pointer (some ⟨b9, 0, none⟩)), (11, .slice (some ⟨bc, 0, none⟩) q.N q.N)] I
      [ratsR (some ⟨bc, 0, none⟩) q.N q.N (rl q.N (Bl.cst (Bl.cost2 cell up))), Blk b9 87 (rtC q ⟨ta, Ax, cx⟩), outQ q ⟨ta, Ax, cx⟩, rrowsR q ta s.T, rightR q ⟨ta, Ax, cx⟩ s.T, basisR q ta s.B, Blk b8 27 [.int .i64 0, .bool false, .int .i64 0, .int .i64 0, .slice none 0 0, .slice none 0 0], F]
      (Code.wp Tryz.prog (cr (cr (cr (cr (cr (cr (bodyOf Tryz.f41))))))) (fnPost Tryz.prog Tryz.f41 I F w (fun v R' => ∃ (x w : Nat → Rat) (D : Int) (b' : Nat) (A' : Option Addr) (c' : Nat), Bl.PrOk q cell up x w ∧ Bl.PrSz q x w D ∧ Bl.IsOpt q cell up (x cell) ∧ v = proofV cell up (x cell) (.slice (some ⟨b', 0, none⟩) n n) (.slice A' l.length c') ∧ R' = [ratsR (some ⟨b', 0, none⟩) n n (rl n x), ratsR A' l.length c' (rl l.length w)]))) := by
  have hcnt := hq.cnt
  have hm10 := hq.m
  have hNb : q.N ≤ 20 := by show q.cnt + q.m ≤ 20; omega
  refine Nx.freezeAt 0 rfl fun I2 m2 hI2 hm2 hf2 => ?_
  have hcost : Rats I2 (some ⟨bc, 0, none⟩) q.N (rl q.N (Bl.cst (Bl.cost2 cell up))) := Vec.sliceN (t := 24) hm2 (by rw [rl_len]; exact hf2) fun _ _ => rfl
  have hG := fun (m I' : PH) (hle : PH.le I2 I') (hm : PH.le m I') (hv : Stars [outQ q ⟨ta, Ax, cx⟩] m) => greatest_spec q hq ⟨ta, Ax, cx⟩ s hrdy.inv.inv (Bl.cost2 cell up) (Bl.cost2_bd cell up) (some ⟨bc, 0, none⟩) q.N I' (hcost.mono hle) (out_keep hm hv) (fun i hi => hra i (by omega)) (fun h => hAx (by omega)) (fun h => hAb (by omega))
  rw [hqn] at hG
  repeat' first
    | ((with_reducible refine Nx.is_wp ?_); first | refine Nx.wo ?_ | refine Nx.zp (fun hc => ?_) (fun hc => ?_))
    | (refine Nx.zo ?_; first | refine Nx.opr rfl rfl ?_ | (refine Nx.call rfl rfl rfl (by kernel_rfl) rfl (FnSpec.keep [outQ q ⟨ta, Ax, cx⟩] hG) (by (exact Ent.auto)) ?_; rintro _ _ ⟨_, ⟨s2, bo2, hrun, rfl⟩, rfl⟩) | refine Nx.so ?_ | refine Nx.sb (fun bx => ?_) | refine Nx.sa (fun A2 c2 => ?_))
    | refine Nx.za ?_ | refine Nx.zr (fun hc => ?_) (fun hc => ?_)
    | refine Nx.zq ?_ | refine Nx.zu (fun hc => ?_) (fun hc => ?_)
    | refine Nx.zx ?_ | fail
  rw [← hqn] at hrun
  have hcq : cell < q.cnt := by omega
  obtain rfl : bo2 = true := by
    cases bo2 with
    | true => rfl
    | false => exact absurd ((Bl.phase2_false hrun hrdy hcq).1 rfl) hnu
  have hs2 := hrun.rdy hrdy
  have hopt := Bl.phase2_true hs2 hcq (hrun.end_t rfl)
  have hok := Bl.proof_ok hs2 hcq (hrun.end_t rfl)
  obtain ⟨D, hsz⟩ := Bl.proof_sz (cell := cell) (up := up) hq hs2
  obtain ⟨D2, hD⟩ := hs2.inv.inv.num hq
  clear hrun hG
  refine Nx.ent (R' := [outQ q ⟨ta, Ax, cx⟩, rrowsR q ta s2.T, rightR q ⟨ta, Ax, cx⟩ s2.T, basisR q ta s2.B, Blk b9 87 (rtC q ⟨ta, Ax, cx⟩), Blk b8 27 [.int .i64 0, .bool false, .int .i64 0, .int .i64 0, .slice none 0 0, .slice none 0 0], F]) (by (exact Ent.auto)) ?_
  refine Nx.ent (Ent.stars (B := [outQ q ⟨ta, Ax, cx⟩, rrowsR q ta s2.T, rightR q ⟨ta, Ax, cx⟩ s2.T, basisR q ta s2.B])) ?_
  refine Nx.freezeAt 0 rfl fun I3 m3 hI3 hm3 hf3 => ?_
  have hRQ : RQ I3 q ⟨ta, Ax, cx⟩ s2 := rq_of hm3 hf3
  replace hcost := hcost.mono hI3
  have hI3' := hI2.trans hI3
  refine Nx.weak (by exact ⟨rfl, rfl, rfl, rfl, rfl, rfl, rfl, trivial⟩) ?_ (bound12 w _ PanicOk.auto [Blk b9 87 (rtC q ⟨ta, Ax, cx⟩), Blk b8 27 [.int .i64 0, .bool false, .int .i64 0, .int .i64 0, .slice none 0 0, .slice none 0 0], F] n (by omega) (cell : Int) up (.slice A l.length c) (.pointer (some ⟨b8, 0, none⟩)) (.pointer (some ⟨b9, 0, none⟩)) (.slice (some ⟨bc, 0, none⟩) q.N q.N) I3 fun b' b13 => ?_)
  · (exact Ent.auto)
  repeat' first
    | ((with_reducible refine Nx.is_wp ?_); first | refine Nx.wo ?_ | refine Nx.zp (fun hc => ?_) (fun hc => ?_))
    | (refine Nx.zo ?_; first | refine Nx.opr rfl rfl ?_ | refine Nx.so ?_ | refine Nx.sb (fun bx => ?_) | refine Nx.sa (fun A2 c2 => ?_))
    | refine Nx.za ?_ | refine Nx.zr (fun hc => ?_) (fun hc => ?_)
    | refine Nx.zq ?_ | refine Nx.zu (fun hc => ?_) (fun hc => ?_)
    | refine Nx.zx ?_ | fail
  refine Nx.p_loop (σ := Nat) (fun k => [(0, .int .i64 (n : Int)), (1, .slice A l.length c), (2, .int .i64 (cell : Int)), (3, .bool up), (8, .pointer (some ⟨b8, 0, none⟩)), (9, .pointer (some ⟨b9, 0, none⟩)), (11, .slice (some ⟨bc, 0, none⟩) q.N q.N), (13, .pointer (some ⟨b13, 0, none⟩)), (63, .int .i64 (n : Int)), (64, .int .i64 (k : Int))])
    (fun k => [Vec 24 2 (some ⟨b', 0, none⟩) n n ((zrow n k).flatMap frC0), Blk b13 27 [.int .i64 (cell : Int), .bool up, .int .i64 0, .int .i64 1, .slice (some ⟨b', 0, none⟩) n n, .slice none 0 0], Blk b9 87 (rtC q ⟨ta, Ax, cx⟩), Blk b8 27 [.int .i64 0, .bool false, .int .i64 0, .int .i64 0, .slice none 0 0, .slice none 0 0], F]) (fun k => k ≤ n) (fun k => n - k) 0 rfl (Nat.zero_le _) ⟨rfl, rfl, rfl, rfl, rfl, rfl, rfl, rfl, rfl, rfl, trivial⟩ (by rw [← zrow_zero]; (exact Ent.auto)) ?_
  intro k hk
  have hk : k ≤ n := hk
  by_cases hkN : k < n
  · have hset := zrow_set hkN
    repeat' first
      | ((with_reducible refine Nx.is_wp ?_); first | refine Nx.wo ?_ | refine Nx.p_drawF (id := 16) rfl [0, 1, 2, 3, 4] [3] [5] _ rfl rfl (by kernel_rfl) (by kernel_rfl) rfl PanicOk.auto (Ent.refl _) ?_ | refine Nx.p_drawF (id := 22) rfl [0, 1, 2, 3, 4, 5, 6, 7, 8] [] [9] _ rfl rfl (by kernel_rfl) (by kernel_rfl) rfl PanicOk.auto (Ent.refl _) ?_ | refine Nx.p_drawF (id := 33) rfl [0, 1, 2, 3, 4, 5, 6, 7, 8, 9, 10, 11, 12, 13, 14, 15, 16, 17, 18, 19] [19] [20, 21] _ rfl rfl (by kernel_rfl) (by kernel_rfl) rfl PanicOk.auto (Ent.refl _) ?_ | refine Nx.zp (fun hc => ?_) (fun hc => ?_))
      | (refine Nx.zo ?_; first | refine Nx.opr rfl rfl ?_ | refine Nx.callv rfl rfl rfl (by kernel_rfl) rfl (rwhole_spec _ _) ?_ | refine Nx.indexAddr_nat (A := some ⟨b', 0, none⟩) (i := k) (sz := 2) rfl rfl rfl rfl rfl hkN rfl ?_ | refine Nx.store_el2 (f := frC0) (a := fun q => .int .i64 q.1) (b := fun q => .int .i64 q.2) (A := some ⟨b', 0, none⟩) (l := zrow n k) (i := k) (z := ((0 : Int), (1 : Int))) 0 rfl rfl rfl (fun _ => rfl) rfl rfl rfl rfl (by rw [zrow_len]; exact hkN) hkN ?_ | refine Nx.so ?_ | refine Nx.sb (fun bx => ?_) | refine Nx.sa (fun A2 c2 => ?_))
      | refine Nx.za ?_ | refine Nx.zr (fun hc => ?_) (fun hc => ?_)
      | ((with_reducible refine Nx.is_mix ?_); first | refine Nx.m_quiet rfl rfl rfl rfl rfl (by first | exact QRun.opr rfl | exact QRun.idx (A := some ⟨b', 0, none⟩) (i := k) (sz := 2) rfl rfl rfl rfl hkN rfl) ?_ | refine Nx.m_quiet_do rfl rfl rfl rfl rfl rfl rfl (by first | exact QRun.opr rfl | exact QRun.idx (A := some ⟨b', 0, none⟩) (i := k) (sz := 2) rfl rfl rfl rfl hkN rfl) ?_ | refine Nx.m ?_ | refine Nx.zm ?_ | refine Nx.zt (fun hc => ?_) (fun hc => ?_))
      | refine Nx.zx ?_ | fail
    exact Nx.again (k + 1) hkN (by omega) ⟨rfl, rfl, rfl, rfl, rfl, rfl, rfl, rfl, rfl, rfl, trivial⟩ (by rw [← hset]; (exact Ent.auto))
  obtain rfl : n = k := by omega
  rw [zrow_end]
  repeat' first
    | ((with_reducible refine Nx.is_wp ?_); first | refine Nx.wo ?_ | refine Nx.zp (fun hc => ?_) (fun hc => ?_))
    | (refine Nx.zo ?_; first | refine Nx.opr rfl rfl ?_ | refine Nx.so ?_ | refine Nx.sb (fun bx => ?_) | refine Nx.sa (fun A2 c2 => ?_))
    | refine Nx.za ?_ | refine Nx.zr (fun hc => ?_) (fun hc => ?_)
    | refine Nx.zq ?_ | refine Nx.zu (fun hc => ?_) (fun hc => ?_)
    | refine Nx.zx ?_ | fail
  refine Nx.p_loop (σ := Nat) (fun i => [(0, .int .i64 (n : Int)), (1, .slice A l.length c), (2, .int .i64 (cell : Int)), (3, .bool up), (8, .pointer (some ⟨b8, 0, none⟩)), (9, .pointer (some ⟨b9, 0, none⟩)), (11, .slice (some ⟨bc, 0, none⟩) q.N q.N), (13, .pointer (some ⟨b13, 0, none⟩)), (74, .slice ta.Ab q.m ta.cb), (75, .int .i64 (q.m : Int)), (76, .int .i64 (i : Int))])
    (fun i => [ratsR (some ⟨b', 0, none⟩) n n (rl n (pf q s2 i)), Blk b13 27 [.int .i64 (cell : Int), .bool up, .int .i64 0, .int .i64 1, .slice (some ⟨b', 0, none⟩) n n, .slice none 0 0], Blk b9 87 (rtC q ⟨ta, Ax, cx⟩), Blk b8 27 [.int .i64 0, .bool false, .int .i64 0, .int .i64 0, .slice none 0 0, .slice none 0 0], F]) (fun i => i ≤ q.m) (fun i => q.m - i) 0 rfl (Nat.zero_le _) ⟨rfl, rfl, rfl, rfl, rfl, rfl, rfl, rfl, rfl, rfl, rfl, trivial⟩ (by show Ent _ [ratsR (some ⟨b', 0, none⟩) n n (rl n fun _ => 0), _, _, _, _]; (exact Ent.auto)) ?_
  intro i hi
  have hi : i ≤ q.m := hi
  by_cases him : i < q.m
  · have r1 := fun (W : World) (Q : List Res) => hRQ.bas (W := W) (R := Q) him
    have r4 := fun (W : World) (Q : List Res) => hRQ.rgt (W := W) (R := Q) him
    have hAx' := hAx (by omega)
    have hAb' := hAb (by omega)
    dsimp only at r1 r4
    have hpf : pf q s2 (i + 1) = if s2.B i < q.cnt then updF (pf q s2 i) (s2.B i) (s2.T i q.N) else pf q s2 i := rfl
    obtain ⟨xn, hxn⟩ : ∃ xn, xn = s2.T i q.N := ⟨_, rfl⟩
    rw [← hxn] at r4 hpf
    generalize s2.B i = k at r1 hpf
    by_cases hk : k < n
    · rw [if_pos (by omega)] at hpf
      have hset := rl_set (n := n) (k := k) (f := pf q s2 i) (v := xn)
      rw [← hpf] at hset
      repeat' first
        | ((with_reducible refine Nx.is_wp ?_); first | refine Nx.wo ?_ | refine Nx.p_drawF (id := 16) rfl [0, 1, 2, 3, 4] [3] [5] _ rfl rfl (by kernel_rfl) (by kernel_rfl) rfl PanicOk.auto (Ent.refl _) ?_ | refine Nx.p_drawF (id := 22) rfl [0, 1, 2, 3, 4, 5, 6, 7, 8] [] [9] _ rfl rfl (by kernel_rfl) (by kernel_rfl) rfl PanicOk.auto (Ent.refl _) ?_ | refine Nx.p_drawF (id := 33) rfl [0, 1, 2, 3, 4, 5, 6, 7, 8, 9, 10, 11, 12, 13, 14, 15, 16, 17, 18, 19] [19] [20, 21] _ rfl rfl (by kernel_rfl) (by kernel_rfl) rfl PanicOk.auto (Ent.refl _) ?_ | refine Nx.zp (fun hc => ?_) (fun hc => ?_))
        | (refine Nx.zo ?_; first | refine Nx.opr rfl rfl ?_ | refine Nx.indexAddr_nat (A := ta.Ab) (i := i) (sz := 1) rfl rfl rfl rfl rfl him hAb' ?_ | refine Nx.load rfl rfl rfl (r1 _ _) ?_ | refine Nx.indexAddr_nat (A := some ⟨b', 0, none⟩) (i := k) (sz := 2) rfl rfl rfl rfl rfl hk rfl ?_ | refine Nx.store_el2 (f := ratC) (a := fun q => .int .i64 q.num) (b := fun q => .int .i64 q.den) (A := some ⟨b', 0, none⟩) (l := rl n (pf q s2 i)) (i := k) (z := xn) 0 rfl rfl rfl (fun _ => rfl) rfl rfl rfl rfl (by rw [rl_len]; exact hk) hk ?_ | refine Nx.so ?_ | refine Nx.sb (fun bx => ?_) | refine Nx.sa (fun A2 c2 => ?_))
        | refine Nx.za ?_ | refine Nx.zr (fun hc => ?_) (fun hc => ?_)
        | ((with_reducible refine Nx.is_mix ?_); first | refine Nx.m_quiet rfl rfl rfl rfl rfl (by first | exact QRun.opr rfl | exact QRun.idx (A := Ax) (i := i) (sz := 2) rfl rfl rfl rfl him hAx' | exact QRun.loads rfl rfl rfl (r4 _ _) rfl | exact QRun.idx (A := some ⟨b', 0, none⟩) (i := k) (sz := 2) rfl rfl rfl rfl hk rfl) ?_ | refine Nx.m_quiet_do rfl rfl rfl rfl rfl rfl rfl (by first | exact QRun.opr rfl | exact QRun.idx (A := Ax) (i := i) (sz := 2) rfl rfl rfl rfl him hAx' | exact QRun.loads rfl rfl rfl (r4 _ _) rfl | exact QRun.idx (A := some ⟨b', 0, none⟩) (i := k) (sz := 2) rfl rfl rfl rfl hk rfl) ?_ | refine Nx.m ?_ | refine Nx.zm ?_ | refine Nx.zt (fun hc => ?_) (fun hc => ?_))
        | refine Nx.zx ?_ | fail
      exact Nx.again (i + 1) him (by omega) ⟨rfl, rfl, rfl, rfl, rfl, rfl, rfl, rfl, rfl, rfl, rfl, trivial⟩ (by rw [← hset]; (exact Ent.auto))
    · rw [if_neg (by omega)] at hpf
      repeat' first
        | ((with_reducible refine Nx.is_wp ?_); first | refine Nx.wo ?_ | refine Nx.zp (fun hc => ?_) (fun hc => ?_))
        | (refine Nx.zo ?_; first | refine Nx.opr rfl rfl ?_ | refine Nx.indexAddr_nat (A := ta.Ab) (i := i) (sz := 1) rfl rfl rfl rfl rfl him hAb' ?_ | refine Nx.load rfl rfl rfl (r1 _ _) ?_ | refine Nx.so ?_ | refine Nx.sb (fun bx => ?_) | refine Nx.sa (fun A2 c2 => ?_))
        | refine Nx.za ?_ | refine Nx.zr (fun hc => ?_) (fun hc => ?_)
        | refine Nx.zq ?_ | refine Nx.zu (fun hc => ?_) (fun hc => ?_)
        | refine Nx.zx ?_ | fail
      exact Nx.again (i + 1) him (by omega) ⟨rfl, rfl, rfl, rfl, rfl, rfl, rfl, rfl, rfl, rfl, rfl, trivial⟩ (by rw [hpf]; (exact Ent.auto))
  obtain rfl : i = q.m := by omega
  have hpt := pf_pt hs2.inv.inv.ok
  rw [hqn] at hpt
  rw [hpt]
  obtain ⟨xc, hxc⟩ : ∃ xc, xc = Bl.pt q.m q.N s2 cell := ⟨_, rfl⟩
  have hrx : ∀ (W : World) (R : List Res) (k : Nat), nthL R k = some (ratsR (some ⟨b', 0, none⟩) n n (rl n (Bl.pt q.m q.N s2))) → Rds W I3 R ((ad (some ⟨b', 0, none⟩)).add (cell * 2)) (ratC xc) := fun W R k hk => by
    have := Rds.vecN (W := W) (I := I3) (f := ratC) k ratC_len hk (by rw [rl_len]; exact hcell)
    rwa [rl_at _ hcell, ← hxc] at this
  repeat' first
    | ((with_reducible refine Nx.is_wp ?_); first | refine Nx.wo ?_ | refine Nx.zp (fun hc => ?_) (fun hc => ?_))
    | (refine Nx.zo ?_; first | refine Nx.opr rfl rfl ?_ | refine Nx.indexAddr_nat (A := some ⟨b', 0, none⟩) (i := cell) (sz := 2) rfl rfl rfl rfl rfl hcell rfl ?_ | refine Nx.loads rfl rfl rfl rfl (hrx _ _ 0 rfl) rfl ?_ | refine Nx.so ?_ | refine Nx.sb (fun bx => ?_) | refine Nx.sa (fun A2 c2 => ?_))
    | refine Nx.za ?_ | refine Nx.zr (fun hc => ?_) (fun hc => ?_)
    | refine Nx.zq ?_ | refine Nx.zu (fun hc => ?_) (fun hc => ?_)
    | refine Nx.zx ?_ | fail
  refine Nx.p_loop (σ := Nat × (Option Addr × Nat)) (fun z => [(0, .int .i64 (n : Int)), (3, .bool up), (8, .pointer (some ⟨b8, 0, none⟩)), (9, .pointer (some ⟨b9, 0, none⟩)), (11, .slice (some ⟨bc, 0, none⟩) q.N q.N), (13, .pointer (some ⟨b13, 0, none⟩)), (101, .int .i64 (l.length : Int)), (102, .int .i64 (z.1 : Int))])
    (fun z => [Blk b13 27 [.int .i64 (cell : Int), .bool up, .int .i64 xc.num, .int .i64 xc.den, .slice (some ⟨b', 0, none⟩) n n, .slice z.2.1 z.1 z.2.2], ratsR z.2.1 z.1 z.2.2 (rl z.1 (Bl.wt q cell up s2)), ratsR (some ⟨b', 0, none⟩) n n (rl n (Bl.pt q.m q.N s2)), Blk b9 87 (rtC q ⟨ta, Ax, cx⟩), Blk b8 27 [.int .i64 0, .bool false, .int .i64 0, .int .i64 0, .slice none 0 0, .slice none 0 0], F]) (fun z => z.1 ≤ l.length) (fun z => l.length - z.1) (0, (none, 0)) rfl (Nat.zero_le _) ⟨rfl, rfl, rfl, rfl, rfl, rfl, rfl, rfl, trivial⟩ ((Ent.vec_nil 24 2 _).trans (by (exact Ent.auto))) ?_
  rintro ⟨j, Aw, cw⟩ hj
  have hj : j ≤ l.length := hj
  dsimp only
  by_cases hjl : j < l.length
  case neg =>
    obtain rfl : j = l.length := by omega
    repeat' first
      | ((with_reducible refine Nx.is_wp ?_); first | refine Nx.wo ?_ | refine Nx.zp (fun hc => ?_) (fun hc => ?_))
      | (refine Nx.zo ?_; first | refine Nx.opr rfl rfl ?_ | refine Nx.so ?_ | refine Nx.sb (fun bx => ?_) | refine Nx.sa (fun A2 c2 => ?_))
      | refine Nx.za ?_ | refine Nx.zr (fun hc => ?_) (fun hc => ?_)
      | refine Nx.zq ?_ | refine Nx.zu (fun hc => ?_) (fun hc => ?_)
      | refine Nx.zx ?_ | fail
    exact Nx.imm_le hI3' (Nx.ret_cell 0 rfl rfl rfl rfl rfl rfl [_, _] ⟨_, _, D, b', Aw, cw, hok, hsz, hopt, by rw [← hxc], rfl⟩ (by (exact Ent.auto)))
  have hjN : q.cnt + j < q.N := by show q.cnt + j < q.cnt + q.m; omega
  have hrw : ∀ i, i ≤ q.m → RB (wsm q cell up s2 j i) := fun i hi => by
    obtain ⟨P, e1, e2⟩ := hD.sum (k := q.cnt + j) hjN (fun i => Bl.cost2 cell up (s2.B i)) (fun i => Bl.cost2_bd _ _ _) i hi
    exact Bl.rb_of hD.ne e1 (by omega) hD.d60
  repeat' first
    | ((with_reducible refine Nx.is_wp ?_); first | refine Nx.wo ?_ | refine Nx.zp (fun hc => ?_) (fun hc => ?_))
    | (refine Nx.zo ?_; first | refine Nx.opr rfl rfl ?_ | refine Nx.callv rfl rfl rfl (by kernel_rfl) rfl (rwhole_spec _ _) ?_ | refine Nx.so ?_ | refine Nx.sb (fun bx => ?_) | refine Nx.sa (fun A2 c2 => ?_))
    | refine Nx.za ?_ | refine Nx.zr (fun hc => ?_) (fun hc => ?_)
    | refine Nx.zq ?_ | refine Nx.zu (fun hc => ?_) (fun hc => ?_)
    | refine Nx.zx ?_ | fail
  revert bx; intro b18
  refine Nx.p_loop (σ := Nat) (fun i => [(0, .int .i64 (n : Int)), (3, .bool up), (8, .pointer (some ⟨b8, 0, none⟩)), (9, .pointer (some ⟨b9, 0, none⟩)), (11, .slice (some ⟨bc, 0, none⟩) q.N q.N), (13, .pointer (some ⟨b13, 0, none⟩)), (17, .int .i64 (j : Int)), (18, .pointer (some ⟨b18, 0, none⟩)), (101, .int .i64 (l.length : Int)), (102, .int .i64 (j : Int)), (108, .int .i64 (q.m : Int)), (109, .int .i64 (i : Int))])
    (fun i => [Blk b18 24 (ratC (wsm q cell up s2 j i)), Blk b13 27 [.int .i64 (cell : Int), .bool up, .int .i64 xc.num, .int .i64 xc.den, .slice (some ⟨b', 0, none⟩) n n, .slice Aw j cw], ratsR Aw j cw (rl j (Bl.wt q cell up s2)), ratsR (some ⟨b', 0, none⟩) n n (rl n (Bl.pt q.m q.N s2)), Blk b9 87 (rtC q ⟨ta, Ax, cx⟩), Blk b8 27 [.int .i64 0, .bool false, .int .i64 0, .int .i64 0, .slice none 0 0, .slice none 0 0], F]) (fun i => i ≤ q.m) (fun i => q.m - i) 0 rfl (Nat.zero_le _) ⟨rfl, rfl, rfl, rfl, rfl, rfl, rfl, rfl, rfl, rfl, rfl, rfl, trivial⟩ (by show Ent _ [Blk b18 24 (ratC 0), _, _, _, _, _, _]; (exact Ent.auto)) ?_
  intro i hi
  have hi : i ≤ q.m := hi
  by_cases him : i < q.m
  case neg =>
    obtain rfl : i = q.m := by omega
    have hwt := wsm_wt q cell up s2 j
    have hrs : (rl (j + 1) (Bl.wt q cell up s2)).flatMap ratC = (rl j (Bl.wt q cell up s2)).flatMap ratC ++ ratC (Bl.wt q cell up s2 j) := by rw [rl_succ, List.flatMap_append, List.flatMap_cons, List.flatMap_nil, List.append_nil]
    have hR := hrw q.m (Nat.le_refl _)
    rw [hwt] at hrs
    generalize wsm q cell up s2 j q.m = y at hR hrs
    have hI64 : I64 (-y.num) := (rat_i64 (RB_neg hR)).1
    cases up with
    | true =>
      have hrs' : (rl (j + 1) (Bl.wt q cell true s2)).flatMap ratC = (rl j (Bl.wt q cell true s2)).flatMap ratC ++ [Value.int .i64 y.num, Value.int .i64 y.den] := hrs
      repeat' first
        | ((with_reducible refine Nx.is_wp ?_); first | refine Nx.wo ?_ | refine Nx.zp (fun hc => ?_) (fun hc => ?_))
        | (refine Nx.zo ?_; first | refine Nx.opr rfl rfl ?_ | refine Nx.so ?_ | refine Nx.sb (fun bx => ?_) | refine Nx.sa (fun A2 c2 => ?_))
        | refine Nx.za ?_ | refine Nx.zr (fun hc => ?_) (fun hc => ?_)
        | refine Nx.zq ?_ | refine Nx.zu (fun hc => ?_) (fun hc => ?_)
        | refine Nx.zx ?_ | fail
      exact Nx.again (j + 1, (A2, c2)) hjl (by dsimp only; omega) ⟨rfl, rfl, rfl, rfl, rfl, rfl, rfl, rfl, trivial⟩ (by dsimp only; rw [← hrs']; (exact Ent.auto))
    | false =>
      have hrs' : (rl (j + 1) (Bl.wt q cell false s2)).flatMap ratC = (rl j (Bl.wt q cell false s2)).flatMap ratC ++ [Value.int .i64 (-y.num), Value.int .i64 y.den] := hrs
      repeat' first
        | ((with_reducible refine Nx.is_wp ?_); first | refine Nx.wo ?_ | refine Nx.zp (fun hc => ?_) (fun hc => ?_))
        | (refine Nx.zo ?_; first | refine Nx.opr rfl rfl ?_ | refine Nx.neg rfl hI64 rfl ?_ | refine Nx.so ?_ | refine Nx.sb (fun bx => ?_) | refine Nx.sa (fun A2 c2 => ?_))
        | refine Nx.za ?_ | refine Nx.zr (fun hc => ?_) (fun hc => ?_)
        | refine Nx.zq ?_ | refine Nx.zu (fun hc => ?_) (fun hc => ?_)
        | refine Nx.zx ?_ | fail
      exact Nx.again (j + 1, (A2, c2)) hjl (by dsimp only; omega) ⟨rfl, rfl, rfl, rfl, rfl, rfl, rfl, rfl, trivial⟩ (by dsimp only; rw [← hrs']; (exact Ent.auto))
  have hB := hs2.inv.inv.ok.bas i him
  have r1 := fun (W : World) (Q : List Res) => hRQ.bas (W := W) (R := Q) him
  have r3 := fun (W : World) (Q : List Res) => hRQ.row (W := W) (R := Q) him
  have r4 := fun (W : World) (Q : List Res) => hRQ.num (W := W) (R := Q) him hjN
  have r2 := fun (W : World) (Q : List Res) => cost_rd (I := I3) (W := W) (R := Q) hcost hB
  have hAr' := hAr (by omega)
  have hAb' := hAb (by omega)
  have hri := hra i (by omega)
  have hskip := wsm_skip (up := up) (s := s2) (j := j) (i := i) hcq
  have hsucc := wsm_succ q cell up s2 j i
  have hR1 : RB (Bl.cst (Bl.cost2 cell up) (s2.B i) * s2.T i (q.cnt + j)) := hD.rb1 him (Nat.le_of_lt hjN) _ (Bl.cost2_bd _ _ _)
  have hM1 := rmul_spec (Bl.cst (Bl.cost2 cell up) (s2.B i)) (s2.T i (q.cnt + j)) (RB_int (by have := Bl.cost2_bd cell up (s2.B i); omega)) (hD.rb him (Nat.le_of_lt hjN)) hR1 I3
  obtain ⟨pr, hpr⟩ : ∃ pr, pr = Bl.cst (Bl.cost2 cell up) (s2.B i) * s2.T i (q.cnt + j) := ⟨_, rfl⟩
  rw [← hpr] at hM1 hR1 hsucc
  have hM2 := radd_spec (wsm q cell up s2 j i) pr (hrw i hi) hR1 (by rw [← hsucc]; exact hrw (i + 1) him) I3
  rw [← hsucc] at hM2
  have hnj : (n : Int) + (j : Int) = ((q.cnt + j : Nat) : Int) := by omega
  obtain ⟨g1, hg1⟩ : ∃ g1, g1 = wsm q cell up s2 j (i + 1) := ⟨_, rfl⟩
  rw [← hg1] at hM2 hskip
  clear hsucc
  generalize wsm q cell up s2 j i = g0 at hM2 hskip ⊢
  generalize Bl.cst (Bl.cost2 cell up) (s2.B i) = ci at r2 hM1 hpr
  generalize s2.B i = Bi at hB r1 r2 hskip
  generalize s2.T i (q.cnt + j) = tij at r4 hM1 hpr
  clear hpr
  dsimp only at r1 r3 r4
  by_cases hBn : Bi < n
  · repeat' first
      | ((with_reducible refine Nx.is_wp ?_); first | refine Nx.wo ?_ | refine Nx.p_drawF (id := 16) rfl [0, 1, 2, 3, 4] [3] [5] _ rfl rfl (by kernel_rfl) (by kernel_rfl) rfl PanicOk.auto (Ent.refl _) ?_ | refine Nx.p_drawF (id := 22) rfl [0, 1, 2, 3, 4, 5, 6, 7, 8] [] [9] _ rfl rfl (by kernel_rfl) (by kernel_rfl) rfl PanicOk.auto (Ent.refl _) ?_ | refine Nx.p_drawF (id := 33) rfl [0, 1, 2, 3, 4, 5, 6, 7, 8, 9, 10, 11, 12, 13, 14, 15, 16, 17, 18, 19] [19] [20, 21] _ rfl rfl (by kernel_rfl) (by kernel_rfl) rfl PanicOk.auto (Ent.refl _) ?_ | refine Nx.zp (fun hc => ?_) (fun hc => ?_))
      | (refine Nx.zo ?_; first | refine Nx.opr rfl rfl ?_ | refine Nx.indexAddr_nat (A := ta.Ab) (i := i) (sz := 1) rfl rfl rfl rfl rfl him hAb' ?_ | refine Nx.load rfl rfl rfl (r1 _ _) ?_ | refine Nx.callv rfl rfl rfl (by kernel_rfl) rfl hM1 ?_ | refine Nx.callv rfl rfl rfl (by kernel_rfl) rfl hM2 ?_ | refine Nx.so ?_ | refine Nx.sb (fun bx => ?_) | refine Nx.sa (fun A2 c2 => ?_))
      | refine Nx.za ?_ | refine Nx.zr (fun hc => ?_) (fun hc => ?_)
      | ((with_reducible refine Nx.is_mix ?_); first | refine Nx.m_quiet rfl rfl rfl rfl rfl (by first | exact QRun.opr rfl | exact QRun.idx (A := ta.Ab) (i := i) (sz := 1) rfl rfl rfl rfl him hAb' | exact QRun.load rfl rfl (r1 _ _) | exact QRun.idx (A := some ⟨bc, 0, none⟩) (i := Bi) (sz := 2) rfl rfl rfl rfl hB rfl | exact QRun.loads rfl rfl rfl (r2 _ _) rfl | exact QRun.idx (A := ta.Ar) (i := i) (sz := 1) rfl rfl rfl rfl him hAr' | exact QRun.load rfl rfl (r3 _ _) | exact QRun.bin rfl rfl (run_addK (by unfold I64; omega) hnj) | exact QRun.idx (A := (ta.ra i).1) (i := q.cnt + j) (sz := 2) rfl rfl rfl rfl hjN hri | exact QRun.loads rfl rfl rfl (r4 _ _) rfl | exact QRun.loads rfl rfl rfl (Rds.cut 0 2 rfl rfl) rfl) ?_ | refine Nx.m_quiet_do rfl rfl rfl rfl rfl rfl rfl (by first | exact QRun.opr rfl | exact QRun.idx (A := ta.Ab) (i := i) (sz := 1) rfl rfl rfl rfl him hAb' | exact QRun.load rfl rfl (r1 _ _) | exact QRun.idx (A := some ⟨bc, 0, none⟩) (i := Bi) (sz := 2) rfl rfl rfl rfl hB rfl | exact QRun.loads rfl rfl rfl (r2 _ _) rfl | exact QRun.idx (A := ta.Ar) (i := i) (sz := 1) rfl rfl rfl rfl him hAr' | exact QRun.load rfl rfl (r3 _ _) | exact QRun.bin rfl rfl (run_addK (by unfold I64; omega) hnj) | exact QRun.idx (A := (ta.ra i).1) (i := q.cnt + j) (sz := 2) rfl rfl rfl rfl hjN hri | exact QRun.loads rfl rfl rfl (r4 _ _) rfl | exact QRun.loads rfl rfl rfl (Rds.cut 0 2 rfl rfl) rfl) ?_ | refine Nx.m ?_ | refine Nx.zm ?_ | refine Nx.zt (fun hc => ?_) (fun hc => ?_))
      | refine Nx.zx ?_ | fail
    exact Nx.again (i + 1) him (by omega) ⟨rfl, rfl, rfl, rfl, rfl, rfl, rfl, rfl, rfl, rfl, rfl, rfl, trivial⟩ (by rw [← hg1]; (exact Ent.auto))
  · have hsk := hskip (by omega)
    repeat' first
      | ((with_reducible refine Nx.is_wp ?_); first | refine Nx.wo ?_ | refine Nx.zp (fun hc => ?_) (fun hc => ?_))
      | (refine Nx.zo ?_; first | refine Nx.opr rfl rfl ?_ | refine Nx.indexAddr_nat (A := ta.Ab) (i := i) (sz := 1) rfl rfl rfl rfl rfl him hAb' ?_ | refine Nx.load rfl rfl rfl (r1 _ _) ?_ | refine Nx.so ?_ | refine Nx.sb (fun bx => ?_) | refine Nx.sa (fun A2 c2 => ?_))
      | refine Nx.za ?_ | refine Nx.zr (fun hc => ?_) (fun hc => ?_)
      | refine Nx.zq ?_ | refine Nx.zu (fun hc => ?_) (fun hc => ?_)
      | refine Nx.zx ?_ | fail
    exact Nx.again (i + 1) him (by omega) ⟨rfl, rfl, rfl, rfl, rfl, rfl, rfl, rfl, rfl, rfl, rfl, rfl, trivial⟩ (by rw [← hg1, hsk]; (exact Ent.auto))
set_option maxRecDepth 10000 in
theorem bound_spec (n : Nat) (A : Option Addr) (c : Nat) (l : List EqR) (cell : Nat) (up : Bool) (I : PH) (hl : Eqs I A c l) (hb : BEq n l) (hcell : cell < n) (hfe : ∃ x, Bl.Feas (toQ n l) x) (hnu : ¬(up = true ∧ Unb (toQ n l) cell)) :
    FnSpec Tryz.prog 41 [.int .i64 (n : Int), .slice A l.length c, .int .i64 (cell : Int), .bool up] I []
      (fun v R' => ∃ (x w : Nat → Rat) (D : Int) (b' : Nat) (A' : Option Addr) (c' : Nat), Bl.PrOk (toQ n l) cell up x w ∧ Bl.PrSz (toQ n l) x w D ∧ Bl.IsOpt (toQ n l) cell up (x cell) ∧
        v = proofV cell up (x cell) (.slice (some ⟨b', 0, none⟩) n n) (.slice A' l.length c') ∧ R' = [ratsR (some ⟨b', 0, none⟩) n n (rl n x), ratsR A' l.length c' (rl l.length w)]) := by
  have hn := hb.cnt
  have hlen := hb.len
  have hR := ready_spec n A c l I hl hb
  have hq := hb.small
  have hqm : (toQ n l).m = l.length := rfl
  have hqn : (toQ n l).cnt = n := rfl
  have hNN : (n : Int) + (l.length : Int) = ((toQ n l).N : Int) := by show _ = ((n + l.length : Nat) : Int); omega
  have hNb : (toQ n l).N ≤ 20 := by show n + l.length ≤ 20; omega
  unfold Unb at hnu
  generalize toQ n l = q at hR hq hqm hqn hNN hNb hnu hfe ⊢
  obtain ⟨N, hN⟩ : ∃ N, N = q.N := ⟨_, rfl⟩
  have hcN : cell < N := by rw [hN]; show cell < q.cnt + q.m; omega
  refine FnSpec.enterP Tryz.func41 rfl Tryz.ntmps41 rfl fun w F => ?_
  rw [← hN] at hNN hNb
  repeat' first
    | ((with_reducible refine Nx.is_wp ?_); first | refine Nx.wo ?_ | refine Nx.zp (fun hc => ?_) (fun hc => ?_))
    | (refine Nx.zo ?_; first | refine Nx.opr rfl rfl ?_ | (refine Nx.call rfl rfl rfl (by kernel_rfl) rfl hR (by (exact Ent.auto)) ?_; rintro _ _ ⟨⟨ta, Ax, cx⟩, s, bo, rfl, hbo, hrdy, hra, hAx, hAb, hAr, rfl⟩) | refine Nx.bin rfl rfl (run_addK (by unfold I64; omega) hNN) rfl ?_ | refine Nx.makeStructs (sz := 2) (by_ := 16) (m := N) frC0 (0, 0) rfl rfl rfl rfl rfl rfl rfl rfl rfl rfl (by omega) (by unfold maxLen; omega) (fun bx => ?_) | refine Nx.so ?_ | refine Nx.sb (fun bx => ?_) | refine Nx.sa (fun A2 c2 => ?_))
    | refine Nx.za ?_ | refine Nx.zr (fun hc => ?_) (fun hc => ?_)
    | refine Nx.zq ?_ | refine Nx.zu (fun hc => ?_) (fun hc => ?_)
    | refine Nx.zx ?_ | fail
  replace hrdy := hrdy (hbo.2 hfe)
  rename_i b8 b9
  revert bx; intro bc
  dsimp only at hra hAx hAb hAr
  refine Nx.p_loop (σ := Nat) (fun k => [(0, .int .i64 (n : Int)), (1, .slice A l.length c), (2, .int .i64 (cell : Int)), (3, .bool up), (8, .pointer (some ⟨b8, 0, none⟩)), (9, .pointer (some ⟨b9, 0, none⟩)), (11, .slice (some ⟨bc, 0, none⟩) N N), (32, .int .i64 (N : Int)), (33, .int .i64 (k : Int))])
    (fun k => [Vec 24 2 (some ⟨bc, 0, none⟩) N N ((zrow N k).flatMap frC0), Blk b9 87 (rtC q ⟨ta, Ax, cx⟩), outQ q ⟨ta, Ax, cx⟩, rrowsR q ta s.T, rightR q ⟨ta, Ax, cx⟩ s.T, basisR q ta s.B, Blk b8 27 [.int .i64 0, .bool false, .int .i64 0, .int .i64 0, .slice none 0 0, .slice none 0 0], F]) (fun k => k ≤ N) (fun k => N - k) 0 rfl (Nat.zero_le _) ⟨rfl, rfl, rfl, rfl, rfl, rfl, rfl, rfl, rfl, trivial⟩ (by rw [← zrow_zero]; (exact Ent.auto)) ?_
  intro k hk
  have hk : k ≤ N := hk
  by_cases hkN : k < N
  · have hset := zrow_set hkN
    repeat' first
      | ((with_reducible refine Nx.is_wp ?_); first | refine Nx.wo ?_ | refine Nx.zp (fun hc => ?_) (fun hc => ?_))
      | (refine Nx.zo ?_; first | refine Nx.opr rfl rfl ?_ | refine Nx.callv rfl rfl rfl (by kernel_rfl) rfl (rwhole_spec _ _) ?_ | refine Nx.indexAddr_nat (A := some ⟨bc, 0, none⟩) (i := k) (sz := 2) rfl rfl rfl rfl rfl hkN rfl ?_ | refine Nx.store_el2 (f := frC0) (a := fun q => .int .i64 q.1) (b := fun q => .int .i64 q.2) (A := some ⟨bc, 0, none⟩) (l := zrow N k) (i := k) (z := ((0 : Int), (1 : Int))) 0 rfl rfl rfl (fun _ => rfl) rfl rfl rfl rfl (by rw [zrow_len]; exact hkN) hkN ?_ | refine Nx.so ?_ | refine Nx.sb (fun bx => ?_) | refine Nx.sa (fun A2 c2 => ?_))
      | refine Nx.za ?_ | refine Nx.zr (fun hc => ?_) (fun hc => ?_)
      | refine Nx.zq ?_ | refine Nx.zu (fun hc => ?_) (fun hc => ?_)
      | refine Nx.zx ?_ | fail
    exact Nx.again (k + 1) hkN (by omega) ⟨rfl, rfl, rfl, rfl, rfl, rfl, rfl, rfl, rfl, trivial⟩ (by rw [← hset]; (exact Ent.auto))
  obtain rfl : N = k := by omega
  rw [zrow_end]
  have hset1 := rl_set (n := N) (k := cell) (f := fun _ => (0 : Rat)) (v := (1 : Rat))
  have hset2 := rl_set (n := N) (k := cell) (f := updF (fun _ => (0 : Rat)) cell 1) (v := (-1 : Rat))
  have hu := cs2_up q cell
  have hd := cs2_down q cell
  rw [← hN] at hu hd
  rw [hu] at hset1
  have hset3 : ((rl N (fun _ => (0 : Rat))).set cell 1).set cell (-1) = rl N (Bl.cst (Bl.cost2 cell false)) := by rw [rl_set, hset2, hd]
  have hrest := bound_rest w F n A c l cell up I q hq hqm hqn hn.1 hcell hnu ta Ax cx s hrdy b8 b9 bc hra hAx hAb hAr
  rw [← hN] at hrest
  cases up with
  | true =>
    repeat' first
      | ((with_reducible refine Nx.is_wp ?_); first | refine Nx.p_stopr 11 rfl ?_ | refine Nx.wo ?_ | refine Nx.zp (fun hc => ?_) (fun hc => ?_))
      | (refine Nx.zo ?_; first | refine Nx.opr rfl rfl ?_ | refine Nx.callv rfl rfl rfl (by kernel_rfl) rfl (rwhole_spec _ _) ?_ | refine Nx.indexAddr_nat (A := some ⟨bc, 0, none⟩) (i := cell) (sz := 2) rfl rfl rfl rfl rfl hcN rfl ?_ | refine Nx.store_el2 (f := ratC) (a := fun q => .int .i64 q.num) (b := fun q => .int .i64 q.den) (A := some ⟨bc, 0, none⟩) (l := rl N fun _ => (0 : Rat)) (i := cell) (z := (1 : Rat)) 0 rfl rfl rfl (fun _ => rfl) rfl rfl rfl rfl (by rw [rl_len]; exact hcN) hcN ?_ | refine Nx.so ?_ | refine Nx.sb (fun bx => ?_) | refine Nx.sa (fun A2 c2 => ?_))
      | refine Nx.za ?_ | refine Nx.zr (fun hc => ?_) (fun hc => ?_)
      | refine Nx.zq ?_ | refine Nx.zu (fun hc => ?_) (fun hc => ?_)
      | refine Nx.zx ?_ | fail
    refine Nx.unstop ?_
    refine Nx.weak (by exact ⟨rfl, rfl, rfl, rfl, rfl, rfl, rfl, trivial⟩) ?_ hrest
    rw [← hset1]; (exact Ent.auto)
  | false =>
    repeat' first
      | ((with_reducible refine Nx.is_wp ?_); first | refine Nx.p_stopr 11 rfl ?_ | refine Nx.wo ?_ | refine Nx.zp (fun hc => ?_) (fun hc => ?_))
      | (refine Nx.zo ?_; first | refine Nx.opr rfl rfl ?_ | refine Nx.callv rfl rfl rfl (by kernel_rfl) rfl (rwhole_spec _ _) ?_ | refine Nx.indexAddr_nat (A := some ⟨bc, 0, none⟩) (i := cell) (sz := 2) rfl rfl rfl rfl rfl hcN rfl ?_ | refine Nx.store_el2 (f := ratC) (a := fun q => .int .i64 q.num) (b := fun q => .int .i64 q.den) (A := some ⟨bc, 0, none⟩) (l := rl N fun _ => (0 : Rat)) (i := cell) (z := (1 : Rat)) 0 rfl rfl rfl (fun _ => rfl) rfl rfl rfl rfl (by rw [rl_len]; exact hcN) hcN ?_ | refine Nx.store_el2 (f := ratC) (a := fun q => .int .i64 q.num) (b := fun q => .int .i64 q.den) (A := some ⟨bc, 0, none⟩) (l := (rl N fun _ => (0 : Rat)).set cell 1) (i := cell) (z := (-1 : Rat)) 0 rfl rfl rfl (fun _ => rfl) rfl rfl rfl rfl (by rw [List.length_set, rl_len]; exact hcN) hcN ?_ | refine Nx.so ?_ | refine Nx.sb (fun bx => ?_) | refine Nx.sa (fun A2 c2 => ?_))
      | refine Nx.za ?_ | refine Nx.zr (fun hc => ?_) (fun hc => ?_)
      | refine Nx.zq ?_ | refine Nx.zu (fun hc => ?_) (fun hc => ?_)
      | refine Nx.zx ?_ | fail
    refine Nx.unstop ?_
    refine Nx.weak (by exact ⟨rfl, rfl, rfl, rfl, rfl, rfl, rfl, trivial⟩) ?_ hrest
    rw [← hset3]; (exact Ent.auto)
end Go.Proofs.YtpcnapidlhpbkaaGreatDoor
namespace Go.Proofs.YtpcnapidlhpbkaaGreatDoor
open Go.Eng Go.Sol
attribute [local irreducible] opK wpList Code.wp Exit.then Exit.inBlock fnPost bodyPost Nx Calls Oper.wp Rd Rds Wr Ent Stars Blk Again Vec FnSpec wpMix QRun Stop Upto wpAt
theorem chkB_k {n : Int} {l : List EqR} (k : Int) : chkB n l k = if chkB n l 0 ≠ 0 then chkB n l 0 else if 0 ≤ k ∧ k < n then 0 else 2 := by
  by_cases h1 : ¬(1 ≤ n ∧ n ≤ 10) ∨ validB n l = false
  · have a : ∀ k, chkB n l k = 55 := fun k => by unfold chkB; rw [if_pos h1]
    rw [a k, a 0]; rfl
  have hn : 1 ≤ n ∧ n ≤ 10 := Decidable.byContradiction fun hh => h1 (.inl hh)
  by_cases h2 : 10 < l.length
  · have a : ∀ k, chkB n l k = 1 := fun k => by unfold chkB; rw [if_neg h1, if_pos h2]
    rw [a k, a 0]; rfl
  by_cases h3 : l.any bigQ = true
  · have a : ∀ k, chkB n l k = 2 := fun k => by unfold chkB; rw [if_neg h1, if_neg h2, if_pos (.inl h3)]
    rw [a k, a 0]; rfl
  have a : ∀ k, chkB n l k = if 0 ≤ k ∧ k < n then 0 else 2 := fun k => by
    unfold chkB
    rw [if_neg h1, if_neg h2]
    by_cases h4 : 0 ≤ k ∧ k < n
    · rw [if_neg (fun h => h.elim h3 fun h => h h4), if_pos h4]
    · rw [if_pos (.inr h4), if_neg h4]
  have a0 : chkB n l 0 = 0 := by rw [a 0, if_pos ⟨by omega, by omega⟩]
  rw [a0, if_neg (fun h => h rfl), a k]
set_option maxRecDepth 10000 in
theorem RProve_spec (n : Int) (A : Option Addr) (c : Nat) (l : List EqR) (k : Int) (up : Bool) (I : PH) (hl : Eqs I A c l) :
    FnSpec Tryz.prog 12 [.int .i64 n, .slice A l.length c, .int .i64 k, .bool up] I []
      (fun v R' => (chkB n l k ≠ 0 → v = .tuple #[noProof, .int .i64 (chkB n l k)] ∧ R' = []) ∧ (chkB n l k = 0 → ProvePost (toQ n.toNat l) k.toNat up v R')) := by
  have hlen := hl.len
  have hC := rcheck_spec n A c l I hl
  have hck := chkB_k (n := n) (l := l) k
  refine FnSpec.enterP Tryz.func12 rfl Tryz.ntmps12 rfl fun w F => ?_
  by_cases h0 : chkB n l 0 = 0
  case neg =>
    rw [if_pos h0] at hck
    rw [hck]
    generalize chkB n l 0 = e at hC h0 ⊢
    repeat' first
      | ((with_reducible refine Nx.is_wp ?_); first | refine Nx.wo ?_ | refine Nx.zp (fun hc => ?_) (fun hc => ?_))
      | (refine Nx.zo ?_; first | refine Nx.opr rfl rfl ?_ | refine Nx.callv rfl rfl rfl (by kernel_rfl) rfl hC ?_ | refine Nx.so ?_ | refine Nx.sb (fun bx => ?_) | refine Nx.sa (fun A2 c2 => ?_))
      | refine Nx.za ?_ | refine Nx.zr (fun hc => ?_) (fun hc => ?_)
      | refine Nx.zq ?_ | refine Nx.zu (fun hc => ?_) (fun hc => ?_)
      | refine Nx.zx ?_ | fail
    exact Nx.ret2 rfl (ROne.cell 0 rfl rfl rfl rfl rfl) (ROne.tmp rfl) [] ⟨fun _ => ⟨rfl, rfl⟩, fun h => absurd h h0⟩ (by (exact Ent.auto))
  rw [if_neg (fun h => h h0)] at hck
  obtain ⟨hb, _, h1⟩ := chkB_ok h0
  rw [h0] at hC
  by_cases hk0 : 0 ≤ k
  case neg =>
    rw [if_neg (fun h => hk0 h.1)] at hck
    rw [hck]
    repeat' first
      | ((with_reducible refine Nx.is_wp ?_); first | refine Nx.wo ?_ | refine Nx.zp (fun hc => ?_) (fun hc => ?_))
      | (refine Nx.zo ?_; first | refine Nx.opr rfl rfl ?_ | refine Nx.callv rfl rfl rfl (by kernel_rfl) rfl hC ?_ | refine Nx.so ?_ | refine Nx.sb (fun bx => ?_) | refine Nx.sa (fun A2 c2 => ?_))
      | refine Nx.za ?_ | refine Nx.zr (fun hc => ?_) (fun hc => ?_)
      | refine Nx.zq ?_ | refine Nx.zu (fun hc => ?_) (fun hc => ?_)
      | refine Nx.zx ?_ | fail
    exact Nx.ret2 rfl (ROne.cell 0 rfl rfl rfl rfl rfl) (ROne.tmp rfl) [] ⟨fun _ => ⟨rfl, rfl⟩, fun h => absurd h (by decide)⟩ (by (exact Ent.auto))
  by_cases hkn : k < n
  case neg =>
    rw [if_neg (fun h => hkn h.2)] at hck
    rw [hck]
    repeat' first
      | ((with_reducible refine Nx.is_wp ?_); first | refine Nx.wo ?_ | refine Nx.zp (fun hc => ?_) (fun hc => ?_))
      | (refine Nx.zo ?_; first | refine Nx.opr rfl rfl ?_ | refine Nx.callv rfl rfl rfl (by kernel_rfl) rfl hC ?_ | refine Nx.so ?_ | refine Nx.sb (fun bx => ?_) | refine Nx.sa (fun A2 c2 => ?_))
      | refine Nx.za ?_ | refine Nx.zr (fun hc => ?_) (fun hc => ?_)
      | refine Nx.zq ?_ | refine Nx.zu (fun hc => ?_) (fun hc => ?_)
      | refine Nx.zx ?_ | fail
    exact Nx.ret2 rfl (ROne.cell 0 rfl rfl rfl rfl rfl) (ROne.tmp rfl) [] ⟨fun _ => ⟨rfl, rfl⟩, fun h => absurd h (by decide)⟩ (by (exact Ent.auto))
  rw [if_pos ⟨hk0, hkn⟩] at hck
  rw [hck]
  obtain ⟨N, rfl⟩ : ∃ N : Nat, n = (N : Int) := ⟨n.toNat, by omega⟩
  obtain ⟨K, rfl⟩ : ∃ K : Nat, k = (K : Int) := ⟨k.toNat, by omega⟩
  rw [Int.toNat_natCast] at hb ⊢
  rw [Int.toNat_natCast]
  have hKN : K < N := by omega
  have hS := ready_spec N A c l I hl hb
  have hIn := rin_spec A c l (K : Int) I hl
  have hunb := inB_unb (n := N) (l := l) (k := K)
  have hB := fun hfe hnu => bound_spec N A c l K up I hl hb hKN hfe hnu
  by_cases hfe : ∃ x, Bl.Feas (toQ N l) x
  case neg =>
    repeat' first
      | ((with_reducible refine Nx.is_wp ?_); first | refine Nx.wo ?_ | refine Nx.zp (fun hc => ?_) (fun hc => ?_))
      | (refine Nx.zo ?_; first | refine Nx.opr rfl rfl ?_ | refine Nx.callv rfl rfl rfl (by kernel_rfl) rfl hC ?_ | (refine Nx.call rfl rfl rfl (by kernel_rfl) rfl hS (by (exact Ent.auto)) ?_; rintro _ _ ⟨ra, s, bo, rfl, hbo, _, _, _, _, _, rfl⟩; cases bo; rotate_left; exact absurd (hbo.1 rfl) hfe) | refine Nx.so ?_ | refine Nx.sb (fun bx => ?_) | refine Nx.sa (fun A2 c2 => ?_))
      | refine Nx.za ?_ | refine Nx.zr (fun hc => ?_) (fun hc => ?_)
      | refine Nx.zq ?_ | refine Nx.zu (fun hc => ?_) (fun hc => ?_)
      | refine Nx.zx ?_ | fail
    exact Nx.ret2 rfl (ROne.cell 0 rfl rfl rfl rfl rfl) (ROne.tmp rfl) [] ⟨fun h => absurd rfl h, fun _ => .inl ⟨hfe, rfl, rfl⟩⟩ (by (exact Ent.auto))
  cases up with
  | false =>
    have hB0 := hB hfe (fun h => Bool.noConfusion h.1)
    repeat' first
      | ((with_reducible refine Nx.is_wp ?_); first | refine Nx.wo ?_ | refine Nx.zp (fun hc => ?_) (fun hc => ?_))
      | (refine Nx.zo ?_; first | refine Nx.opr rfl rfl ?_ | refine Nx.callv rfl rfl rfl (by kernel_rfl) rfl hC ?_ | (refine Nx.call rfl rfl rfl (by kernel_rfl) rfl hS (by (exact Ent.auto)) ?_; rintro _ _ ⟨ra, s, bo, rfl, hbo, _, _, _, _, _, rfl⟩; cases bo; exact Bool.noConfusion (hbo.2 hfe)) | (refine Nx.call rfl rfl rfl (by kernel_rfl) rfl hB0 (by (exact Ent.auto)) ?_; rintro v R' ⟨x, w', D, b', A', c', g1, g2, g3, rfl, rfl⟩) | refine Nx.so ?_ | refine Nx.sb (fun bx => ?_) | refine Nx.sa (fun A2 c2 => ?_))
      | refine Nx.za ?_ | refine Nx.zr (fun hc => ?_) (fun hc => ?_)
      | refine Nx.zq ?_ | refine Nx.zu (fun hc => ?_) (fun hc => ?_)
      | refine Nx.zx ?_ | fail
    exact Nx.ret2 rfl (ROne.cell 0 rfl rfl rfl rfl rfl) (ROne.tmp rfl) [_, _] ⟨fun h => absurd rfl h, fun _ => .inr (.inr ⟨hfe, fun h => Bool.noConfusion h.1, x, w', D, b', A', c', g1, g2, g3, rfl, rfl⟩)⟩ (by (exact Ent.auto))
  | true =>
  cases hin : inB l (K : Int) with
  | false =>
    rw [hin] at hIn
    repeat' first
      | ((with_reducible refine Nx.is_wp ?_); first | refine Nx.wo ?_ | refine Nx.zp (fun hc => ?_) (fun hc => ?_))
      | (refine Nx.zo ?_; first | refine Nx.opr rfl rfl ?_ | refine Nx.callv rfl rfl rfl (by kernel_rfl) rfl hC ?_ | (refine Nx.call rfl rfl rfl (by kernel_rfl) rfl hS (by (exact Ent.auto)) ?_; rintro _ _ ⟨ra, s, bo, rfl, hbo, _, _, _, _, _, rfl⟩; cases bo; exact Bool.noConfusion (hbo.2 hfe)) | refine Nx.callv rfl rfl rfl (by kernel_rfl) rfl hIn ?_ | refine Nx.so ?_ | refine Nx.sb (fun bx => ?_) | refine Nx.sa (fun A2 c2 => ?_))
      | refine Nx.za ?_ | refine Nx.zr (fun hc => ?_) (fun hc => ?_)
      | refine Nx.zq ?_ | refine Nx.zu (fun hc => ?_) (fun hc => ?_)
      | refine Nx.zx ?_ | fail
    exact Nx.ret2 rfl (ROne.cell 0 rfl rfl rfl rfl rfl) (ROne.tmp rfl) [] ⟨fun h => absurd rfl h, fun _ => .inr (.inl ⟨hfe, ⟨rfl, hunb.1 hin⟩, rfl, rfl⟩)⟩ (by (exact Ent.auto))
  | true =>
    rw [hin] at hIn
    have hnu : ¬ Unb (toQ N l) K := fun h => by rw [hunb.2 h] at hin; cases hin
    have hB1 := hB hfe (fun h => hnu h.2)
    repeat' first
      | ((with_reducible refine Nx.is_wp ?_); first | refine Nx.wo ?_ | refine Nx.zp (fun hc => ?_) (fun hc => ?_))
      | (refine Nx.zo ?_; first | refine Nx.opr rfl rfl ?_ | refine Nx.callv rfl rfl rfl (by kernel_rfl) rfl hC ?_ | (refine Nx.call rfl rfl rfl (by kernel_rfl) rfl hS (by (exact Ent.auto)) ?_; rintro _ _ ⟨ra, s, bo, rfl, hbo, _, _, _, _, _, rfl⟩; cases bo; exact Bool.noConfusion (hbo.2 hfe)) | refine Nx.callv rfl rfl rfl (by kernel_rfl) rfl hIn ?_ | (refine Nx.call rfl rfl rfl (by kernel_rfl) rfl hB1 (by (exact Ent.auto)) ?_; rintro v R' ⟨x, w', D, b', A', c', g1, g2, g3, rfl, rfl⟩) | refine Nx.so ?_ | refine Nx.sb (fun bx => ?_) | refine Nx.sa (fun A2 c2 => ?_))
      | refine Nx.za ?_ | refine Nx.zr (fun hc => ?_) (fun hc => ?_)
      | refine Nx.zq ?_ | refine Nx.zu (fun hc => ?_) (fun hc => ?_)
      | refine Nx.zx ?_ | fail
    exact Nx.ret2 rfl (ROne.cell 0 rfl rfl rfl rfl rfl) (ROne.tmp rfl) [_, _] ⟨fun h => absurd rfl h, fun _ => .inr (.inr ⟨hfe, fun h => hnu h.2, x, w', D, b', A', c', g1, g2, g3, rfl, rfl⟩)⟩ (by (exact Ent.auto))
end Go.Proofs.YtpcnapidlhpbkaaGreatDoor
namespace Go.Proofs.YtpcnapidlhpbkaaGreatDoor
open Go.Eng Go.Sol
section
open Go.ChangeShapes Go.WideShapes Go.RowKit Go.Deep
variable {H : Type} {enc : TypeId × Value → H} {W : World} {base : Nat} {v : Value} {d : DataW H} {ps : List MemPlace} {sp : Nat → Bool}
set_option maxRecDepth 100000 in
theorem erow_cells30 {fuel : Nat} {cs : List Value} {x : DataW H × List MemPlace} (h : DataW.trod enc Tryz.prog W base sp true fuel 31 cs = some x) : ∃ y : Row, cs = [rowV y] ∧ Ints (fun i => W.heap[i]?) y.1 y.2.1 y.2.2 := by
  rcases ChangeShapes.open_ints Tryz.underlying31 Tryz.underlying3 (by kernel_rfl) h with ⟨hcs, _⟩ | ⟨a, n, c, zs, hcs, _, hle, hm, hz, _, hcell, _⟩
  · exact ⟨(none, 0, []), hcs, SliceOf.nil⟩
  · have hzl : n ≤ zs.length := by rw [hz]; split <;> omega
    have hlen : (zs.take n).length = n := by rw [List.length_take]; omega
    refine ⟨(some a, c, zs.take n), by rw [hcs]; show [Value.slice (some a) n c] = [Value.slice (some a) (zs.take n).length c]; rw [hlen], ⟨fun j u hj => ⟨rfl, ?_⟩, by dsimp only; rw [hlen]; exact hle, hm⟩⟩
    dsimp only at hj
    rw [List.getElem?_map, List.getElem?_take] at hj
    split at hj
    · rename_i hjn
      have := hcell j (by omega)
      rw [List.getElem?_eq_getElem (by omega)] at hj
      simp at hj
      rw [List.getD_eq_getElem?_getD, List.getElem?_eq_getElem (by omega)] at this
      rw [← hj]
      exact this
    · simp at hj
set_option maxRecDepth 100000 in
theorem eq_cells30 {fuel : Nat} {cs : List Value} {x : DataW H × List MemPlace} (h : DataW.trod enc Tryz.prog W base sp true fuel 46 cs = some x) : ∃ y : EqR, cs = eqC y ∧ Ints (fun i => W.heap[i]?) y.1.1 y.1.2.1 y.1.2.2 := by
  obtain ⟨xs, n, _, _, hl, hlen, hf⟩ := DataW.trod_struct Tryz.underlying46 h
  have hl : cs.length = 2 := hl
  have hlen : xs.length = 2 := hlen
  match cs, hl with
  | [c0, c1], _ =>
    match xs, hlen with
    | [y0, y1], _ =>
      obtain ⟨r, e0, hr⟩ := erow_cells30 (show DataW.trod enc Tryz.prog W base sp true n 31 [c0] = some y0 from hf 0 _ rfl)
      obtain ⟨p1, e1, _, _⟩ := DataW.trod_int Tryz.underlying3 (show DataW.trod enc Tryz.prog W base sp true n 3 [c1] = some y1 from hf 1 _ rfl)
      simp only [List.cons.injEq, and_true] at e0 e1
      subst e0 e1
      exact ⟨(r, p1), rfl, hr⟩
theorem eq_get30 : ∀ {l : List EqR} {j : Nat} {u : Value}, (l.flatMap eqC)[j]? = some u → j / 2 < l.length ∧ (eqC (l.getD (j / 2) default))[j % 2]? = some u
  | [], j, u, h => by simp at h
  | x :: l, j, u, h => by
    rw [List.flatMap_cons] at h
    by_cases hj : j < 2
    · rw [List.getElem?_append_left (by rw [eqC_len]; exact hj)] at h
      rw [show j / 2 = 0 by omega, show j % 2 = j by omega]
      exact ⟨by simp, h⟩
    · rw [List.getElem?_append_right (by rw [eqC_len]; omega), eqC_len] at h
      obtain ⟨h1, h2⟩ := eq_get30 h
      rw [show j / 2 = (j - 2) / 2 + 1 by omega, show j % 2 = (j - 2) % 2 by omega, List.getD_cons_succ]
      exact ⟨by simp; omega, h2⟩
theorem choose_eq30 {n : Nat} {p : Nat → EqR → Prop} (h : ∀ i, i < n → ∃ y, p i y) : ∃ q : Nat → EqR, ∀ i, i < n → p i (q i) :=
  ⟨fun i => if hi : i < n then (h i hi).choose else default, fun i hi => by dsimp only; rw [dif_pos hi]; exact (h i hi).choose_spec⟩
set_option maxRecDepth 100000 in
theorem open_eqs30 (hval : Value.okWide Tryz.prog W .any base 32 v) (h : DataW.Trod enc Tryz.prog W 0 sp true 32 v d ps) :
    ∃ (A : Option Addr) (c : Nat) (l : List EqR), v = .slice A l.length c ∧ Eqs (fun i => W.heap[i]?) A c l := by
  obtain ⟨A, n, c, rfl⟩ := okWide_slice Tryz.underlying32 hval
  obtain ⟨fuel, hf⟩ := h
  have hc1 : Tryz.prog.cellsOf 46 = 2 := by kernel_rfl
  rcases open_slice Tryz.underlying32 hf with ⟨hcs, hx⟩ | ⟨a, len, cap, m, n', D, Pl, hcs, _, hle, hm, hmm, _, hcell⟩
  · simp [Value.cells] at hcs
    obtain ⟨rfl, rfl, rfl⟩ := hcs
    exact ⟨none, 0, [], rfl, ⟨Arr.nil, Nat.le_refl _, by unfold maxLen; omega, by simp⟩, by simp⟩
  · simp [Value.cells] at hcs
    obtain ⟨rfl, rfl, rfl⟩ := hcs
    have hnm : n ≤ m := by rw [hmm]; split <;> omega
    obtain ⟨q, hq⟩ := choose_eq30 (n := n) (p := fun i y => Ints (fun i => W.heap[i]?) y.1.1 y.1.2.1 y.1.2.2 ∧ ∀ j, j < 2 → W.cell? (a.add (i * 2 + j)) = (eqC y)[j]?) (fun i hi => by
      obtain ⟨cs', h1, h2⟩ := hcell i (by omega)
      obtain ⟨y, rfl, ho⟩ := eq_cells30 h2
      refine ⟨y, ho, fun j hj => ?_⟩
      obtain ⟨_, _, h3⟩ := World.cells?_some h1
      have := h3 j (by rw [hc1]; exact hj)
      rw [Addr.add_add, hc1] at this
      exact this)
    have hl : ((List.range n).map q).length = n := by simp
    have hg : ∀ i, i < n → ((List.range n).map q).getD i default = q i := fun i hi => by
      rw [List.getD_eq_getElem?_getD, List.getElem?_eq_getElem (by omega)]; simp
    refine ⟨some a, c, (List.range n).map q, by rw [hl], ⟨fun j u hj => ?_, by rw [hl]; exact hle, hm, fun x _ => eqC_len x⟩, fun x hx => ?_⟩
    · obtain ⟨h1, h2⟩ := eq_get30 hj
      rw [hl] at h1
      rw [hg _ h1] at h2
      refine ⟨rfl, ?_⟩
      have h3 := (hq _ h1).2 (j % 2) (by omega)
      rw [h2, show j / 2 * 2 + j % 2 = j by omega] at h3
      exact h3
    · obtain ⟨i, hi, rfl⟩ := List.mem_map.1 hx
      exact (hq i (List.mem_range.1 hi)).1
set_option maxRecDepth 100000 in
theorem fr_cells {fuel : Nat} {cs : List Value} {x : DataW H × List MemPlace} (h : DataW.trod enc Tryz.prog W base sp true fuel 24 cs = some x) : ∃ y : RawF, cs = frC0 y ∧ I64F y := by
  obtain ⟨xs, n, _, _, hl, hlen, hf⟩ := DataW.trod_struct Tryz.underlying24 h
  have hl : cs.length = 2 := hl
  have hlen : xs.length = 2 := hlen
  match cs, hl with
  | [c0, c1], _ =>
    match xs, hlen with
    | [y0, y1], _ =>
      obtain ⟨p0, e0, _, w0⟩ := DataW.trod_int Tryz.underlying3 (show DataW.trod enc Tryz.prog W base sp true n 3 [c0] = some y0 from hf 0 _ rfl)
      obtain ⟨p1, e1, _, w1⟩ := DataW.trod_int Tryz.underlying3 (show DataW.trod enc Tryz.prog W base sp true n 3 [c1] = some y1 from hf 1 _ rfl)
      simp only [List.cons.injEq, and_true] at e0 e1
      subst e0 e1
      refine ⟨(p0, p1), rfl, ?_, ?_⟩
      · simp [Lit.wf, IntKind.min, IntKind.max, IntKind.signed, IntKind.bits] at w0
        show I64 p0
        unfold I64; omega
      · simp [Lit.wf, IntKind.min, IntKind.max, IntKind.signed, IntKind.bits] at w1
        show I64 p1
        unfold I64; omega
theorem fr_get : ∀ {l : List RawF} {j : Nat} {u : Value}, (l.flatMap frC0)[j]? = some u → j / 2 < l.length ∧ (frC0 (l.getD (j / 2) default))[j % 2]? = some u
  | [], j, u, h => by simp at h
  | x :: l, j, u, h => by
    rw [List.flatMap_cons] at h
    by_cases hj : j < 2
    · rw [List.getElem?_append_left hj] at h
      rw [show j / 2 = 0 by omega, show j % 2 = j by omega]
      exact ⟨by simp, h⟩
    · rw [List.getElem?_append_right (by show 2 ≤ j; omega), show (frC0 x).length = 2 from rfl] at h
      obtain ⟨h1, h2⟩ := fr_get h
      rw [show j / 2 = (j - 2) / 2 + 1 by omega, show j % 2 = (j - 2) % 2 by omega, List.getD_cons_succ]
      exact ⟨by simp; omega, h2⟩
theorem choose_fr {n : Nat} {p : Nat → RawF → Prop} (h : ∀ i, i < n → ∃ y, p i y) : ∃ q : Nat → RawF, ∀ i, i < n → p i (q i) :=
  ⟨fun i => if hi : i < n then (h i hi).choose else default, fun i hi => by dsimp only; rw [dif_pos hi]; exact (h i hi).choose_spec⟩
set_option maxRecDepth 100000 in
theorem fracs_cells {fuel : Nat} {cs : List Value} {x : DataW H × List MemPlace} (hf : DataW.trod enc Tryz.prog W base sp true fuel 25 cs = some x) :
    ∃ (A : Option Addr) (c : Nat) (l : List RawF), cs = [.slice A l.length c] ∧ Raws (fun i => W.heap[i]?) A c l ∧ ∀ x ∈ l, I64F x := by
  have hc1 : Tryz.prog.cellsOf 24 = 2 := by kernel_rfl
  rcases open_slice Tryz.underlying25 hf with ⟨hcs, hx⟩ | ⟨a, n, cap, m, n', D, Pl, hcs, _, hle, hm, hmm, _, hcell⟩
  · exact ⟨none, 0, [], hcs, ⟨Arr.nil, Nat.le_refl _, by unfold maxLen; omega, by simp⟩, by simp⟩
  · have hnm : n ≤ m := by rw [hmm]; split <;> omega
    obtain ⟨q, hq⟩ := choose_fr (n := n) (p := fun i y => I64F y ∧ ∀ j, j < 2 → W.cell? (a.add (i * 2 + j)) = (frC0 y)[j]?) (fun i hi => by
      obtain ⟨cs', h1, h2⟩ := hcell i (by omega)
      obtain ⟨y, rfl, ho⟩ := fr_cells h2
      refine ⟨y, ho, fun j hj => ?_⟩
      obtain ⟨_, _, h3⟩ := World.cells?_some h1
      have := h3 j (by rw [hc1]; exact hj)
      rw [Addr.add_add, hc1] at this
      exact this)
    have hl : ((List.range n).map q).length = n := by simp
    have hg : ∀ i, i < n → ((List.range n).map q).getD i default = q i := fun i hi => by
      rw [List.getD_eq_getElem?_getD, List.getElem?_eq_getElem (by omega)]; simp
    refine ⟨some a, cap, (List.range n).map q, by rw [hl]; exact hcs, ⟨fun j u hj => ?_, by rw [hl]; exact hle, hm, fun x _ => rfl⟩, fun x hx => ?_⟩
    · obtain ⟨h1, h2⟩ := fr_get hj
      rw [hl] at h1
      rw [hg _ h1] at h2
      refine ⟨rfl, ?_⟩
      have h3 := (hq _ h1).2 (j % 2) (by omega)
      rw [h2, show j / 2 * 2 + j % 2 = j by omega] at h3
      exact h3
    · obtain ⟨i, hi, rfl⟩ := List.mem_map.1 hx
      exact (hq i (List.mem_range.1 hi)).1
set_option maxRecDepth 100000 in
theorem open_proof (hval : Value.okWide Tryz.prog W .any base 27 v) (h : DataW.Trod enc Tryz.prog W 0 sp true 27 v d ps) :
    ∃ m : PrM, v = m.V ∧ PrIn (fun i => W.heap[i]?) m ∧ I64 m.cell := by
  obtain ⟨cs, rfl, hsz⟩ := okWide_struct Tryz.underlying27 hval
  obtain ⟨fuel, hf⟩ := h
  obtain ⟨xs, n, _, _, hl, hlen, hf⟩ := DataW.trod_struct Tryz.underlying27 hf
  have hl : cs.toList.length = 6 := hl
  have hlen : xs.length = 5 := hlen
  obtain ⟨L⟩ := cs
  change L.length = 6 at hl
  match L, hl with
  | [c0, c1, c2, c3, c4, c5], _ =>
    match xs, hlen with
    | [y0, y1, y2, y3, y4], _ =>
      obtain ⟨p0, e0, _, w0⟩ := DataW.trod_int Tryz.underlying3 (show DataW.trod enc Tryz.prog W 0 sp true n 3 [c0] = some y0 from hf 0 _ rfl)
      obtain ⟨p1, e1, _⟩ := DataW.trod_bool Tryz.underlying4 (show DataW.trod enc Tryz.prog W 0 sp true n 4 [c1] = some y1 from hf 1 _ rfl)
      obtain ⟨p2, e2, w2⟩ := fr_cells (show DataW.trod enc Tryz.prog W 0 sp true n 24 [c2, c3] = some y2 from hf 2 _ rfl)
      obtain ⟨Ap, cp, pts, e3, hp, hpn⟩ := fracs_cells (show DataW.trod enc Tryz.prog W 0 sp true n 25 [c4] = some y3 from hf 3 _ rfl)
      obtain ⟨Aw, cw, wts, e4, hw, hwn⟩ := fracs_cells (show DataW.trod enc Tryz.prog W 0 sp true n 25 [c5] = some y4 from hf 4 _ rfl)
      simp only [frC0, List.cons.injEq, and_true] at e0 e1 e2 e3 e4
      obtain ⟨e2, e2'⟩ := e2
      subst e0 e1 e2 e2' e3 e4
      refine ⟨⟨p0, p1, p2, Ap, cp, pts, Aw, cw, wts⟩, rfl, ⟨hp, hw, w2, hpn, hwn⟩, ?_⟩
      simp [Lit.wf, IntKind.min, IntKind.max, IntKind.signed, IntKind.bits] at w0
      show I64 p0
      unfold I64; omega
end
end Go.Proofs.YtpcnapidlhpbkaaGreatDoor
namespace Go.Proofs.YtpcnapidlhpbkaaGreatDoor
open Go.Eng Go.Sol
attribute [local irreducible] opK wpList Code.wp Exit.then Exit.inBlock fnPost bodyPost Nx Calls Oper.wp Rd Rds Wr Ent Stars Blk Again Vec FnSpec wpMix QRun Stop Upto wpAt
theorem tmod_mod30 (k : Int) {n : Int} (hn : 0 < n) : (k.tmod n < 0 → k.tmod n + n = k % n) ∧ (¬ k.tmod n < 0 → k.tmod n = k % n) := by
  have h1 := Int.mul_tdiv_add_tmod k n
  have h2 : (k.tmod n).natAbs < n.natAbs := by rw [Int.natAbs_tmod]; exact Nat.mod_lt _ (by omega)
  refine ⟨fun h => ?_, fun h => ?_⟩
  · refine ((Int.ediv_emod_unique hn).2 ⟨?_, ?_, ?_⟩ : k / n = k.tdiv n - 1 ∧ k % n = k.tmod n + n).2.symm
    · rw [Int.mul_sub]; omega
    · omega
    · omega
  · refine ((Int.ediv_emod_unique hn).2 ⟨?_, ?_, ?_⟩ : k / n = k.tdiv n ∧ k % n = k.tmod n).2.symm
    · omega
    · omega
    · omega
set_option maxRecDepth 10000 in
theorem Mod30_spec (k n : Int) (_hk : I64 k) (hn : 1 ≤ n ∧ n ≤ 1000000) (I : PH) : FnSpec Tryz.prog 16 [.int .i64 k, .int .i64 n] I [] (fun v R' => v = .int .i64 (k % n) ∧ R' = []) := by
  obtain ⟨e1, e2⟩ := tmod_mod30 k (by omega : 0 < n)
  have hb : (k.tmod n).natAbs < n.natAbs := by rw [Int.natAbs_tmod]; exact Nat.mod_lt _ (by omega)
  refine FnSpec.enterP Tryz.func16 rfl Tryz.ntmps16 rfl fun w F => ?_
  repeat' first
    | ((with_reducible refine Nx.is_wp ?_); first | refine Nx.wo ?_ | refine Nx.zp (fun hc => ?_) (fun hc => ?_))
    | (refine Nx.zo ?_; first | refine Nx.opr rfl rfl ?_ | refine Nx.bin rfl rfl (run_remT (by omega)) rfl ?_ | refine Nx.so ?_ | refine Nx.sb (fun bx => ?_) | refine Nx.sa (fun A2 c2 => ?_))
    | refine Nx.za ?_ | refine Nx.zr (fun hc => ?_) (fun hc => ?_)
    | refine Nx.zq ?_ | refine Nx.zu (fun hc => ?_) (fun hc => ?_)
    | refine Nx.zx ?_ | fail
  all_goals first
    | exact Nx.ret_fn rfl [] ⟨by rw [e1 (by assumption)], rfl⟩ (Ent.refl _)
    | exact Nx.ret_fn rfl [] ⟨by rw [e2 (by assumption)], rfl⟩ (Ent.refl _)
end Go.Proofs.YtpcnapidlhpbkaaGreatDoor
namespace Go.Proofs.YtpcnapidlhpbkaaGreatDoor
open Go.Eng Go.Sol
attribute [local irreducible] opK wpList Code.wp Exit.then Exit.inBlock fnPost bodyPost Nx Calls Oper.wp Rd Rds Wr Ent Stars Blk Again Vec FnSpec wpMix QRun Stop Upto wpAt
abbrev rawsR (A : Option Addr) (n c : Nat) (l : List RawF) : Res := Vec 24 2 A n c (l.flatMap frC0)
theorem RProve_made {N : Nat} {l : List EqR} (hb : BEq N l) (hv : validB (N : Int) l = true) (hfe : ∃ x, Bl.Feas (toQ N l) x) (k : Int) (hk : 0 ≤ k ∧ k < N) (up : Bool) (A : Option Addr) (c : Nat) (I : PH) (hl : Eqs I A c l) :
    FnSpec Tryz.prog 12 [.int .i64 (N : Int), .slice A l.length c, .int .i64 k, .bool up] I []
      (fun v R' => (v = .tuple #[noProof, .int .i64 21] ∧ R' = []) ∨ ∃ cell : Nat, cell < N ∧ ProofPost N l cell up v R') := by
  obtain ⟨cell, rfl⟩ : ∃ m : Nat, k = (m : Int) := ⟨k.toNat, by omega⟩
  refine FnSpec.mono (RProve_spec (N : Int) A c l (cell : Int) up I hl) fun v R' h => ?_
  rcases h.2 (chkB_of hb hv hk) with ⟨hno, _⟩ | ⟨_, _, h3⟩ | ⟨_, _, x, w, D, b', A', c', g1, g2, g3, g4, g5⟩
  · exact absurd hfe hno
  · exact .inl h3
  · exact .inr ⟨cell, by omega, x, w, D, b', A', c', g1, g2, g3, g4, g5⟩
set_option maxRecDepth 10000 in
theorem proofs_end (w : World) (F : Res) (N : Nat) (Aq : Option Addr) (cq : Nat) (qs : List EqR) (b13 : Nat) (cell : Int) (up : Bool) (bnd : RawF) (Ap : Option Addr) (np cp : Nat) (pts : List RawF) (Aw : Option Addr) (nw cw : Nat) (wts : List RawF) (I0 I : PH) (hI : PH.le I0 I) (hq : Eqs I Aq cq qs) (hT : TabI I)
    (hb : I64F bnd) (hp : ∀ x ∈ pts, I64F x) (hw : ∀ x ∈ wts, I64F x) (hpl : pts.length = np) (hwl : wts.length = nw) :
    Nx ⟨Tryz.prog, 166, w⟩ [(10, .int .i64 (N : Int)), (12, .slice Aq qs.length cq), (13, .pointer (some ⟨b13, 0, none⟩))] I
      [rawsR Ap np cp pts, rawsR Aw nw cw wts, Blk b13 27 [.int .i64 cell, .bool up, .int .i64 bnd.1, .int .i64 bnd.2, .slice Ap np cp, .slice Aw nw cw], F]
      (Code.wp Tryz.prog (cr (cr (cr (cr (cr (cr (cr (cr (cr (bodyOf Tryz.f3)))))))))) (fnPost Tryz.prog Tryz.f3 I0 F w fun v R' => v = .bool true ∧ R' = [])) := by
  subst hpl hwl
  refine Nx.freezeAt 0 rfl fun I1 m1 hI1 hm1 h1 => ?_
  refine Nx.freezeAt 0 rfl fun I2 m2 hI2 hm2 h2 => ?_
  have hI12 := hI1.trans hI2
  have hT2 := tab_mono hI12 hT
  have hin : PrIn I2 ⟨cell, up, bnd, Ap, cp, pts, Aw, cw, wts⟩ := ⟨Vec.sliceN (t := 24) (hm1.trans hI2) h1 fun _ _ => rfl, Vec.sliceN (t := 24) hm2 h2 fun _ _ => rfl, hb, hp, hw⟩
  have hC1 := bCheck_spec (N : Int) Aq cq qs ⟨cell, up, bnd, Ap, cp, pts, Aw, cw, wts⟩ I2 (hq.mono hI12) hin hT2
  have hC2 := R30Check_spec (N : Int) Aq cq qs ⟨cell, up, bnd, Ap, cp, pts, Aw, cw, wts⟩ I2 (hq.mono hI12) hin
  generalize chkP (N : Int) qs ⟨cell, up, bnd, Ap, cp, pts, Aw, cw, wts⟩ = cb at hC1 hC2
  have hcb : (cb == cb) = true := by cases cb <;> rfl
  have hE := fun {p q : Operand} (w : World) => (run_booleq (t := 4) (x := p) (y := q) Tryz.underlying4 cb cb w).trans (show _ = Result.ok (Value.bool true) w by rw [hcb])
  repeat' first
    | ((with_reducible refine Nx.is_wp ?_); first | refine Nx.wo ?_ | refine Nx.p_drawF (id := 6) rfl [0, 1, 2, 4, 5, 6, 3] [3] [7, 8] _ rfl rfl (by kernel_rfl) (by kernel_rfl) rfl PanicOk.auto (Ent.refl _) ?_ | refine Nx.p_drawF (id := 18) rfl [0, 1, 2, 3, 4, 5, 6, 7, 8] [4] [9] _ rfl rfl (by kernel_rfl) (by kernel_rfl) rfl PanicOk.auto (Ent.refl _) ?_ | refine Nx.p_drawF (id := 20) rfl [0, 1, 2, 3, 4, 5, 10, 6, 7, 8, 9, 11, 12, 13, 14, 15] [6, 11] [16] _ rfl rfl (by kernel_rfl) (by kernel_rfl) rfl PanicOk.auto (Ent.refl _) ?_ | refine Nx.p_drawF (id := 23) rfl [0, 1, 2, 3, 4, 5, 10, 6, 7, 8, 9, 11, 12, 13, 14, 15] [6, 11] [16] _ rfl rfl (by kernel_rfl) (by kernel_rfl) rfl PanicOk.auto (Ent.refl _) ?_ | refine Nx.p_drawF (id := 27) rfl [0, 1, 2, 3, 4, 5, 6, 7, 8, 9, 10, 11, 12, 13, 14, 15] [] [16] _ rfl rfl (by kernel_rfl) (by kernel_rfl) rfl PanicOk.auto (Ent.refl _) ?_ | refine Nx.p_drawF (id := 28) rfl [0, 1, 2, 4, 5, 6, 3] [3] [7, 8, 9, 10, 11, 12] _ rfl rfl (by kernel_rfl) (by kernel_rfl) rfl PanicOk.auto (Ent.refl _) ?_ | refine Nx.zp (fun hc => ?_) (fun hc => ?_))
    | (refine Nx.zo ?_; first | (refine Nx.binr rfl rfl (run_booleq Tryz.underlying4 cb cb) rfl ?_; rw [hcb]) | refine Nx.opr rfl rfl ?_ | refine Nx.callv rfl rfl rfl (by kernel_rfl) rfl hC1 ?_ | refine Nx.callv rfl rfl rfl (by kernel_rfl) rfl hC2 ?_ | refine Nx.callv rfl rfl rfl (by kernel_rfl) rfl (awakeB_spec _ hT2) ?_ | refine Nx.so ?_ | refine Nx.sb (fun bx => ?_) | refine Nx.sa (fun A2 c2 => ?_))
    | refine Nx.za ?_ | refine Nx.zr (fun hc => ?_) (fun hc => ?_)
    | ((with_reducible refine Nx.is_mix ?_); first | refine Nx.m_quiet rfl rfl rfl rfl rfl (by first | exact QRun.binr rfl rfl hE | exact QRun.opr rfl | exact QRun.loads rfl rfl rfl (Rds.cut 0 6 rfl rfl) rfl) ?_ | refine Nx.m_quiet_do rfl rfl rfl rfl rfl rfl rfl (by first | exact QRun.binr rfl rfl hE | exact QRun.opr rfl | exact QRun.loads rfl rfl rfl (Rds.cut 0 6 rfl rfl) rfl) ?_ | refine Nx.m ?_ | refine Nx.zm ?_ | refine Nx.zt (fun hc => ?_) (fun hc => ?_))
    | refine Nx.zx ?_ | fail
  exact Nx.imm_le (hI.trans hI12) (Nx.ret_fn rfl [] ⟨rfl, rfl⟩ (by (exact Ent.auto)))
end Go.Proofs.YtpcnapidlhpbkaaGreatDoor
