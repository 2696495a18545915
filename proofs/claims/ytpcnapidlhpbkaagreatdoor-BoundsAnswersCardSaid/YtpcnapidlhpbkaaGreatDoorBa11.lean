/- Contracts of functions of the given program, and lemmas. -/
import Derived.Test.YtpcnapidlhpbkaaGreatDoorBa10
set_option maxHeartbeats 32000000
namespace Go.Proofs.YtpcnapidlhpbkaaGreatDoor
open Go.Eng Go.Sol
attribute [local irreducible] opK wpList Code.wp Exit.then Exit.inBlock fnPost bodyPost Nx Calls Oper.wp Rd Rds Wr Ent Stars Blk Again Vec FnSpec wpMix QRun Stop Upto wpAt
attribute [local irreducible] wpFork
def zrow (N k : Nat) : List (Int × Int) := (List.range N).map fun j => if j < k then (0, 1) else (0, 0)
theorem zrow_len (N k : Nat) : (zrow N k).length = N := by unfold zrow; rw [List.length_map, List.length_range]
theorem zrow_set {N k : Nat} (hk : k < N) : (zrow N k).set k (0, 1) = zrow N (k + 1) := by
  refine List.ext_getElem? fun j => ?_
  unfold zrow
  rw [List.getElem?_set, List.getElem?_map, List.length_map, List.length_range, List.getElem?_map]
  by_cases hj : j < N
  · rw [List.getElem?_range hj]
    by_cases h : k = j
    · subst h; rw [if_pos rfl, if_pos hk]; show some (0, 1) = some (if k < k + 1 then (0, 1) else (0, 0)); rw [if_pos (by omega)]
    · rw [if_neg h]
      show some (if j < k then ((0 : Int), (1 : Int)) else (0, 0)) = some (if j < k + 1 then (0, 1) else (0, 0))
      by_cases h2 : j < k
      · rw [if_pos h2, if_pos (by omega)]
      · rw [if_neg h2, if_neg (by omega)]
  · rw [List.getElem?_eq_none (by rw [List.length_range]; omega)]
    split
    · omega
    · rfl
theorem zrow_zero (N : Nat) : (List.replicate N ((0 : Int), (0 : Int))).flatMap frC0 = (zrow N 0).flatMap frC0 := by
  congr 1
  unfold zrow
  refine (List.eq_replicate_iff.2 ⟨by rw [List.length_map, List.length_range], fun x hx => ?_⟩).symm
  obtain ⟨j, _, rfl⟩ := List.mem_map.1 hx
  rfl
theorem zrow_end (N : Nat) : (zrow N N).flatMap frC0 = (rl N fun _ => 0).flatMap ratC := by
  have e : zrow N N = (rl N fun _ => (0 : Rat)).map fun q => (q.num, (q.den : Int)) := by
    unfold zrow rl
    rw [List.map_map]
    refine List.map_congr_left fun j hj => ?_
    rw [if_pos (List.mem_range.1 hj)]; rfl
  rw [e, List.flatMap_map]; rfl
theorem rrow_done {n : Nat} {l : List EqR} (h : BEq n l) {i : Nat} (hi : i < l.length) : rl (toQ n l).N (updF (rowP (l.getD i default).1.2.2 (l.getD i default).1.2.2.length) (n + i) 1) = rl (toQ n l).N ((toQ n l).s0.T i) := rl_congr fun k hk => by
  have := row_done h hi k (by omega)
  rw [← this]
  show _ = if k = (toQ n l).N then _ else _
  rw [if_neg (by omega)]
theorem rrowsN_all (q : Bl.Eqs) (ta : TA) (T : Nat → Nat → Rat) : rowsN q.m q.N ta.ra T = rrowsR q ta T := by
  unfold rowsN rrowsR rowsL
  rw [List.map_map]
  rfl
set_option maxRecDepth 10000 in
theorem begin17 (w : World) (Q : Exit → Act → World → Prop) (hQ : PanicOk Q) (RR : List Res) (b5 b7 i : Nat) (n val : Int) (v1 v4 v12 v13 vc vrow : Value) (Ar Ax Ab : Option Addr) (car cax cab : Nat) (os : List Value) (xs : List Value) (bs : List Int) (I : PH) (hi9 : i ≤ 1000) (hn9 : 0 ≤ n ∧ n ≤ 1000) (h1r : ∃ A n c, vrow = .slice A n c)
    (h : ∀ A1 c1 A2 c2 A3 c3, Nx ⟨Tryz.prog, 76, w⟩ [(0, .int .i64 n), (1, v1), (4, v4), (5, .pointer (some ⟨b5, 0, none⟩)), (12, v12), (13, v13), (14, .int .i64 (i : Int))] I
      (Blk b5 87 [.slice A1 (i + 1) c1, .slice A2 (i + 1) c2, .slice A3 (i + 1) c3] :: Vec 25 1 A1 (i + 1) c1 (os ++ [vrow]) :: Vec 24 2 A2 (i + 1) c2 (xs ++ [.int .i64 val, .int .i64 1]) :: Vec 3 1 A3 (i + 1) c3 ((bs ++ [n + (i : Int)]).map (Value.int .i64)) :: Blk b7 46 [vc, .int .i64 val] :: RR) (Q .normal)) :
    Nx ⟨Tryz.prog, 76, w⟩ [(0, .int .i64 n), (1, v1), (4, v4), (5, .pointer (some ⟨b5, 0, none⟩)), (6, .int .i64 (i : Int)), (7, .pointer (some ⟨b7, 0, none⟩)), (8, vrow), (12, v12), (13, v13), (14, .int .i64 (i : Int))] I
      (Blk b5 87 [.slice Ar i car, .slice Ax i cax, .slice Ab i cab] :: Blk b7 46 [vc, .int .i64 val] :: Vec 25 1 Ar i car os :: Vec 24 2 Ax i cax xs :: Vec 3 1 Ab i cab (bs.map (Value.int .i64)) :: RR)
      (Code.wp Tryz.prog (cr (cr (cr (cr (cr (cl (cl (cr (cr (cl (cl (cr (cl (cr (cr (bodyOf Tryz.f92)))))))))))))))) Q) := by
  obtain ⟨Aw, nw, cw, rfl⟩ := h1r
  have hW : FnSpec Tryz.prog 52 [.int .i64 val] I [] (fun v R' => v = .agg #[.int .i64 val, .int .i64 1] ∧ R' = []) := rwhole_spec val I
  refine Nx.p_forkF (id := 17) rfl [20, 21, 22, 23, 24] [20, 21, 22, 23, 24] [20, 22, 24] [Blk b5 87 [.slice Ar i car, .slice Ax i cax, .slice Ab i cab], Blk b7 46 [vc, .int .i64 val]] rfl rfl (by kernel_rfl) (by kernel_rfl) hQ (by (exact Ent.auto)) ?_
  refine Nx.forkF_qs [0, 1, 2, 5, 6, 7, 8, 12, 13, 14, 15, 16] 13 rfl (by kernel_rfl) ?_
  repeat' first
    | ((with_reducible refine Nx.is_wp ?_); first | refine Nx.wo ?_ | refine Nx.zp (fun hc => ?_) (fun hc => ?_))
    | (refine Nx.zo ?_; first | refine Nx.opr rfl rfl ?_ | refine Nx.so ?_ | refine Nx.sb (fun bx => ?_) | refine Nx.sa (fun A2 c2 => ?_))
    | refine Nx.za ?_ | refine Nx.zr (fun hc => ?_) (fun hc => ?_)
    | refine Nx.zq ?_ | refine Nx.zu (fun hc => ?_) (fun hc => ?_)
    | refine Nx.zx ?_ | fail
  refine Nx.forkF2 (i := 3) (j := 17) (by kernel_rfl) rfl rfl rfl rfl ?_ ?_
  · refine Nx.sb (fun b3 => ?_)
    refine Nx.mix_S (by (exact Ent.auto)) ?_
    refine Nx.forkF2 (i := 4) (j := 17) (by kernel_rfl) rfl rfl rfl rfl ?_ ?_
    · refine Nx.sa (fun A1 c1 => ?_)
      refine Nx.mix_S (by (exact Ent.auto)) ?_
      refine Nx.forkF_q 19 (by kernel_rfl) ?_
      repeat' first
        | ((with_reducible refine Nx.is_wp ?_); first | refine Nx.wo ?_ | refine Nx.zp (fun hc => ?_) (fun hc => ?_))
        | (refine Nx.zo ?_; first | refine Nx.opr rfl rfl ?_ | refine Nx.so ?_ | refine Nx.sb (fun bx => ?_) | refine Nx.sa (fun A2 c2 => ?_))
        | refine Nx.za ?_ | refine Nx.zr (fun hc => ?_) (fun hc => ?_)
        | refine Nx.zq ?_ | refine Nx.zu (fun hc => ?_) (fun hc => ?_)
        | refine Nx.zx ?_ | fail
      refine Nx.forkF2 (i := 9) (j := 17) (by kernel_rfl) rfl rfl rfl rfl ?_ ?_
      · refine Nx.callv rfl rfl rfl (by kernel_rfl) rfl hW ?_
        refine Nx.mix_S (by (exact Ent.auto)) ?_
        refine Nx.forkF2 (i := 10) (j := 17) (by kernel_rfl) rfl rfl rfl rfl ?_ ?_
        · refine Nx.sb (fun b10 => ?_)
          refine Nx.mix_S (by (exact Ent.auto)) ?_
          refine Nx.forkF2 (i := 11) (j := 17) (by kernel_rfl) rfl rfl rfl rfl ?_ ?_
          · refine Nx.sa (fun A2 c2 => ?_)
            refine Nx.mix_S (by (exact Ent.auto)) ?_
            refine Nx.forkF1 (i := 17) (by kernel_rfl) rfl rfl ?_
            refine Nx.sb (fun b17 => ?_)
            refine Nx.mix_S (by (exact Ent.auto)) ?_
            refine Nx.forkF1 (i := 18) (by kernel_rfl) rfl rfl ?_
            refine Nx.sa (fun A3 c3 => ?_)
            refine Nx.mix_S (by (exact Ent.auto)) ?_
            refine Nx.forkF_fin (by kernel_rfl) (by kernel_rfl) rfl ?_
            repeat' first
              | ((with_reducible refine Nx.is_wp ?_); first | refine Nx.wo ?_ | refine Nx.zp (fun hc => ?_) (fun hc => ?_))
              | (refine Nx.zo ?_; first | refine Nx.opr rfl rfl ?_ | refine Nx.so ?_ | refine Nx.sb (fun bx => ?_) | refine Nx.sa (fun A2 c2 => ?_))
              | refine Nx.za ?_ | refine Nx.zr (fun hc => ?_) (fun hc => ?_)
              | refine Nx.zq ?_ | refine Nx.zu (fun hc => ?_) (fun hc => ?_)
              | refine Nx.zx ?_ | fail
            exact Nx.weak (by exact ⟨rfl, rfl, rfl, rfl, rfl, rfl, rfl, trivial⟩) (by rw [List.map_append]; (exact Ent.auto)) (h A1 c1 A2 c2 A3 c3)
          · refine Nx.sb (fun b17 => ?_)
            refine Nx.mix_S (by (exact Ent.auto)) ?_
            refine Nx.forkF1 (i := 11) (by kernel_rfl) rfl rfl ?_
            refine Nx.pull 1 rfl ?_
            refine Nx.sa (fun A2 c2 => ?_)
            refine Nx.mix_S (by (exact Ent.auto)) ?_
            refine Nx.forkF1 (i := 18) (by kernel_rfl) rfl rfl ?_
            refine Nx.pull 1 rfl ?_
            refine Nx.sa (fun A3 c3 => ?_)
            refine Nx.mix_S (by (exact Ent.auto)) ?_
            refine Nx.forkF_fin (by kernel_rfl) (by kernel_rfl) rfl ?_
            repeat' first
              | ((with_reducible refine Nx.is_wp ?_); first | refine Nx.wo ?_ | refine Nx.zp (fun hc => ?_) (fun hc => ?_))
              | (refine Nx.zo ?_; first | refine Nx.opr rfl rfl ?_ | refine Nx.so ?_ | refine Nx.sb (fun bx => ?_) | refine Nx.sa (fun A2 c2 => ?_))
              | refine Nx.za ?_ | refine Nx.zr (fun hc => ?_) (fun hc => ?_)
              | refine Nx.zq ?_ | refine Nx.zu (fun hc => ?_) (fun hc => ?_)
              | refine Nx.zx ?_ | fail
            exact Nx.weak (by exact ⟨rfl, rfl, rfl, rfl, rfl, rfl, rfl, trivial⟩) (by rw [List.map_append]; (exact Ent.auto)) (h A1 c1 A2 c2 A3 c3)
        · refine Nx.sb (fun b17 => ?_)
          refine Nx.mix_S (by (exact Ent.auto)) ?_
          refine Nx.forkF1 (i := 10) (by kernel_rfl) rfl rfl ?_
          refine Nx.sb (fun b10 => ?_)
          refine Nx.mix_S (by (exact Ent.auto)) ?_
          refine Nx.forkF1 (i := 11) (by kernel_rfl) rfl rfl ?_
          refine Nx.sa (fun A2 c2 => ?_)
          refine Nx.mix_S (by (exact Ent.auto)) ?_
          refine Nx.forkF1 (i := 18) (by kernel_rfl) rfl rfl ?_
          refine Nx.pull 1 rfl ?_
          refine Nx.sa (fun A3 c3 => ?_)
          refine Nx.mix_S (by (exact Ent.auto)) ?_
          refine Nx.forkF_fin (by kernel_rfl) (by kernel_rfl) rfl ?_
          repeat' first
            | ((with_reducible refine Nx.is_wp ?_); first | refine Nx.wo ?_ | refine Nx.zp (fun hc => ?_) (fun hc => ?_))
            | (refine Nx.zo ?_; first | refine Nx.opr rfl rfl ?_ | refine Nx.so ?_ | refine Nx.sb (fun bx => ?_) | refine Nx.sa (fun A2 c2 => ?_))
            | refine Nx.za ?_ | refine Nx.zr (fun hc => ?_) (fun hc => ?_)
            | refine Nx.zq ?_ | refine Nx.zu (fun hc => ?_) (fun hc => ?_)
            | refine Nx.zx ?_ | fail
          exact Nx.weak (by exact ⟨rfl, rfl, rfl, rfl, rfl, rfl, rfl, trivial⟩) (by rw [List.map_append]; (exact Ent.auto)) (h A1 c1 A2 c2 A3 c3)
      · refine Nx.sb (fun b17 => ?_)
        refine Nx.mix_S (by (exact Ent.auto)) ?_
        refine Nx.forkF1 (i := 9) (by kernel_rfl) rfl rfl ?_
        refine Nx.callv rfl rfl rfl (by kernel_rfl) rfl hW ?_
        refine Nx.mix_S (by (exact Ent.auto)) ?_
        refine Nx.forkF1 (i := 10) (by kernel_rfl) rfl rfl ?_
        refine Nx.sb (fun b10 => ?_)
        refine Nx.mix_S (by (exact Ent.auto)) ?_
        refine Nx.forkF1 (i := 11) (by kernel_rfl) rfl rfl ?_
        refine Nx.sa (fun A2 c2 => ?_)
        refine Nx.mix_S (by (exact Ent.auto)) ?_
        refine Nx.forkF1 (i := 18) (by kernel_rfl) rfl rfl ?_
        refine Nx.pull 1 rfl ?_
        refine Nx.sa (fun A3 c3 => ?_)
        refine Nx.mix_S (by (exact Ent.auto)) ?_
        refine Nx.forkF_fin (by kernel_rfl) (by kernel_rfl) rfl ?_
        repeat' first
          | ((with_reducible refine Nx.is_wp ?_); first | refine Nx.wo ?_ | refine Nx.zp (fun hc => ?_) (fun hc => ?_))
          | (refine Nx.zo ?_; first | refine Nx.opr rfl rfl ?_ | refine Nx.so ?_ | refine Nx.sb (fun bx => ?_) | refine Nx.sa (fun A2 c2 => ?_))
          | refine Nx.za ?_ | refine Nx.zr (fun hc => ?_) (fun hc => ?_)
          | refine Nx.zq ?_ | refine Nx.zu (fun hc => ?_) (fun hc => ?_)
          | refine Nx.zx ?_ | fail
        exact Nx.weak (by exact ⟨rfl, rfl, rfl, rfl, rfl, rfl, rfl, trivial⟩) (by rw [List.map_append]; (exact Ent.auto)) (h A1 c1 A2 c2 A3 c3)
    · refine Nx.sb (fun b17 => ?_)
      refine Nx.mix_S (by (exact Ent.auto)) ?_
      refine Nx.forkF1 (i := 4) (by kernel_rfl) rfl rfl ?_
      refine Nx.pull 1 rfl ?_
      refine Nx.sa (fun A1 c1 => ?_)
      refine Nx.mix_S (by (exact Ent.auto)) ?_
      refine Nx.forkF_q 19 (by kernel_rfl) ?_
      repeat' first
        | ((with_reducible refine Nx.is_wp ?_); first | refine Nx.wo ?_ | refine Nx.zp (fun hc => ?_) (fun hc => ?_))
        | (refine Nx.zo ?_; first | refine Nx.opr rfl rfl ?_ | refine Nx.so ?_ | refine Nx.sb (fun bx => ?_) | refine Nx.sa (fun A2 c2 => ?_))
        | refine Nx.za ?_ | refine Nx.zr (fun hc => ?_) (fun hc => ?_)
        | refine Nx.zq ?_ | refine Nx.zu (fun hc => ?_) (fun hc => ?_)
        | refine Nx.zx ?_ | fail
      refine Nx.forkF1 (i := 9) (by kernel_rfl) rfl rfl ?_
      refine Nx.callv rfl rfl rfl (by kernel_rfl) rfl hW ?_
      refine Nx.mix_S (by (exact Ent.auto)) ?_
      refine Nx.forkF1 (i := 10) (by kernel_rfl) rfl rfl ?_
      refine Nx.sb (fun b10 => ?_)
      refine Nx.mix_S (by (exact Ent.auto)) ?_
      refine Nx.forkF1 (i := 11) (by kernel_rfl) rfl rfl ?_
      refine Nx.sa (fun A2 c2 => ?_)
      refine Nx.mix_S (by (exact Ent.auto)) ?_
      refine Nx.forkF1 (i := 18) (by kernel_rfl) rfl rfl ?_
      refine Nx.pull 2 rfl ?_
      refine Nx.sa (fun A3 c3 => ?_)
      refine Nx.mix_S (by (exact Ent.auto)) ?_
      refine Nx.forkF_fin (by kernel_rfl) (by kernel_rfl) rfl ?_
      repeat' first
        | ((with_reducible refine Nx.is_wp ?_); first | refine Nx.wo ?_ | refine Nx.zp (fun hc => ?_) (fun hc => ?_))
        | (refine Nx.zo ?_; first | refine Nx.opr rfl rfl ?_ | refine Nx.so ?_ | refine Nx.sb (fun bx => ?_) | refine Nx.sa (fun A2 c2 => ?_))
        | refine Nx.za ?_ | refine Nx.zr (fun hc => ?_) (fun hc => ?_)
        | refine Nx.zq ?_ | refine Nx.zu (fun hc => ?_) (fun hc => ?_)
        | refine Nx.zx ?_ | fail
      exact Nx.weak (by exact ⟨rfl, rfl, rfl, rfl, rfl, rfl, rfl, trivial⟩) (by rw [List.map_append]; (exact Ent.auto)) (h A1 c1 A2 c2 A3 c3)
  · refine Nx.sb (fun b17 => ?_)
    refine Nx.mix_S (by (exact Ent.auto)) ?_
    refine Nx.forkF1 (i := 3) (by kernel_rfl) rfl rfl ?_
    refine Nx.sb (fun b3 => ?_)
    refine Nx.mix_S (by (exact Ent.auto)) ?_
    refine Nx.forkF1 (i := 4) (by kernel_rfl) rfl rfl ?_
    refine Nx.sa (fun A1 c1 => ?_)
    refine Nx.mix_S (by (exact Ent.auto)) ?_
    refine Nx.forkF_q 19 (by kernel_rfl) ?_
    repeat' first
      | ((with_reducible refine Nx.is_wp ?_); first | refine Nx.wo ?_ | refine Nx.zp (fun hc => ?_) (fun hc => ?_))
      | (refine Nx.zo ?_; first | refine Nx.opr rfl rfl ?_ | refine Nx.so ?_ | refine Nx.sb (fun bx => ?_) | refine Nx.sa (fun A2 c2 => ?_))
      | refine Nx.za ?_ | refine Nx.zr (fun hc => ?_) (fun hc => ?_)
      | refine Nx.zq ?_ | refine Nx.zu (fun hc => ?_) (fun hc => ?_)
      | refine Nx.zx ?_ | fail
    refine Nx.forkF1 (i := 9) (by kernel_rfl) rfl rfl ?_
    refine Nx.callv rfl rfl rfl (by kernel_rfl) rfl hW ?_
    refine Nx.mix_S (by (exact Ent.auto)) ?_
    refine Nx.forkF1 (i := 10) (by kernel_rfl) rfl rfl ?_
    refine Nx.sb (fun b10 => ?_)
    refine Nx.mix_S (by (exact Ent.auto)) ?_
    refine Nx.forkF1 (i := 11) (by kernel_rfl) rfl rfl ?_
    refine Nx.sa (fun A2 c2 => ?_)
    refine Nx.mix_S (by (exact Ent.auto)) ?_
    refine Nx.forkF1 (i := 18) (by kernel_rfl) rfl rfl ?_
    refine Nx.pull 2 rfl ?_
    refine Nx.sa (fun A3 c3 => ?_)
    refine Nx.mix_S (by (exact Ent.auto)) ?_
    refine Nx.forkF_fin (by kernel_rfl) (by kernel_rfl) rfl ?_
    repeat' first
      | ((with_reducible refine Nx.is_wp ?_); first | refine Nx.wo ?_ | refine Nx.zp (fun hc => ?_) (fun hc => ?_))
      | (refine Nx.zo ?_; first | refine Nx.opr rfl rfl ?_ | refine Nx.so ?_ | refine Nx.sb (fun bx => ?_) | refine Nx.sa (fun A2 c2 => ?_))
      | refine Nx.za ?_ | refine Nx.zr (fun hc => ?_) (fun hc => ?_)
      | refine Nx.zq ?_ | refine Nx.zu (fun hc => ?_) (fun hc => ?_)
      | refine Nx.zx ?_ | fail
    exact Nx.weak (by exact ⟨rfl, rfl, rfl, rfl, rfl, rfl, rfl, trivial⟩) (by rw [List.map_append]; (exact Ent.auto)) (h A1 c1 A2 c2 A3 c3)
set_option maxRecDepth 10000 in
theorem begin_spec (n : Nat) (A : Option Addr) (c : Nat) (l : List EqR) (I : PH) (hl : Eqs I A c l) (hb : BEq n l) :
    FnSpec Tryz.prog 92 [.int .i64 (n : Int), .slice A l.length c] I []
      (fun v R' => ∃ (ra : RA), v = rtV (toQ n l) ra ∧ (∀ i, i < l.length → (ra.ta.ra i).1.isSome = true ∧ (ra.ta.ra i).2 = (toQ n l).N) ∧ (0 < l.length → ra.Ax.isSome = true) ∧ (0 < l.length → ra.ta.Ab.isSome = true) ∧
        R' = [rrowsR (toQ n l) ra.ta (toQ n l).s0.T, rightR (toQ n l) ra (toQ n l).s0.T, basisR (toQ n l) ra.ta (toQ n l).s0.B, outR l.length (toQ n l).N ra.ta.ra ra.ta.Ar ra.ta.cr]) := by
  have hn := hb.cnt
  have hlen := hb.len
  have hq := hb.small
  have hNN : (n : Int) + (l.length : Int) = ((toQ n l).N : Int) := by show _ = ((n + l.length : Nat) : Int); omega
  have hNb : (toQ n l).N ≤ 20 := by show n + l.length ≤ 20; omega
  have hNe : (toQ n l).N = n + l.length := rfl
  obtain ⟨N, hN⟩ : ∃ N, N = (toQ n l).N := ⟨_, rfl⟩
  refine FnSpec.enterP Tryz.func92 rfl Tryz.ntmps92 rfl fun w F => ?_
  repeat' first
    | ((with_reducible refine Nx.is_wp ?_); first | refine Nx.wo ?_ | refine Nx.zp (fun hc => ?_) (fun hc => ?_))
    | (refine Nx.zo ?_; first | refine Nx.opr rfl rfl ?_ | refine Nx.so ?_ | refine Nx.sb (fun bx => ?_) | refine Nx.sa (fun A2 c2 => ?_))
    | refine Nx.za ?_ | refine Nx.zr (fun hc => ?_) (fun hc => ?_)
    | refine Nx.zq ?_ | refine Nx.zu (fun hc => ?_) (fun hc => ?_)
    | refine Nx.zx ?_ | fail
  rename_i b4
  revert bx; intro b5
  refine Nx.p_loop (σ := Nat × (Option Addr × Nat) × (Option Addr × Nat) × (Option Addr × Nat) × (Nat → Option Addr × Nat)) (fun z => [(0, .int .i64 (n : Int)), (1, .slice A l.length c), (4, .pointer (some ⟨b4, 0, none⟩)), (5, .pointer (some ⟨b5, 0, none⟩)), (12, .slice A l.length c), (13, .int .i64 (l.length : Int)), (14, .int .i64 (z.1 : Int))])
    (fun z => [Blk b5 87 [.slice z.2.1.1 z.1 z.2.1.2, .slice z.2.2.1.1 z.1 z.2.2.1.2, .slice z.2.2.2.1.1 z.1 z.2.2.2.1.2], outR z.1 N z.2.2.2.2 z.2.1.1 z.2.1.2, Vec 24 2 z.2.2.1.1 z.1 z.2.2.1.2 ((rl z.1 fun a => (toQ n l).s0.T a (toQ n l).N).flatMap ratC), Vec 3 1 z.2.2.2.1.1 z.1 z.2.2.2.1.2 ((basN n z.1).map (Value.int .i64)), rowsN z.1 N z.2.2.2.2 (toQ n l).s0.T, Blk b4 87 [.slice none 0 0, .slice none 0 0, .slice none 0 0], F]) (fun z => z.1 ≤ l.length ∧ ∀ j, j < z.1 → (z.2.2.2.2 j).1.isSome = true ∧ (z.2.2.2.2 j).2 = (toQ n l).N) (fun z => l.length - z.1) (0, (none, 0), (none, 0), (none, 0), fun _ => (none, 0)) rfl ⟨Nat.zero_le _, fun j hj => absurd hj (Nat.not_lt_zero _)⟩ ⟨rfl, rfl, rfl, rfl, rfl, rfl, rfl, trivial⟩ ((Ent.vec_nil 25 1 _).trans (Ent.trans (Ent.pick 0 rfl (Ent.vec_nil 3 1 _)) (Ent.trans (Ent.pick 0 rfl (Ent.pick 0 rfl (Ent.vec_nil 24 2 _))) (Ent.trans (Ent.pick 0 rfl (Ent.pick 0 rfl (Ent.pick 0 rfl (Ent.stars_nil _)))) (by unfold rowsN outR outL basN rl; (exact Ent.auto)))))) ?_
  rintro ⟨i, ⟨Ar, cr'⟩, ⟨Ax, cx'⟩, ⟨Ab, cb'⟩, ra⟩ ⟨hi, hra⟩
  dsimp only at hi hra ⊢
  by_cases him : i < l.length
  case neg =>
    obtain rfl : i = l.length := by omega
    refine Nx.ent (R' := [Vec 3 1 Ab l.length cb' ((basN n l.length).map (Value.int .i64)), Vec 24 2 Ax l.length cx' ((rl l.length fun a => (toQ n l).s0.T a (toQ n l).N).flatMap ratC), Blk b5 87 [.slice Ar l.length cr', .slice Ax l.length cx', .slice Ab l.length cb'], outR l.length N ra Ar cr', rowsN l.length N ra (toQ n l).s0.T, Blk b4 87 [.slice none 0 0, .slice none 0 0, .slice none 0 0], F]) (by (exact Ent.auto)) ?_
    refine Nx.vec_fact fun _ _ _ hAb => ?_
    refine Nx.ent (Ent.swap _ _ _) ?_
    refine Nx.vec_fact fun _ _ _ hAx => ?_
    repeat' first
      | ((with_reducible refine Nx.is_wp ?_); first | refine Nx.wo ?_ | refine Nx.zp (fun hc => ?_) (fun hc => ?_))
      | (refine Nx.zo ?_; first | refine Nx.opr rfl rfl ?_ | refine Nx.so ?_ | refine Nx.sb (fun bx => ?_) | refine Nx.sa (fun A2 c2 => ?_))
      | refine Nx.za ?_ | refine Nx.zr (fun hc => ?_) (fun hc => ?_)
      | refine Nx.zq ?_ | refine Nx.zu (fun hc => ?_) (fun hc => ?_)
      | refine Nx.zx ?_ | fail
    refine Nx.ret_cell 0 rfl rfl rfl rfl rfl rfl [_, _, _, _] ⟨⟨⟨Ar, cr', Ab, cb', ra⟩, Ax, cx'⟩, rfl, hra, hAx, hAb, rfl⟩ ?_
    unfold basisR basL rightR
    rw [← rrowsN_all, ← hN]
    (exact Ent.auto)
  have hm := getD_memQ him
  have hgood := hb.good _ hm
  have hval := hb.val _ hm
  have hin := hl.inner _ hm
  have hrds : ∀ (W : World) (R : List Res), Rds W I R ((ad A).add (i * 2)) (eqC (l.getD i default)) := fun W R => hl.outer.rds him
  have hrow := rrow_done hb him
  have hpos := hgood.val
  have hlt := hgood.lt
  have hA := hl.outer.isSome (by omega) (by omega)
  have hsv : (toQ n l).s0.T i (toQ n l).N = ((l.getD i default).2 : Rat) := by
    show (((toQ n l).orig i ((toQ n l).cnt + (toQ n l).m) : Int) : Rat) = _
    rw [Bl.orig_val]; rfl
  generalize l.getD i default = q at hval hin hrds hrow hpos hlt hsv
  clear hgood
  obtain ⟨⟨Aq, cq, L⟩, vx⟩ := q
  dsimp only at hval hin hrow hpos hlt hsv
  have hLl := hin.len
  rw [← hN] at hrow
  rw [← hN] at hNN hNb
  repeat' first
    | ((with_reducible refine Nx.is_wp ?_); first | refine Nx.wo ?_ | refine Nx.zp (fun hc => ?_) (fun hc => ?_))
    | (refine Nx.zo ?_; first | refine Nx.opr rfl rfl ?_ | refine Nx.indexAddr_nat (A := A) (i := i) (sz := 2) rfl rfl rfl rfl rfl him hA ?_ | refine Nx.loads rfl rfl rfl rfl (hrds _ _) rfl ?_ | refine Nx.bin rfl rfl (run_addK (by unfold I64; omega) hNN) rfl ?_ | refine Nx.makeStructs (sz := 2) (by_ := 16) (m := N) frC0 (0, 0) rfl rfl rfl rfl rfl rfl rfl rfl rfl rfl (by omega) (by unfold maxLen; omega) (fun bx => ?_) | refine Nx.so ?_ | refine Nx.sb (fun bx => ?_) | refine Nx.sa (fun A2 c2 => ?_))
    | refine Nx.za ?_ | refine Nx.zr (fun hc => ?_) (fun hc => ?_)
    | refine Nx.zq ?_ | refine Nx.zu (fun hc => ?_) (fun hc => ?_)
    | refine Nx.zx ?_ | fail
  rename_i b7
  revert bx; intro br
  clear hNb
  refine Nx.p_loop (σ := Nat) (fun k => [(0, .int .i64 (n : Int)), (1, .slice A l.length c), (4, .pointer (some ⟨b4, 0, none⟩)), (5, .pointer (some ⟨b5, 0, none⟩)), (6, .int .i64 (i : Int)), (7, .pointer (some ⟨b7, 0, none⟩)), (8, .slice (some ⟨br, 0, none⟩) N N), (12, .slice A l.length c), (13, .int .i64 (l.length : Int)), (14, .int .i64 (i : Int)), (25, .int .i64 (N : Int)), (26, .int .i64 (k : Int))])
    (fun k => [Vec 24 2 (some ⟨br, 0, none⟩) N N ((zrow N k).flatMap frC0), Blk b7 46 [.slice Aq L.length cq, .int .i64 vx], Blk b5 87 [.slice Ar i cr', .slice Ax i cx', .slice Ab i cb'], outR i N ra Ar cr', Vec 24 2 Ax i cx' ((rl i fun a => (toQ n l).s0.T a (toQ n l).N).flatMap ratC), Vec 3 1 Ab i cb' ((basN n i).map (Value.int .i64)), rowsN i N ra (toQ n l).s0.T, Blk b4 87 [.slice none 0 0, .slice none 0 0, .slice none 0 0], F]) (fun k => k ≤ N) (fun k => N - k) 0 rfl (Nat.zero_le _) ⟨rfl, rfl, rfl, rfl, rfl, rfl, rfl, rfl, rfl, rfl, rfl, rfl, trivial⟩ (by rw [← zrow_zero]; (exact Ent.auto)) ?_
  intro k hk
  have hk : k ≤ N := hk
  by_cases hkN : k < N
  · have hset := zrow_set hkN
    repeat' first
      | ((with_reducible refine Nx.is_wp ?_); first | refine Nx.wo ?_ | refine Nx.zp (fun hc => ?_) (fun hc => ?_))
      | (refine Nx.zo ?_; first | refine Nx.opr rfl rfl ?_ | refine Nx.callv rfl rfl rfl (by kernel_rfl) rfl (rwhole_spec _ _) ?_ | refine Nx.indexAddr_nat (A := some ⟨br, 0, none⟩) (i := k) (sz := 2) rfl rfl rfl rfl rfl hkN rfl ?_ | refine Nx.store_el2 (f := frC0) (a := fun q => .int .i64 q.1) (b := fun q => .int .i64 q.2) (A := some ⟨br, 0, none⟩) (l := zrow N k) (i := k) (z := ((0 : Int), (1 : Int))) 0 rfl rfl rfl (fun _ => rfl) rfl rfl rfl rfl (by rw [zrow_len]; exact hkN) hkN ?_ | refine Nx.so ?_ | refine Nx.sb (fun bx => ?_) | refine Nx.sa (fun A2 c2 => ?_))
      | refine Nx.za ?_ | refine Nx.zr (fun hc => ?_) (fun hc => ?_)
      | refine Nx.zq ?_ | refine Nx.zu (fun hc => ?_) (fun hc => ?_)
      | refine Nx.zx ?_ | fail
    exact Nx.again (k + 1) hkN (by omega) ⟨rfl, rfl, rfl, rfl, rfl, rfl, rfl, rfl, rfl, rfl, rfl, rfl, trivial⟩ (by rw [← hset]; (exact Ent.auto))
  obtain rfl : N = k := by omega
  rw [zrow_end]
  repeat' first
    | ((with_reducible refine Nx.is_wp ?_); first | refine Nx.wo ?_ | refine Nx.zp (fun hc => ?_) (fun hc => ?_))
    | (refine Nx.zo ?_; first | refine Nx.opr rfl rfl ?_ | refine Nx.so ?_ | refine Nx.sb (fun bx => ?_) | refine Nx.sa (fun A2 c2 => ?_))
    | refine Nx.za ?_ | refine Nx.zr (fun hc => ?_) (fun hc => ?_)
    | refine Nx.zq ?_ | refine Nx.zu (fun hc => ?_) (fun hc => ?_)
    | refine Nx.zx ?_ | fail
  refine Nx.p_loop (σ := Nat) (fun k => [(0, .int .i64 (n : Int)), (1, .slice A l.length c), (4, .pointer (some ⟨b4, 0, none⟩)), (5, .pointer (some ⟨b5, 0, none⟩)), (6, .int .i64 (i : Int)), (7, .pointer (some ⟨b7, 0, none⟩)), (8, .slice (some ⟨br, 0, none⟩) N N), (12, .slice A l.length c), (13, .int .i64 (l.length : Int)), (14, .int .i64 (i : Int)), (35, .slice Aq L.length cq), (36, .int .i64 (L.length : Int)), (37, .int .i64 (k : Int))])
    (fun k => [ratsR (some ⟨br, 0, none⟩) N N (rl N (rowP L k)), Blk b7 46 [.slice Aq L.length cq, .int .i64 vx], Blk b5 87 [.slice Ar i cr', .slice Ax i cx', .slice Ab i cb'], outR i N ra Ar cr', Vec 24 2 Ax i cx' ((rl i fun a => (toQ n l).s0.T a (toQ n l).N).flatMap ratC), Vec 3 1 Ab i cb' ((basN n i).map (Value.int .i64)), rowsN i N ra (toQ n l).s0.T, Blk b4 87 [.slice none 0 0, .slice none 0 0, .slice none 0 0], F]) (fun k => k ≤ L.length) (fun k => L.length - k) 0 rfl (Nat.zero_le _) ⟨rfl, rfl, rfl, rfl, rfl, rfl, rfl, rfl, rfl, rfl, rfl, rfl, rfl, trivial⟩ (by rw [rowP_zero]; (exact Ent.auto)) ?_
  intro k hk
  have hk : k ≤ L.length := hk
  by_cases hkL : k < L.length
  · have hrd : ∀ (W : World) (R : List Res), Rd W I R ((ad Aq).add (k * 1)) (.int .i64 (L.getD k default)) := fun W R => hin.rd hkL
    have hcb := hlt (L.getD k default) (by rw [List.getD_eq_getElem?_getD, List.getElem?_eq_getElem hkL]; exact List.getElem_mem _)
    obtain ⟨cN, hcN⟩ : ∃ cN : Nat, L.getD k default = (cN : Int) := ⟨(L.getD k default).toNat, by omega⟩
    have hup := rowP_succ hkL hcN
    have hset := rl_set (n := N) (k := cN) (f := rowP L k) (v := (1 : Rat))
    rw [hup] at hset
    rw [hcN] at hrd hcb
    have hcN1 : cN < N := by omega
    repeat' first
      | ((with_reducible refine Nx.is_wp ?_); first | refine Nx.wo ?_ | refine Nx.zp (fun hc => ?_) (fun hc => ?_))
      | (refine Nx.zo ?_; first | refine Nx.opr rfl rfl ?_ | refine Nx.indexAddr_nat (A := Aq) (i := k) (sz := 1) rfl rfl rfl rfl rfl hkL (hin.isSome (by omega)) ?_ | refine Nx.load rfl rfl rfl (hrd _ _) ?_ | refine Nx.callv rfl rfl rfl (by kernel_rfl) rfl (rwhole_spec _ _) ?_ | refine Nx.indexAddr_nat (A := some ⟨br, 0, none⟩) (i := cN) (sz := 2) rfl rfl rfl rfl rfl hcN1 rfl ?_ | refine Nx.store_el2 (f := ratC) (a := fun q => .int .i64 q.num) (b := fun q => .int .i64 q.den) (A := some ⟨br, 0, none⟩) (l := rl N (rowP L k)) (i := cN) (z := (1 : Rat)) 0 rfl rfl rfl (fun _ => rfl) rfl rfl rfl rfl (by rw [rl_len]; exact hcN1) hcN1 ?_ | refine Nx.so ?_ | refine Nx.sb (fun bx => ?_) | refine Nx.sa (fun A2 c2 => ?_))
      | refine Nx.za ?_ | refine Nx.zr (fun hc => ?_) (fun hc => ?_)
      | refine Nx.zq ?_ | refine Nx.zu (fun hc => ?_) (fun hc => ?_)
      | refine Nx.zx ?_ | fail
    exact Nx.again (k + 1) hkL (by omega) ⟨rfl, rfl, rfl, rfl, rfl, rfl, rfl, rfl, rfl, rfl, rfl, rfl, rfl, trivial⟩ (by rw [← hset]; (exact Ent.auto))
  obtain rfl : k = L.length := by omega
  have hni : (n : Int) + (i : Int) = ((n + i : Nat) : Int) := by omega
  have hniN : n + i < N := by omega
  have hset1 := rl_set (n := N) (k := n + i) (f := rowP L L.length) (v := (1 : Rat))
  rw [hrow] at hset1
  repeat' first
    | ((with_reducible refine Nx.is_wp ?_); first | refine Nx.wo ?_ | refine Nx.zp (fun hc => ?_) (fun hc => ?_))
    | (refine Nx.zo ?_; first | refine Nx.opr rfl rfl ?_ | refine Nx.callv rfl rfl rfl (by kernel_rfl) rfl (rwhole_spec _ _) ?_ | refine Nx.bin rfl rfl (run_addK (by unfold I64; omega) hni) rfl ?_ | refine Nx.indexAddr_nat (A := some ⟨br, 0, none⟩) (i := n + i) (sz := 2) rfl rfl rfl rfl rfl hniN rfl ?_ | refine Nx.store_el2 (f := ratC) (a := fun q => .int .i64 q.num) (b := fun q => .int .i64 q.den) (A := some ⟨br, 0, none⟩) (l := rl N (rowP L L.length)) (i := n + i) (z := (1 : Rat)) 0 rfl rfl rfl (fun _ => rfl) rfl rfl rfl rfl (by rw [rl_len]; exact hniN) hniN ?_ | refine Nx.so ?_ | refine Nx.sb (fun bx => ?_) | refine Nx.sa (fun A2 c2 => ?_))
    | refine Nx.za ?_ | refine Nx.zr (fun hc => ?_) (fun hc => ?_)
    | refine Nx.zq ?_ | refine Nx.zu (fun hc => ?_) (fun hc => ?_)
    | refine Nx.zx ?_ | fail
  refine Nx.weak (by exact ⟨rfl, rfl, rfl, rfl, rfl, rfl, rfl, rfl, rfl, rfl, trivial⟩) ?_ (begin17 w _ PanicOk.auto [ratsR (some ⟨br, 0, none⟩) N N (rl N ((toQ n l).s0.T i)), rowsN i N ra (toQ n l).s0.T, Blk b4 87 [.slice none 0 0, .slice none 0 0, .slice none 0 0], F] b5 b7 i (n : Int) vx (.slice A l.length c) (.pointer (some ⟨b4, 0, none⟩)) (.slice A l.length c) (.int .i64 l.length) (.slice Aq L.length cq) (.slice (some ⟨br, 0, none⟩) N N) Ar Ax Ab cr' cx' cb' (outL i N ra) ((rl i fun a => (toQ n l).s0.T a (toQ n l).N).flatMap ratC) (basN n i) I (by omega) (by omega) ⟨_, _, _, rfl⟩ fun A1 c1 A2 c2 A3 c3 => ?_)
  · rw [← hset1]; (exact Ent.auto)
  have hrs : (rl (i + 1) fun a => (toQ n l).s0.T a (toQ n l).N).flatMap ratC = (rl i fun a => (toQ n l).s0.T a (toQ n l).N).flatMap ratC ++ [Value.int .i64 vx, Value.int .i64 1] := by rw [rl_succ, List.flatMap_append, List.flatMap_cons, List.flatMap_nil, List.append_nil, hsv]; rfl
  rw [hni, ← basN_succ, ← outL_succ (A := some ⟨br, 0, none⟩) (c := N), ← hrs]
  repeat' first
    | ((with_reducible refine Nx.is_wp ?_); first | refine Nx.wo ?_ | refine Nx.zp (fun hc => ?_) (fun hc => ?_))
    | (refine Nx.zo ?_; first | refine Nx.opr rfl rfl ?_ | refine Nx.so ?_ | refine Nx.sb (fun bx => ?_) | refine Nx.sa (fun A2 c2 => ?_))
    | refine Nx.za ?_ | refine Nx.zr (fun hc => ?_) (fun hc => ?_)
    | refine Nx.zq ?_ | refine Nx.zu (fun hc => ?_) (fun hc => ?_)
    | refine Nx.zx ?_ | fail
  refine Nx.again (i + 1, (A1, c1), (A2, c2), (A3, c3), fun a => if a = i then (some ⟨br, 0, none⟩, N) else ra a) ⟨him, fun j hj => ?_⟩ (by dsimp only; omega) ⟨rfl, rfl, rfl, rfl, rfl, rfl, rfl, trivial⟩ ?_
  · dsimp only
    by_cases hji : j = i
    · rw [if_pos hji]; exact ⟨rfl, hN⟩
    · rw [if_neg hji]; exact hra j (by dsimp only at hj; omega)
  · dsimp only
    refine Ent.trans (R' := [ratsR (some ⟨br, 0, none⟩) N N (rl N ((toQ n l).s0.T i)), rowsN i N ra (toQ n l).s0.T, Blk b5 87 [.slice A1 (i + 1) c1, .slice A2 (i + 1) c2, .slice A3 (i + 1) c3], outR (i + 1) N (fun a => if a = i then (some ⟨br, 0, none⟩, N) else ra a) A1 c1, Vec 24 2 A2 (i + 1) c2 ((rl (i + 1) fun a => (toQ n l).s0.T a (toQ n l).N).flatMap ratC), Vec 3 1 A3 (i + 1) c3 ((basN n (i + 1)).map (Value.int .i64)), Blk b4 87 [.slice none 0 0, .slice none 0 0, .slice none 0 0], F]) (by (exact Ent.auto)) ?_
    exact rowsN_succ.trans (by (exact Ent.auto))
end Go.Proofs.YtpcnapidlhpbkaaGreatDoor
namespace Go.Proofs.YtpcnapidlhpbkaaGreatDoor
open Go.Eng Go.Sol
attribute [local irreducible] opK wpList Code.wp Exit.then Exit.inBlock fnPost bodyPost Nx Calls Oper.wp Rd Rds Wr Ent Stars Blk Again Vec FnSpec wpMix QRun Stop Upto wpAt
def prow (N k : Nat) (f : Nat → Rat) : List (Int × Int) := (List.range N).map fun j => if j < k then ((f j).num, ((f j).den : Int)) else (0, 0)
theorem prow_len (N k : Nat) (f : Nat → Rat) : (prow N k f).length = N := by unfold prow; rw [List.length_map, List.length_range]
theorem prow_set {N k : Nat} {f : Nat → Rat} (hk : k < N) : (prow N k f).set k ((f k).num, ((f k).den : Int)) = prow N (k + 1) f := by
  refine List.ext_getElem? fun j => ?_
  unfold prow
  rw [List.getElem?_set, List.getElem?_map, List.length_map, List.length_range, List.getElem?_map]
  by_cases hj : j < N
  · rw [List.getElem?_range hj]
    by_cases h : k = j
    · subst h; rw [if_pos rfl, if_pos hk]; show _ = some (if k < k + 1 then ((f k).num, ((f k).den : Int)) else (0, 0)); rw [if_pos (by omega)]
    · rw [if_neg h]
      show some (if j < k then ((f j).num, ((f j).den : Int)) else (0, 0)) = some (if j < k + 1 then ((f j).num, ((f j).den : Int)) else (0, 0))
      by_cases h2 : j < k
      · rw [if_pos h2, if_pos (by omega)]
      · rw [if_neg h2, if_neg (by omega)]
  · rw [List.getElem?_eq_none (by rw [List.length_range]; omega)]
    split
    · omega
    · rfl
theorem prow_zero (N : Nat) (f : Nat → Rat) : (List.replicate N ((0 : Int), (0 : Int))).flatMap frC0 = (prow N 0 f).flatMap frC0 := by
  congr 1
  unfold prow
  refine (List.eq_replicate_iff.2 ⟨by rw [List.length_map, List.length_range], fun x hx => ?_⟩).symm
  obtain ⟨j, _, rfl⟩ := List.mem_map.1 hx
  rfl
theorem prow_end (N : Nat) (f : Nat → Rat) : (prow N N f).flatMap frC0 = (rl N f).flatMap ratC := by
  have e : prow N N f = (rl N f).map fun q => (q.num, (q.den : Int)) := by
    unfold prow rl
    rw [List.map_map]
    refine List.map_congr_left fun j hj => ?_
    rw [if_pos (List.mem_range.1 hj)]; rfl
  rw [e, List.flatMap_map]; rfl
abbrev outQ (q : Bl.Eqs) (ra : RA) : Res := outR q.m q.N ra.ta.ra ra.ta.Ar ra.ta.cr
theorem out_rd {W : World} {I : PH} {R : List Res} {m N1 : Nat} {ra : Nat → Option Addr × Nat} {A : Option Addr} {c i : Nat} (k : Nat) (hk : nthL R k = some (outR m N1 ra A c)) (hi : i < m) : Rd W I R ((ad A).add (i * 1)) (.slice (ra i).1 N1 (ra i).2) := by
  have := Rd.vecEl (W := W) (I := I) (R := R) (f := fun i : Nat => Value.slice (ra i).1 N1 (ra i).2) (l := List.range m) (i := i) (A := A) (n := m) (c := c) (t := 25) k hk (by rw [List.length_range]; exact hi)
  rwa [range_getD hi] at this
theorem out_keep {q : Bl.Eqs} {ra : RA} {m I' : PH} (hm : PH.le m I') (hv : Stars [outQ q ra] m) : SliceOf (fun i : Nat => Value.slice (ra.ta.ra i).1 q.N (ra.ta.ra i).2) I' ra.ta.Ar ra.ta.cr (List.range q.m) := by
  obtain ⟨m1, d1, h1⟩ := Stars.get 0 hv rfl
  exact outer_frozen (d1.trans hm) h1
set_option maxRecDepth 10000 in
theorem ready_spec (n : Nat) (A : Option Addr) (c : Nat) (l : List EqR) (I : PH) (hl : Eqs I A c l) (hb : BEq n l) :
    FnSpec Tryz.prog 39 [.int .i64 (n : Int), .slice A l.length c] I []
      (fun v R' => ∃ (ra : RA) (s : Bl.Tab) (bo : Bool), v = .tuple #[rtV (toQ n l) ra, .bool bo] ∧ (bo = true ↔ ∃ x, Bl.Feas (toQ n l) x) ∧ (bo = true → Bl.Rdy (toQ n l) s) ∧ (∀ i, i < l.length → (ra.ta.ra i).1.isSome = true) ∧ (0 < l.length → ra.Ax.isSome = true) ∧ (0 < l.length → ra.ta.Ab.isSome = true) ∧ (0 < l.length → ra.ta.Ar.isSome = true) ∧
        R' = [outQ (toQ n l) ra, rrowsR (toQ n l) ra.ta s.T, rightR (toQ n l) ra s.T, basisR (toQ n l) ra.ta s.B]) := by
  have hn := hb.cnt
  have hlen := hb.len
  have hB := begin_spec n A c l I hl hb
  have hq := hb.small
  have hqm : (toQ n l).m = l.length := rfl
  have hqn : (toQ n l).cnt = n := rfl
  have hNN : (n : Int) + (l.length : Int) = ((toQ n l).N : Int) := by show _ = ((n + l.length : Nat) : Int); omega
  have hNb : (toQ n l).N ≤ 20 := by show n + l.length ≤ 20; omega
  generalize toQ n l = q at hB hq hqm hqn hNN hNb ⊢
  obtain ⟨N, hN⟩ : ∃ N, N = q.N := ⟨_, rfl⟩
  refine FnSpec.enterP Tryz.func39 rfl Tryz.ntmps39 rfl fun w F => ?_
  rw [← hN] at hNN hNb
  repeat' first
    | ((with_reducible refine Nx.is_wp ?_); first | refine Nx.wo ?_ | refine Nx.zp (fun hc => ?_) (fun hc => ?_))
    | (refine Nx.zo ?_; first | refine Nx.opr rfl rfl ?_ | (refine Nx.call rfl rfl rfl (by kernel_rfl) rfl hB (by (exact Ent.auto)) ?_; rintro _ _ ⟨⟨ta, Ax, cx⟩, rfl, hra0, hAx, hAb, rfl⟩) | refine Nx.bin rfl rfl (run_addK (by unfold I64; omega) hNN) rfl ?_ | refine Nx.makeStructs (sz := 2) (by_ := 16) (m := N) frC0 (0, 0) rfl rfl rfl rfl rfl rfl rfl rfl rfl rfl (by omega) (by unfold maxLen; omega) (fun bx => ?_) | refine Nx.so ?_ | refine Nx.sb (fun bx => ?_) | refine Nx.sa (fun A2 c2 => ?_))
    | refine Nx.za ?_ | refine Nx.zr (fun hc => ?_) (fun hc => ?_)
    | refine Nx.zq ?_ | refine Nx.zu (fun hc => ?_) (fun hc => ?_)
    | refine Nx.zx ?_ | fail
  rename_i b4 b6
  revert bx; intro bc
  dsimp only at hra0 hAx hAb
  refine Nx.ent (R' := [outQ q ⟨ta, Ax, cx⟩, Vec 24 2 (some ⟨bc, 0, none⟩) N N ((List.replicate N ((0 : Int), (0 : Int))).flatMap frC0), Blk b6 87 (rtC q ⟨ta, Ax, cx⟩), rrowsR q ta q.s0.T, rightR q ⟨ta, Ax, cx⟩ q.s0.T, basisR q ta q.s0.B, Blk b4 87 [.slice none 0 0, .slice none 0 0, .slice none 0 0], F]) (by rw [← hqm]; (exact Ent.auto)) ?_
  refine Nx.vec_fact fun _ _ _ hAr => ?_
  rw [hqm] at hAr
  have hra : ∀ i, i < q.m → (ta.ra i).1.isSome = true := fun i hi => (hra0 i (by omega)).1
  refine Nx.p_loop (σ := Nat) (fun k => [(0, .int .i64 (n : Int)), (4, .pointer (some ⟨b4, 0, none⟩)), (6, .pointer (some ⟨b6, 0, none⟩)), (7, .slice (some ⟨bc, 0, none⟩) N N), (21, .int .i64 (N : Int)), (22, .int .i64 (k : Int))])
    (fun k => [Vec 24 2 (some ⟨bc, 0, none⟩) N N ((prow N k (Bl.cst (Bl.cost1 q))).flatMap frC0), Blk b6 87 (rtC q ⟨ta, Ax, cx⟩), outQ q ⟨ta, Ax, cx⟩, rrowsR q ta q.s0.T, rightR q ⟨ta, Ax, cx⟩ q.s0.T, basisR q ta q.s0.B, Blk b4 87 [.slice none 0 0, .slice none 0 0, .slice none 0 0], F]) (fun k => k ≤ N) (fun k => N - k) 0 rfl (Nat.zero_le _) ⟨rfl, rfl, rfl, rfl, rfl, rfl, trivial⟩ (by rw [← prow_zero]; (exact Ent.auto)) ?_
  intro k hk
  have hk : k ≤ N := hk
  by_cases hkN : k < N
  · have hset := prow_set (f := Bl.cst (Bl.cost1 q)) hkN
    by_cases hkc : (n : Int) ≤ (k : Int)
    · have hv : Bl.cst (Bl.cost1 q) k = ((-1 : Int) : Rat) := by unfold Bl.cst Bl.cost1; rw [if_neg (by omega)]
      rw [hv] at hset
      have hss : ((prow N k (Bl.cst (Bl.cost1 q))).set k (0, 1)).set k (((-1 : Int) : Rat).num, (((-1 : Int) : Rat).den : Int)) = prow N (k + 1) (Bl.cst (Bl.cost1 q)) := by rw [List.set_set]; exact hset
      repeat' first
        | ((with_reducible refine Nx.is_wp ?_); first | refine Nx.wo ?_ | refine Nx.zp (fun hc => ?_) (fun hc => ?_))
        | (refine Nx.zo ?_; first | refine Nx.opr rfl rfl ?_ | refine Nx.callv rfl rfl rfl (by kernel_rfl) rfl (rwhole_spec _ _) ?_ | refine Nx.indexAddr_nat (A := some ⟨bc, 0, none⟩) (i := k) (sz := 2) rfl rfl rfl rfl rfl hkN rfl ?_ | refine Nx.store_el2 (f := frC0) (a := fun q => .int .i64 q.1) (b := fun q => .int .i64 q.2) (A := some ⟨bc, 0, none⟩) (l := prow N k (Bl.cst (Bl.cost1 q))) (i := k) (z := ((0 : Int), (1 : Int))) 0 rfl rfl rfl (fun _ => rfl) rfl rfl rfl rfl (by rw [prow_len]; exact hkN) hkN ?_ | refine Nx.store_el2 (f := frC0) (a := fun q => .int .i64 q.1) (b := fun q => .int .i64 q.2) (A := some ⟨bc, 0, none⟩) (l := (prow N k (Bl.cst (Bl.cost1 q))).set k ((0 : Int), (1 : Int))) (i := k) (z := (((-1 : Int) : Rat).num, (((-1 : Int) : Rat).den : Int))) 0 rfl rfl rfl (fun _ => rfl) rfl rfl rfl rfl (by rw [List.length_set, prow_len]; exact hkN) hkN ?_ | refine Nx.so ?_ | refine Nx.sb (fun bx => ?_) | refine Nx.sa (fun A2 c2 => ?_))
        | refine Nx.za ?_ | refine Nx.zr (fun hc => ?_) (fun hc => ?_)
        | refine Nx.zq ?_ | refine Nx.zu (fun hc => ?_) (fun hc => ?_)
        | refine Nx.zx ?_ | fail
      exact Nx.again (k + 1) hkN (by omega) ⟨rfl, rfl, rfl, rfl, rfl, rfl, trivial⟩ (by rw [← hss]; (exact Ent.auto))
    · have hv : Bl.cst (Bl.cost1 q) k = ((0 : Int) : Rat) := by unfold Bl.cst Bl.cost1; rw [if_pos (by omega)]
      rw [hv] at hset
      repeat' first
        | ((with_reducible refine Nx.is_wp ?_); first | refine Nx.wo ?_ | refine Nx.zp (fun hc => ?_) (fun hc => ?_))
        | (refine Nx.zo ?_; first | refine Nx.opr rfl rfl ?_ | refine Nx.callv rfl rfl rfl (by kernel_rfl) rfl (rwhole_spec _ _) ?_ | refine Nx.indexAddr_nat (A := some ⟨bc, 0, none⟩) (i := k) (sz := 2) rfl rfl rfl rfl rfl hkN rfl ?_ | refine Nx.store_el2 (f := frC0) (a := fun q => .int .i64 q.1) (b := fun q => .int .i64 q.2) (A := some ⟨bc, 0, none⟩) (l := prow N k (Bl.cst (Bl.cost1 q))) (i := k) (z := (((0 : Int) : Rat).num, (((0 : Int) : Rat).den : Int))) 0 rfl rfl rfl (fun _ => rfl) rfl rfl rfl rfl (by rw [prow_len]; exact hkN) hkN ?_ | refine Nx.so ?_ | refine Nx.sb (fun bx => ?_) | refine Nx.sa (fun A2 c2 => ?_))
        | refine Nx.za ?_ | refine Nx.zr (fun hc => ?_) (fun hc => ?_)
        | refine Nx.zq ?_ | refine Nx.zu (fun hc => ?_) (fun hc => ?_)
        | refine Nx.zx ?_ | fail
      exact Nx.again (k + 1) hkN (by omega) ⟨rfl, rfl, rfl, rfl, rfl, rfl, trivial⟩ (by rw [← hset]; (exact Ent.auto))
  obtain rfl : N = k := by omega
  rw [prow_end]
  refine Nx.freezeAt 0 rfl fun I2 m2 hI2 hm2 hf2 => ?_
  rw [hN] at hf2 ⊢
  have hcost : Rats I2 (some ⟨bc, 0, none⟩) q.N (rl q.N (Bl.cst (Bl.cost1 q))) := Vec.sliceN (t := 24) hm2 (by rw [rl_len]; exact hf2) fun _ _ => rfl
  have hG := fun (m I' : PH) (hle : PH.le I2 I') (hm : PH.le m I') (hv : Stars [outQ q ⟨ta, Ax, cx⟩] m) => greatest_spec q hq ⟨ta, Ax, cx⟩ q.s0 (Bl.s0_inv hq) (Bl.cost1 q) (Bl.cost1_bd q) (some ⟨bc, 0, none⟩) q.N I' (hcost.mono hle) (out_keep hm hv) hra (fun h => hAx (by omega)) (fun h => hAb (by omega))
  rw [hqn] at hG
  repeat' first
    | ((with_reducible refine Nx.is_wp ?_); first | refine Nx.wo ?_ | refine Nx.zp (fun hc => ?_) (fun hc => ?_))
    | (refine Nx.zo ?_; first | refine Nx.opr rfl rfl ?_ | (refine Nx.call rfl rfl rfl (by kernel_rfl) rfl (FnSpec.keep [outQ q ⟨ta, Ax, cx⟩] hG) (by (exact Ent.auto)) ?_; rintro _ _ ⟨_, ⟨s1, bo1, hrun, rfl⟩, rfl⟩) | refine Nx.so ?_ | refine Nx.sb (fun bx => ?_) | refine Nx.sa (fun A2 c2 => ?_))
    | refine Nx.za ?_ | refine Nx.zr (fun hc => ?_) (fun hc => ?_)
    | refine Nx.zq ?_ | refine Nx.zu (fun hc => ?_) (fun hc => ?_)
    | refine Nx.zx ?_ | fail
  rw [← hqn] at hrun
  have hinv := hrun.inv2 (Bl.s0_inv2 hq)
  have hph := Bl.phase1 hrun hq
  refine Nx.p_loop (σ := Nat) (fun i => [(0, .int .i64 (n : Int)), (4, .pointer (some ⟨b4, 0, none⟩)), (6, .pointer (some ⟨b6, 0, none⟩)), (43, .int .i64 (q.m : Int)), (44, .int .i64 (i : Int))])
    (fun _ => [Blk b6 87 (rtC q ⟨ta, Ax, cx⟩), outQ q ⟨ta, Ax, cx⟩, rrowsR q ta s1.T, rightR q ⟨ta, Ax, cx⟩ s1.T, basisR q ta s1.B, Blk b4 87 [.slice none 0 0, .slice none 0 0, .slice none 0 0], F]) (fun i => i ≤ q.m ∧ ∀ j, j < i → q.cnt ≤ s1.B j → s1.T j q.N = 0) (fun i => q.m - i) 0 rfl ⟨Nat.zero_le _, fun j hj => absurd hj (Nat.not_lt_zero _)⟩ ⟨rfl, rfl, rfl, rfl, rfl, trivial⟩ (by (exact Ent.auto)) ?_
  rintro i ⟨hi, hz⟩
  by_cases him : i < q.m
  · have hAb' := hAb (by omega)
    have hAx' := hAx (by omega)
    have hbr := fun (W : World) (R : List Res) (j : Nat) (hj : nthL R j = some (basisR q ta s1.B)) => bas_rd (W := W) (I := I2) j hj him
    have hnr := fun (W : World) (R : List Res) (j : Nat) (hj : nthL R j = some (rightR q ⟨ta, Ax, cx⟩ s1.T)) => Rds.get (right_rds (W := W) (I := I2) (ra := ⟨ta, Ax, cx⟩) j hj him) 0 (u := .int .i64 (s1.T i q.N).num) rfl
    have hzi : (s1.B i < q.cnt ∨ s1.T i q.N = 0) → ∀ j, j < i + 1 → q.cnt ≤ s1.B j → s1.T j q.N = 0 := fun hh j hj hb => by
      by_cases hji : j < i
      · exact hz j hji hb
      · obtain rfl : j = i := by omega
        exact hh.resolve_left (by omega)
    have hbad : q.cnt ≤ s1.B i → s1.T i q.N ≠ 0 → ¬ ∃ x, Bl.Feas q x := fun hb hne hex => hne (hph.2 hex i him hb)
    obtain ⟨xn, hxn⟩ : ∃ xn, xn = s1.T i q.N := ⟨_, rfl⟩
    rw [← hxn] at hnr hzi hbad
    generalize s1.B i = Bi at hbr hzi hbad
    by_cases hB : n ≤ Bi
    case neg =>
      repeat' first
        | ((with_reducible refine Nx.is_wp ?_); first | refine Nx.wo ?_ | refine Nx.zp (fun hc => ?_) (fun hc => ?_))
        | (refine Nx.zo ?_; first | refine Nx.opr rfl rfl ?_ | refine Nx.indexAddr_nat (A := ta.Ab) (i := i) (sz := 1) rfl rfl rfl rfl rfl him hAb' ?_ | refine Nx.load rfl rfl rfl (hbr _ _ 4 rfl) ?_ | refine Nx.so ?_ | refine Nx.sb (fun bx => ?_) | refine Nx.sa (fun A2 c2 => ?_))
        | refine Nx.za ?_ | refine Nx.zr (fun hc => ?_) (fun hc => ?_)
        | refine Nx.zq ?_ | refine Nx.zu (fun hc => ?_) (fun hc => ?_)
        | refine Nx.zx ?_ | fail
      exact Nx.again (i + 1) ⟨him, hzi (.inl (by omega))⟩ (by omega) ⟨rfl, rfl, rfl, rfl, rfl, trivial⟩ (by (exact Ent.auto))
    by_cases hx0 : xn = 0
    · have hn0 : xn.num = 0 := by rw [hx0]; rfl
      repeat' first
        | ((with_reducible refine Nx.is_wp ?_); first | refine Nx.wo ?_ | refine Nx.zp (fun hc => ?_) (fun hc => ?_))
        | (refine Nx.zo ?_; first | refine Nx.fieldAddr (A := (ad Ax).add (i * 2)) rfl rfl rfl ?_ | refine Nx.opr rfl rfl ?_ | refine Nx.indexAddr_nat (A := ta.Ab) (i := i) (sz := 1) rfl rfl rfl rfl rfl him hAb' ?_ | refine Nx.load rfl rfl rfl (hbr _ _ 4 rfl) ?_ | refine Nx.indexAddr_nat (A := Ax) (i := i) (sz := 2) rfl rfl rfl rfl rfl him hAx' ?_ | refine Nx.load rfl rfl rfl (hnr _ _ 3 rfl) ?_ | refine Nx.so ?_ | refine Nx.sb (fun bx => ?_) | refine Nx.sa (fun A2 c2 => ?_))
        | refine Nx.za ?_ | refine Nx.zr (fun hc => ?_) (fun hc => ?_)
        | refine Nx.zq ?_ | refine Nx.zu (fun hc => ?_) (fun hc => ?_)
        | refine Nx.zx ?_ | fail
      exact Nx.again (i + 1) ⟨him, hzi (.inr hx0)⟩ (by omega) ⟨rfl, rfl, rfl, rfl, rfl, trivial⟩ (by (exact Ent.auto))
    · have hn0 : xn.num ≠ 0 := rat_ne hx0
      repeat' first
        | ((with_reducible refine Nx.is_wp ?_); first | refine Nx.wo ?_ | refine Nx.zp (fun hc => ?_) (fun hc => ?_))
        | (refine Nx.zo ?_; first | refine Nx.fieldAddr (A := (ad Ax).add (i * 2)) rfl rfl rfl ?_ | refine Nx.opr rfl rfl ?_ | refine Nx.indexAddr_nat (A := ta.Ab) (i := i) (sz := 1) rfl rfl rfl rfl rfl him hAb' ?_ | refine Nx.load rfl rfl rfl (hbr _ _ 4 rfl) ?_ | refine Nx.indexAddr_nat (A := Ax) (i := i) (sz := 2) rfl rfl rfl rfl rfl him hAx' ?_ | refine Nx.load rfl rfl rfl (hnr _ _ 3 rfl) ?_ | refine Nx.so ?_ | refine Nx.sb (fun bx => ?_) | refine Nx.sa (fun A2 c2 => ?_))
        | refine Nx.za ?_ | refine Nx.zr (fun hc => ?_) (fun hc => ?_)
        | refine Nx.zq ?_ | refine Nx.zu (fun hc => ?_) (fun hc => ?_)
        | refine Nx.zx ?_ | fail
      exact Nx.imm_le hI2 (Nx.ret2 rfl (ROne.cell 0 rfl rfl rfl rfl rfl) (ROne.tmp rfl) [_, _, _, _] ⟨⟨ta, Ax, cx⟩, s1, false, rfl, ⟨fun h => (by cases h), fun h => absurd h (hbad (by omega) hx0)⟩, fun h => (by cases h), fun i hi => hra i (by omega), hAx, hAb, hAr, rfl⟩ (by (exact Ent.auto)))
  obtain rfl : i = q.m := by omega
  have hart : Bl.Art0 q s1 := hz
  have hfeas := hph.1 hart
  repeat' first
    | ((with_reducible refine Nx.is_wp ?_); first | refine Nx.wo ?_ | refine Nx.zp (fun hc => ?_) (fun hc => ?_))
    | (refine Nx.zo ?_; first | refine Nx.opr rfl rfl ?_ | refine Nx.so ?_ | refine Nx.sb (fun bx => ?_) | refine Nx.sa (fun A2 c2 => ?_))
    | refine Nx.za ?_ | refine Nx.zr (fun hc => ?_) (fun hc => ?_)
    | refine Nx.zq ?_ | refine Nx.zu (fun hc => ?_) (fun hc => ?_)
    | refine Nx.zx ?_ | fail
  refine Nx.p_loop (σ := Nat × Bl.Tab) (fun z => [(0, .int .i64 (n : Int)), (4, .pointer (some ⟨b4, 0, none⟩)), (6, .pointer (some ⟨b6, 0, none⟩)), (67, .int .i64 (q.m : Int)), (68, .int .i64 (z.1 : Int))])
    (fun z => [Blk b6 87 (rtC q ⟨ta, Ax, cx⟩), outQ q ⟨ta, Ax, cx⟩, rrowsR q ta z.2.T, rightR q ⟨ta, Ax, cx⟩ z.2.T, basisR q ta z.2.B, Blk b4 87 [.slice none 0 0, .slice none 0 0, .slice none 0 0], F]) (fun z => z.1 ≤ q.m ∧ Bl.Inv2 q z.2 ∧ Bl.Art0 q z.2 ∧ Bl.Zer q z.2 z.1) (fun z => q.m - z.1) (0, s1) rfl ⟨Nat.zero_le _, hinv, hart, fun i hi => absurd hi (Nat.not_lt_zero _)⟩ ⟨rfl, rfl, rfl, rfl, rfl, trivial⟩ (by (exact Ent.auto)) ?_
  clear hrun hph hz hinv hart
  rintro ⟨i, s⟩ ⟨hi, hs, ha, hzr⟩
  dsimp only at hi hs ha hzr ⊢
  by_cases him : i < q.m
  case neg =>
    obtain rfl : i = q.m := by omega
    repeat' first
      | ((with_reducible refine Nx.is_wp ?_); first | refine Nx.wo ?_ | refine Nx.zp (fun hc => ?_) (fun hc => ?_))
      | (refine Nx.zo ?_; first | refine Nx.opr rfl rfl ?_ | refine Nx.so ?_ | refine Nx.sb (fun bx => ?_) | refine Nx.sa (fun A2 c2 => ?_))
      | refine Nx.za ?_ | refine Nx.zr (fun hc => ?_) (fun hc => ?_)
      | refine Nx.zq ?_ | refine Nx.zu (fun hc => ?_) (fun hc => ?_)
      | refine Nx.zx ?_ | fail
    exact Nx.imm_le hI2 (Nx.ret2 rfl (ROne.cell 0 rfl rfl rfl rfl rfl) (ROne.tmp rfl) [_, _, _, _] ⟨⟨ta, Ax, cx⟩, s, true, rfl, ⟨fun _ => hfeas, fun _ => rfl⟩, fun _ => ⟨hs, ha, hzr⟩, fun i hi => hra i (by omega), hAx, hAb, hAr, rfl⟩ (by (exact Ent.auto)))
  have hAb' := hAb (by omega)
  have hAr' := hAr (by omega)
  have hri := hra i him
  repeat' first
    | ((with_reducible refine Nx.is_wp ?_); first | refine Nx.wo ?_ | refine Nx.zp (fun hc => ?_) (fun hc => ?_))
    | (refine Nx.zo ?_; first | refine Nx.opr rfl rfl ?_ | refine Nx.so ?_ | refine Nx.sb (fun bx => ?_) | refine Nx.sa (fun A2 c2 => ?_))
    | refine Nx.za ?_ | refine Nx.zr (fun hc => ?_) (fun hc => ?_)
    | refine Nx.zq ?_ | refine Nx.zu (fun hc => ?_) (fun hc => ?_)
    | refine Nx.zx ?_ | fail
  refine Nx.p_loop (σ := Nat × Bl.Tab) (fun z => [(0, .int .i64 (n : Int)), (4, .pointer (some ⟨b4, 0, none⟩)), (6, .pointer (some ⟨b6, 0, none⟩)), (10, .int .i64 (i : Int)), (11, .int .i64 (z.1 : Int)), (67, .int .i64 (q.m : Int)), (68, .int .i64 (i : Int))])
    (fun z => [Blk b6 87 (rtC q ⟨ta, Ax, cx⟩), outQ q ⟨ta, Ax, cx⟩, rrowsR q ta z.2.T, rightR q ⟨ta, Ax, cx⟩ z.2.T, basisR q ta z.2.B, Blk b4 87 [.slice none 0 0, .slice none 0 0, .slice none 0 0], F]) (fun z => z.1 ≤ n ∧ Bl.Inv2 q z.2 ∧ Bl.Art0 q z.2 ∧ Bl.Zer q z.2 i ∧ (n ≤ z.2.B i → ∀ j, j < z.1 → z.2.T i j = 0)) (fun z => n - z.1) (0, s) rfl ⟨Nat.zero_le _, hs, ha, hzr, fun _ j hj => absurd hj (Nat.not_lt_zero _)⟩ ⟨rfl, rfl, rfl, rfl, rfl, rfl, rfl, trivial⟩ (by (exact Ent.auto)) ?_
  clear hs ha hzr
  rintro ⟨k, s'⟩ ⟨hk, hs, ha, hzr, hzk⟩
  dsimp only at hk hs ha hzr hzk ⊢
  have hend : ¬(k < n ∧ n ≤ s'.B i) → Bl.Zer q s' (i + 1) := fun hh j hj hb x hx => by
    by_cases hji : j < i
    · exact hzr j hji hb x hx
    · obtain rfl : j = i := by omega
      have hkn : ¬ k < n := fun h => hh ⟨h, by omega⟩
      exact hzk (by omega) x (by omega)
  by_cases hkn : k < n
  case neg =>
    have hz1 := hend fun h => hkn h.1
    repeat' first
      | ((with_reducible refine Nx.is_wp ?_); first | refine Nx.wo ?_ | refine Nx.zp (fun hc => ?_) (fun hc => ?_))
      | (refine Nx.zo ?_; first | refine Nx.opr rfl rfl ?_ | refine Nx.so ?_ | refine Nx.sb (fun bx => ?_) | refine Nx.sa (fun A2 c2 => ?_))
      | refine Nx.za ?_ | refine Nx.zr (fun hc => ?_) (fun hc => ?_)
      | refine Nx.zq ?_ | refine Nx.zu (fun hc => ?_) (fun hc => ?_)
      | refine Nx.zx ?_ | fail
    exact Nx.again (i + 1, s') ⟨him, hs, ha, hz1⟩ (by dsimp only; omega) ⟨rfl, rfl, rfl, rfl, rfl, trivial⟩ (by (exact Ent.auto))
  have hbr := fun (W : World) (R : List Res) (j : Nat) (hj : nthL R j = some (basisR q ta s'.B)) => bas_rd (W := W) (I := I2) j hj him
  by_cases hB : n ≤ s'.B i
  case neg =>
    have hz1 := hend fun h => hB h.2
    generalize s'.B i = Bi at hbr hB
    repeat' first
      | ((with_reducible refine Nx.is_wp ?_); first | refine Nx.wo ?_ | refine Nx.zp (fun hc => ?_) (fun hc => ?_))
      | (refine Nx.zo ?_; first | refine Nx.opr rfl rfl ?_ | refine Nx.indexAddr_nat (A := ta.Ab) (i := i) (sz := 1) rfl rfl rfl rfl rfl him hAb' ?_ | refine Nx.load rfl rfl rfl (hbr _ _ 4 rfl) ?_ | refine Nx.so ?_ | refine Nx.sb (fun bx => ?_) | refine Nx.sa (fun A2 c2 => ?_))
      | refine Nx.za ?_ | refine Nx.zr (fun hc => ?_) (fun hc => ?_)
      | refine Nx.zq ?_ | refine Nx.zu (fun hc => ?_) (fun hc => ?_)
      | refine Nx.zx ?_ | fail
    exact Nx.again (i + 1, s') ⟨him, hs, ha, hz1⟩ (by dsimp only; omega) ⟨rfl, rfl, rfl, rfl, rfl, trivial⟩ (by (exact Ent.auto))
  have hN0 := ha i him (by omega)
  have hkN : k < q.N := by show k < q.cnt + q.m; omega
  have hor := fun (W : World) (R : List Res) (j : Nat) (hj : nthL R j = some (outQ q ⟨ta, Ax, cx⟩)) => out_rd (W := W) (I := I2) j hj him
  dsimp only at hor
  have hnr := fun (W : World) (R : List Res) (j : Nat) (hj : nthL R j = some (rrowsR q ta s'.T)) => Rds.get (rnum_rds (W := W) (I := I2) j hj him hkN) 0 (u := .int .i64 (s'.T i k).num) rfl
  by_cases hx0 : s'.T i k = 0
  · have hzk1 : n ≤ s'.B i → ∀ j, j < k + 1 → s'.T i j = 0 := fun hb j hj => by
      by_cases hjk : j < k
      · exact hzk hb j hjk
      · obtain rfl : j = k := by omega
        exact hx0
    have hn0 : (s'.T i k).num = 0 := by rw [hx0]; rfl
    generalize s'.T i k = xn at hnr hn0
    generalize hBi : s'.B i = Bi at hbr hB
    repeat' first
      | ((with_reducible refine Nx.is_wp ?_); first | refine Nx.wo ?_ | refine Nx.zp (fun hc => ?_) (fun hc => ?_))
      | (refine Nx.zo ?_; first | refine Nx.fieldAddr (A := (ad (ta.ra i).1).add (k * 2)) rfl rfl rfl ?_ | refine Nx.opr rfl rfl ?_ | refine Nx.indexAddr_nat (A := ta.Ab) (i := i) (sz := 1) rfl rfl rfl rfl rfl him hAb' ?_ | refine Nx.load rfl rfl rfl (hbr _ _ 4 rfl) ?_ | refine Nx.indexAddr_nat (A := ta.Ar) (i := i) (sz := 1) rfl rfl rfl rfl rfl him hAr' ?_ | refine Nx.load rfl rfl rfl (hor _ _ 1 rfl) ?_ | refine Nx.indexAddr_nat (A := (ta.ra i).1) (i := k) (sz := 2) rfl rfl rfl rfl rfl hkN hri ?_ | refine Nx.load rfl rfl rfl (hnr _ _ 2 rfl) ?_ | refine Nx.so ?_ | refine Nx.sb (fun bx => ?_) | refine Nx.sa (fun A2 c2 => ?_))
      | refine Nx.za ?_ | refine Nx.zr (fun hc => ?_) (fun hc => ?_)
      | refine Nx.zq ?_ | refine Nx.zu (fun hc => ?_) (fun hc => ?_)
      | refine Nx.zx ?_ | fail
    exact Nx.again (k + 1, s') ⟨hkn, hs, ha, hzr, hzk1⟩ (by dsimp only; omega) ⟨rfl, rfl, rfl, rfl, rfl, rfl, rfl, trivial⟩ (by (exact Ent.auto))
  have hP := fun (m I' : PH) (hle : PH.le I2 I') (hm : PH.le m I') (hv : Stars [outQ q ⟨ta, Ax, cx⟩] m) => rpivot_spec q hq ⟨ta, Ax, cx⟩ s' hs.inv i k him (by omega) hx0 (hs.inv.out him (by omega) hx0 hN0) I' (out_keep hm hv) hra (hAx (by omega)) hAb'
  have hp1 : Bl.Inv2 q (Bl.piv s' i k) := hs.out him (by omega) hx0 hN0
  have hp2 : Bl.Art0 q (Bl.piv s' i k) := Bl.art0_piv ha hN0
  have hp3 : Bl.Zer q (Bl.piv s' i k) i := Bl.zer_piv hzr (by omega)
  have hp4 : n ≤ (Bl.piv s' i k).B i → ∀ j, j < k + 1 → (Bl.piv s' i k).T i j = 0 := fun hb => by
    have : (Bl.piv s' i k).B i = k := if_pos rfl
    omega
  have hn0 : (s'.T i k).num ≠ 0 := rat_ne hx0
  generalize s'.T i k = xn at hnr hn0
  generalize hBi : s'.B i = Bi at hbr hB
  repeat' first
    | ((with_reducible refine Nx.is_wp ?_); first | refine Nx.wo ?_ | refine Nx.zp (fun hc => ?_) (fun hc => ?_))
    | (refine Nx.zo ?_; first | refine Nx.fieldAddr (A := (ad (ta.ra i).1).add (k * 2)) rfl rfl rfl ?_ | refine Nx.opr rfl rfl ?_ | refine Nx.indexAddr_nat (A := ta.Ab) (i := i) (sz := 1) rfl rfl rfl rfl rfl him hAb' ?_ | refine Nx.load rfl rfl rfl (hbr _ _ 4 rfl) ?_ | refine Nx.indexAddr_nat (A := ta.Ar) (i := i) (sz := 1) rfl rfl rfl rfl rfl him hAr' ?_ | refine Nx.load rfl rfl rfl (hor _ _ 1 rfl) ?_ | refine Nx.indexAddr_nat (A := (ta.ra i).1) (i := k) (sz := 2) rfl rfl rfl rfl rfl hkN hri ?_ | refine Nx.load rfl rfl rfl (hnr _ _ 2 rfl) ?_ | (refine Nx.call rfl rfl rfl (by kernel_rfl) rfl (FnSpec.keep [outQ q ⟨ta, Ax, cx⟩] hP) (by (exact Ent.auto)) ?_; rintro _ _ ⟨_, rfl, rfl⟩) | refine Nx.so ?_ | refine Nx.sb (fun bx => ?_) | refine Nx.sa (fun A2 c2 => ?_))
    | refine Nx.za ?_ | refine Nx.zr (fun hc => ?_) (fun hc => ?_)
    | refine Nx.zq ?_ | refine Nx.zu (fun hc => ?_) (fun hc => ?_)
    | refine Nx.zx ?_ | fail
  exact Nx.again (k + 1, Bl.piv s' i k) ⟨hkn, hp1, hp2, hp3, hp4⟩ (by dsimp only; omega) ⟨rfl, rfl, rfl, rfl, rfl, rfl, rfl, trivial⟩ (by (exact Ent.auto))
end Go.Proofs.YtpcnapidlhpbkaaGreatDoor
namespace Go.Proofs.YtpcnapidlhpbkaaGreatDoor
open Go.Eng Go.Sol
attribute [local irreducible] opK wpList Code.wp Exit.then Exit.inBlock fnPost bodyPost Nx Calls Oper.wp Rd Rds Wr Ent Stars Blk Again Vec FnSpec wpMix QRun Stop Upto wpAt
def inB (l : List EqR) (k : Int) : Bool := l.any fun q => decide (k ∈ q.1.2.2)
theorem inB_unb {n : Nat} {l : List EqR} {k : Nat} : inB l k = false ↔ Unb (toQ n l) k := by
  unfold inB Unb
  rw [← Bool.not_eq_true, List.any_eq_true]
  constructor
  · intro h j hj
    refine decide_eq_false fun hm => h ⟨l.getD j default, getD_memQ hj, decide_eq_true hm⟩
  · rintro h ⟨q, hq, hm⟩
    obtain ⟨j, hj, rfl⟩ := List.mem_iff_getElem.1 hq
    have := h j hj
    have e : l.getD j default = l[j] := by rw [List.getD_eq_getElem?_getD, List.getElem?_eq_getElem hj]; rfl
    rw [show (toQ n l).cell j k = decide ((k : Int) ∈ (l.getD j default).1.2.2) from rfl, e, hm] at this
    cases this
set_option maxRecDepth 10000 in
theorem rin_spec (A : Option Addr) (c : Nat) (l : List EqR) (k : Int) (I : PH) (hl : Eqs I A c l) :
    FnSpec Tryz.prog 40 [.slice A l.length c, .int .i64 k] I [] (fun v R' => v = .bool (inB l k) ∧ R' = []) := by
  have hlen := hl.len
  refine FnSpec.enterP Tryz.func40 rfl Tryz.ntmps40 rfl fun w F => ?_
  repeat' first
    | ((with_reducible refine Nx.is_wp ?_); first | refine Nx.wo ?_ | refine Nx.zp (fun hc => ?_) (fun hc => ?_))
    | (refine Nx.zo ?_; first | refine Nx.opr rfl rfl ?_ | refine Nx.so ?_ | refine Nx.sb (fun bx => ?_) | refine Nx.sa (fun A2 c2 => ?_))
    | refine Nx.za ?_ | refine Nx.zr (fun hc => ?_) (fun hc => ?_)
    | refine Nx.zq ?_ | refine Nx.zu (fun hc => ?_) (fun hc => ?_)
    | refine Nx.zx ?_ | fail
  refine Nx.p_loop (σ := Nat) (fun i => [(1, .int .i64 k), (9, .slice A l.length c), (10, .int .i64 l.length), (11, .int .i64 (i : Int))])
    (fun _ => [F]) (fun i => i ≤ l.length ∧ inB (l.take i) k = false) (fun i => l.length - i) 0 rfl ⟨Nat.zero_le _, rfl⟩ ⟨rfl, rfl, rfl, rfl, trivial⟩ (by (exact Ent.auto)) ?_
  rintro i ⟨hi, hno⟩
  by_cases him : i < l.length
  case neg =>
    obtain rfl : i = l.length := by omega
    rw [List.take_length] at hno
    repeat' first
      | ((with_reducible refine Nx.is_wp ?_); first | refine Nx.wo ?_ | refine Nx.zp (fun hc => ?_) (fun hc => ?_))
      | (refine Nx.zo ?_; first | refine Nx.opr rfl rfl ?_ | refine Nx.so ?_ | refine Nx.sb (fun bx => ?_) | refine Nx.sa (fun A2 c2 => ?_))
      | refine Nx.za ?_ | refine Nx.zr (fun hc => ?_) (fun hc => ?_)
      | refine Nx.zq ?_ | refine Nx.zu (fun hc => ?_) (fun hc => ?_)
      | refine Nx.zx ?_ | fail
    exact Nx.ret_fn rfl [] ⟨by rw [hno], rfl⟩ (by (exact Ent.auto))
  have hm := getD_memQ him
  have hin := hl.inner _ hm
  have hrds : ∀ (W : World) (R : List Res), Rds W I R ((ad A).add (i * 2)) (eqC (l.getD i default)) := fun W R => hl.outer.rds him
  have hA := hl.outer.isSome (by omega) (by omega)
  have hyes : k ∈ (l.getD i default).1.2.2 → inB l k = true := fun h => List.any_eq_true.2 ⟨_, hm, decide_eq_true h⟩
  have hnx : k ∉ (l.getD i default).1.2.2 → inB (l.take (i + 1)) k = false := fun h => by
    unfold inB at hno ⊢
    rw [take_snocQ him, List.any_append, hno, List.any_cons, decide_eq_false h]; rfl
  generalize l.getD i default = q at hm hin hrds hyes hnx
  obtain ⟨⟨Ax, cx, L⟩, vx⟩ := q
  dsimp only at hin hyes hnx
  have hLl := hin.len
  repeat' first
    | ((with_reducible refine Nx.is_wp ?_); first | refine Nx.wo ?_ | refine Nx.zp (fun hc => ?_) (fun hc => ?_))
    | (refine Nx.zo ?_; first | refine Nx.opr rfl rfl ?_ | refine Nx.indexAddr_nat (A := A) (i := i) (sz := 2) rfl rfl rfl rfl rfl him hA ?_ | refine Nx.loads rfl rfl rfl rfl (hrds _ _) rfl ?_ | refine Nx.so ?_ | refine Nx.sb (fun bx => ?_) | refine Nx.sa (fun A2 c2 => ?_))
    | refine Nx.za ?_ | refine Nx.zr (fun hc => ?_) (fun hc => ?_)
    | refine Nx.zq ?_ | refine Nx.zu (fun hc => ?_) (fun hc => ?_)
    | refine Nx.zx ?_ | fail
  revert bx; intro b6
  refine Nx.p_loop (σ := Nat) (fun j => [(1, .int .i64 k), (9, .slice A l.length c), (10, .int .i64 l.length), (11, .int .i64 (i : Int)), (16, .slice Ax L.length cx), (17, .int .i64 L.length), (18, .int .i64 (j : Int))])
    (fun _ => [F]) (fun j => j ≤ L.length ∧ k ∉ L.take j) (fun j => L.length - j) 0 rfl ⟨Nat.zero_le _, by simp⟩ ⟨rfl, rfl, rfl, rfl, rfl, rfl, rfl, trivial⟩ (by (exact Ent.auto)) ?_
  rintro j ⟨hj, hnj⟩
  by_cases hjL : j < L.length
  case neg =>
    obtain rfl : j = L.length := by omega
    rw [List.take_length] at hnj
    repeat' first
      | ((with_reducible refine Nx.is_wp ?_); first | refine Nx.wo ?_ | refine Nx.zp (fun hc => ?_) (fun hc => ?_))
      | (refine Nx.zo ?_; first | refine Nx.opr rfl rfl ?_ | refine Nx.so ?_ | refine Nx.sb (fun bx => ?_) | refine Nx.sa (fun A2 c2 => ?_))
      | refine Nx.za ?_ | refine Nx.zr (fun hc => ?_) (fun hc => ?_)
      | refine Nx.zq ?_ | refine Nx.zu (fun hc => ?_) (fun hc => ?_)
      | refine Nx.zx ?_ | fail
    exact Nx.again (i + 1) ⟨him, hnx hnj⟩ (by omega) ⟨rfl, rfl, rfl, rfl, trivial⟩ (by (exact Ent.auto))
  have hrd : ∀ (W : World) (R : List Res), Rd W I R ((ad Ax).add (j * 1)) (.int .i64 (L.getD j default)) := fun W R => hin.rd hjL
  have hAx := hin.isSome (by omega)
  have hmem : L.getD j default ∈ L := by rw [List.getD_eq_getElem?_getD, List.getElem?_eq_getElem hjL]; exact List.getElem_mem _
  have hts := take_snocJ hjL
  generalize L.getD j default = y at hrd hmem hts
  by_cases hy : y = k
  · subst hy
    repeat' first
      | ((with_reducible refine Nx.is_wp ?_); first | refine Nx.wo ?_ | refine Nx.zp (fun hc => ?_) (fun hc => ?_))
      | (refine Nx.zo ?_; first | refine Nx.opr rfl rfl ?_ | refine Nx.indexAddr_nat (A := Ax) (i := j) (sz := 1) rfl rfl rfl rfl rfl hjL hAx ?_ | refine Nx.load rfl rfl rfl (hrd _ _) ?_ | refine Nx.so ?_ | refine Nx.sb (fun bx => ?_) | refine Nx.sa (fun A2 c2 => ?_))
      | refine Nx.za ?_ | refine Nx.zr (fun hc => ?_) (fun hc => ?_)
      | refine Nx.zq ?_ | refine Nx.zu (fun hc => ?_) (fun hc => ?_)
      | refine Nx.zx ?_ | fail
    all_goals first
      | exact Nx.ret_fn rfl [] ⟨by rw [hyes hmem], rfl⟩ (by (exact Ent.auto))
      | exact absurd rfl (by assumption)
  · have hnj2 : k ∉ L.take (j + 1) := by
      rw [hts, List.mem_append, List.mem_singleton]
      rintro (h | h)
      · exact hnj h
      · exact hy h.symm
    repeat' first
      | ((with_reducible refine Nx.is_wp ?_); first | refine Nx.wo ?_ | refine Nx.zp (fun hc => ?_) (fun hc => ?_))
      | (refine Nx.zo ?_; first | refine Nx.opr rfl rfl ?_ | refine Nx.indexAddr_nat (A := Ax) (i := j) (sz := 1) rfl rfl rfl rfl rfl hjL hAx ?_ | refine Nx.load rfl rfl rfl (hrd _ _) ?_ | refine Nx.so ?_ | refine Nx.sb (fun bx => ?_) | refine Nx.sa (fun A2 c2 => ?_))
      | refine Nx.za ?_ | refine Nx.zr (fun hc => ?_) (fun hc => ?_)
      | refine Nx.zq ?_ | refine Nx.zu (fun hc => ?_) (fun hc => ?_)
      | refine Nx.zx ?_ | fail
    all_goals first
      | exact Nx.again (j + 1) ⟨hjL, hnj2⟩ (by omega) ⟨rfl, rfl, rfl, rfl, rfl, rfl, rfl, trivial⟩ (by (exact Ent.auto))
      | exact absurd (by assumption) hy
set_option maxRecDepth 10000 in
theorem rcheck_spec (n : Int) (A : Option Addr) (c : Nat) (l : List EqR) (I : PH) (hl : Eqs I A c l) :
    FnSpec Tryz.prog 38 [.int .i64 n, .slice A l.length c] I [] (fun v R' => v = .int .i64 (chkB n l 0) ∧ R' = []) := by
  have hlen := hl.len
  have hV := RValid_spec n A c l I hl
  unfold chkB
  refine FnSpec.enterP Tryz.func38 rfl Tryz.ntmps38 rfl fun w F => ?_
  by_cases h1 : 1 ≤ n
  case neg =>
    rw [if_pos (.inl (by omega))]
    repeat' first
      | ((with_reducible refine Nx.is_wp ?_); first | refine Nx.wo ?_ | refine Nx.zp (fun hc => ?_) (fun hc => ?_))
      | (refine Nx.zo ?_; first | refine Nx.opr rfl rfl ?_ | refine Nx.so ?_ | refine Nx.sb (fun bx => ?_) | refine Nx.sa (fun A2 c2 => ?_))
      | refine Nx.za ?_ | refine Nx.zr (fun hc => ?_) (fun hc => ?_)
      | refine Nx.zq ?_ | refine Nx.zu (fun hc => ?_) (fun hc => ?_)
      | refine Nx.zx ?_ | fail
    exact Nx.ret_fn rfl [] ⟨rfl, rfl⟩ (by (exact Ent.auto))
  by_cases h2 : n ≤ 10
  case neg =>
    rw [if_pos (.inl (by omega))]
    repeat' first
      | ((with_reducible refine Nx.is_wp ?_); first | refine Nx.wo ?_ | refine Nx.zp (fun hc => ?_) (fun hc => ?_))
      | (refine Nx.zo ?_; first | refine Nx.opr rfl rfl ?_ | refine Nx.so ?_ | refine Nx.sb (fun bx => ?_) | refine Nx.sa (fun A2 c2 => ?_))
      | refine Nx.za ?_ | refine Nx.zr (fun hc => ?_) (fun hc => ?_)
      | refine Nx.zq ?_ | refine Nx.zu (fun hc => ?_) (fun hc => ?_)
      | refine Nx.zx ?_ | fail
    exact Nx.ret_fn rfl [] ⟨rfl, rfl⟩ (by (exact Ent.auto))
  cases hv : validB n l with
  | false =>
    rw [hv] at hV
    rw [if_pos (.inr rfl)]
    repeat' first
      | ((with_reducible refine Nx.is_wp ?_); first | refine Nx.wo ?_ | refine Nx.zp (fun hc => ?_) (fun hc => ?_))
      | (refine Nx.zo ?_; first | refine Nx.opr rfl rfl ?_ | refine Nx.callv rfl rfl rfl (by kernel_rfl) rfl hV ?_ | refine Nx.so ?_ | refine Nx.sb (fun bx => ?_) | refine Nx.sa (fun A2 c2 => ?_))
      | refine Nx.za ?_ | refine Nx.zr (fun hc => ?_) (fun hc => ?_)
      | refine Nx.zq ?_ | refine Nx.zu (fun hc => ?_) (fun hc => ?_)
      | refine Nx.zx ?_ | fail
    exact Nx.ret_fn rfl [] ⟨rfl, rfl⟩ (by (exact Ent.auto))
  | true =>
  rw [hv] at hV
  rw [if_neg (by rintro (h | h); exact h ⟨h1, h2⟩; cases h)]
  by_cases h3 : l.length ≤ 10
  case neg =>
    rw [if_pos (by omega)]
    repeat' first
      | ((with_reducible refine Nx.is_wp ?_); first | refine Nx.wo ?_ | refine Nx.zp (fun hc => ?_) (fun hc => ?_))
      | (refine Nx.zo ?_; first | refine Nx.opr rfl rfl ?_ | refine Nx.callv rfl rfl rfl (by kernel_rfl) rfl hV ?_ | refine Nx.so ?_ | refine Nx.sb (fun bx => ?_) | refine Nx.sa (fun A2 c2 => ?_))
      | refine Nx.za ?_ | refine Nx.zr (fun hc => ?_) (fun hc => ?_)
      | refine Nx.zq ?_ | refine Nx.zu (fun hc => ?_) (fun hc => ?_)
      | refine Nx.zx ?_ | fail
    exact Nx.ret_fn rfl [] ⟨rfl, rfl⟩ (by (exact Ent.auto))
  rw [if_neg (by omega)]
  repeat' first
    | ((with_reducible refine Nx.is_wp ?_); first | refine Nx.wo ?_ | refine Nx.zp (fun hc => ?_) (fun hc => ?_))
    | (refine Nx.zo ?_; first | refine Nx.opr rfl rfl ?_ | refine Nx.callv rfl rfl rfl (by kernel_rfl) rfl hV ?_ | refine Nx.so ?_ | refine Nx.sb (fun bx => ?_) | refine Nx.sa (fun A2 c2 => ?_))
    | refine Nx.za ?_ | refine Nx.zr (fun hc => ?_) (fun hc => ?_)
    | refine Nx.zq ?_ | refine Nx.zu (fun hc => ?_) (fun hc => ?_)
    | refine Nx.zx ?_ | fail
  refine Nx.p_loop (σ := Nat) (fun i => [(22, .slice A l.length c), (23, .int .i64 l.length), (24, .int .i64 (i : Int))])
    (fun _ => [F]) (fun i => i ≤ l.length ∧ (l.take i).any bigQ = false) (fun i => l.length - i) 0 rfl ⟨Nat.zero_le _, rfl⟩ ⟨rfl, rfl, rfl, trivial⟩ (by (exact Ent.auto)) ?_
  rintro i ⟨hi, hno⟩
  by_cases him : i < l.length
  case neg =>
    obtain rfl : i = l.length := by omega
    rw [List.take_length] at hno
    rw [if_neg (by rintro (h | h); rw [hno] at h; cases h; exact h ⟨by omega, by omega⟩)]
    repeat' first
      | ((with_reducible refine Nx.is_wp ?_); first | refine Nx.wo ?_ | refine Nx.zp (fun hc => ?_) (fun hc => ?_))
      | (refine Nx.zo ?_; first | refine Nx.opr rfl rfl ?_ | refine Nx.so ?_ | refine Nx.sb (fun bx => ?_) | refine Nx.sa (fun A2 c2 => ?_))
      | refine Nx.za ?_ | refine Nx.zr (fun hc => ?_) (fun hc => ?_)
      | refine Nx.zq ?_ | refine Nx.zu (fun hc => ?_) (fun hc => ?_)
      | refine Nx.zx ?_ | fail
    exact Nx.ret_fn rfl [] ⟨rfl, rfl⟩ (by (exact Ent.auto))
  have hm := getD_memQ him
  have hrds : ∀ (W : World) (R : List Res), Rds W I R ((ad A).add (i * 2)) (eqC (l.getD i default)) := fun W R => hl.outer.rds him
  have hA := hl.outer.isSome (by omega) (by omega)
  have hsn := take_snocQ him
  generalize l.getD i default = q at hm hrds hsn
  by_cases hb : 1000 < q.2
  · rw [if_pos (.inl (List.any_eq_true.2 ⟨q, hm, decide_eq_true hb⟩))]
    repeat' first
      | ((with_reducible refine Nx.is_wp ?_); first | refine Nx.wo ?_ | refine Nx.zp (fun hc => ?_) (fun hc => ?_))
      | (refine Nx.zo ?_; first | refine Nx.opr rfl rfl ?_ | refine Nx.indexAddr_nat (A := A) (i := i) (sz := 2) rfl rfl rfl rfl rfl him hA ?_ | refine Nx.loads rfl rfl rfl rfl (hrds _ _) rfl ?_ | refine Nx.so ?_ | refine Nx.sb (fun bx => ?_) | refine Nx.sa (fun A2 c2 => ?_))
      | refine Nx.za ?_ | refine Nx.zr (fun hc => ?_) (fun hc => ?_)
      | refine Nx.zq ?_ | refine Nx.zu (fun hc => ?_) (fun hc => ?_)
      | refine Nx.zx ?_ | fail
    exact Nx.ret_fn rfl [] ⟨rfl, rfl⟩ (by (exact Ent.auto))
  · repeat' first
      | ((with_reducible refine Nx.is_wp ?_); first | refine Nx.wo ?_ | refine Nx.zp (fun hc => ?_) (fun hc => ?_))
      | (refine Nx.zo ?_; first | refine Nx.opr rfl rfl ?_ | refine Nx.indexAddr_nat (A := A) (i := i) (sz := 2) rfl rfl rfl rfl rfl him hA ?_ | refine Nx.loads rfl rfl rfl rfl (hrds _ _) rfl ?_ | refine Nx.so ?_ | refine Nx.sb (fun bx => ?_) | refine Nx.sa (fun A2 c2 => ?_))
      | refine Nx.za ?_ | refine Nx.zr (fun hc => ?_) (fun hc => ?_)
      | refine Nx.zq ?_ | refine Nx.zu (fun hc => ?_) (fun hc => ?_)
      | refine Nx.zx ?_ | fail
    exact Nx.again (i + 1) ⟨him, by rw [hsn, List.any_append, hno, List.any_cons, show bigQ q = false from decide_eq_false hb]; rfl⟩ (by omega) ⟨rfl, rfl, rfl, trivial⟩ (by (exact Ent.auto))
end Go.Proofs.YtpcnapidlhpbkaaGreatDoor
namespace Go.Proofs.YtpcnapidlhpbkaaGreatDoor
open Go.Eng Go.Sol
attribute [local irreducible] opK wpList Code.wp Exit.then Exit.inBlock fnPost bodyPost Nx Calls Oper.wp Rd Rds Wr Ent Stars Blk Again Vec FnSpec wpMix QRun Stop Upto wpAt
attribute [local irreducible] wpFork
structure RQ (I : PH) (q : Bl.Eqs) (ra : RA) (s : Bl.Tab) : Prop where
  outer : SliceOf (fun i : Nat => Value.slice (ra.ta.ra i).1 q.N (ra.ta.ra i).2) I ra.ta.Ar ra.ta.cr (List.range q.m)
  rows : ∀ i, i < q.m → Rats I (ra.ta.ra i).1 (ra.ta.ra i).2 (rl q.N (s.T i))
  right : Rats I ra.Ax ra.cx (rl q.m fun i => s.T i q.N)
  basis : SliceOf (fun i : Nat => Value.int .i64 (s.B i : Int)) I ra.ta.Ab ra.ta.cb (List.range q.m)
theorem rq_of {q : Bl.Eqs} {ra : RA} {s : Bl.Tab} {m I' : PH} (hm : PH.le m I') (h : Stars [outQ q ra, rrowsR q ra.ta s.T, rightR q ra s.T, basisR q ra.ta s.B] m) : RQ I' q ra s := by
  obtain ⟨m0, d0, h0⟩ := Stars.get 0 h rfl
  obtain ⟨m2, d2, h2⟩ := Stars.get 1 h rfl
  obtain ⟨m3, d3, h3⟩ := Stars.get 2 h rfl
  obtain ⟨m1, d1, h1⟩ := Stars.get 3 h rfl
  refine ⟨outer_frozen (d0.trans hm) h0, fun i hi => ?_, ?_, ?_⟩
  · obtain ⟨m4, d4, h4⟩ := Stars.nth (i := i) h2 (by rw [List.getElem?_map]; unfold rowsL; rw [List.getElem?_map, List.getElem?_range hi]; rfl)
    have h4 : Vec 24 2 (ra.ta.ra i).1 q.N (ra.ta.ra i).2 ((rl q.N (s.T i)).flatMap ratC) m4 := h4
    exact Vec.sliceN (t := 24) (l := rl q.N (s.T i)) ((d4.trans d2).trans hm) (by rw [rl_len]; exact h4) fun _ _ => rfl
  · have h3 : Vec 24 2 ra.Ax q.m ra.cx ((rl q.m fun i => s.T i q.N).flatMap ratC) m3 := h3
    exact Vec.sliceN (t := 24) (l := rl q.m fun i => s.T i q.N) (d3.trans hm) (by rw [rl_len]; exact h3) fun _ _ => rfl
  · have h1 : Vec 3 1 ra.ta.Ab q.m ra.ta.cb ((basL q s.B).map (Value.int .i64)) m1 := h1
    refine Vec.sliceOf (t := 3) (d1.trans hm) ?_
    rw [List.length_range]
    unfold basL at h1
    rw [List.map_map] at h1
    exact h1
section
variable {I : PH} {q : Bl.Eqs} {ra : RA} {s : Bl.Tab} {W : World} {R : List Res}
theorem RQ.row (h : RQ I q ra s) {i : Nat} (hi : i < q.m) : Rd W I R ((ad ra.ta.Ar).add (i * 1)) (.slice (ra.ta.ra i).1 q.N (ra.ta.ra i).2) := by
  have := h.outer.rd (W := W) (R := R) (k := i) (by rw [List.length_range]; exact hi)
  rwa [range_getD hi] at this
theorem RQ.bas (h : RQ I q ra s) {i : Nat} (hi : i < q.m) : Rd W I R ((ad ra.ta.Ab).add (i * 1)) (.int .i64 (s.B i : Int)) := by
  have := h.basis.rd (W := W) (R := R) (k := i) (by rw [List.length_range]; exact hi)
  rwa [range_getD hi] at this
theorem RQ.num (h : RQ I q ra s) {i k : Nat} (hi : i < q.m) (hk : k < q.N) : Rds W I R ((ad (ra.ta.ra i).1).add (k * 2)) (ratC (s.T i k)) := by
  have := (h.rows i hi).rds (W := W) (R := R) (k := k) (by rw [rl_len]; exact hk)
  rwa [rl_at _ hk] at this
theorem RQ.rgt (h : RQ I q ra s) {i : Nat} (hi : i < q.m) : Rds W I R ((ad ra.Ax).add (i * 2)) (ratC (s.T i q.N)) := by
  have := h.right.rds (W := W) (R := R) (k := i) (by rw [rl_len]; exact hi)
  rwa [rl_at _ hi] at this
end
def wsm (q : Bl.Eqs) (cell : Nat) (up : Bool) (s : Bl.Tab) (j i : Nat) : Rat := Bl.sm i fun a => Bl.cst (Bl.cost2 cell up) (s.B a) * s.T a (q.cnt + j)
theorem wsm_succ (q : Bl.Eqs) (cell : Nat) (up : Bool) (s : Bl.Tab) (j i : Nat) : wsm q cell up s j (i + 1) = wsm q cell up s j i + Bl.cst (Bl.cost2 cell up) (s.B i) * s.T i (q.cnt + j) := rfl
theorem wsm_skip {q : Bl.Eqs} {cell : Nat} {up : Bool} {s : Bl.Tab} {j i : Nat} (hc : cell < q.cnt) (hB : q.cnt ≤ s.B i) : wsm q cell up s j (i + 1) = wsm q cell up s j i := by
  rw [wsm_succ]
  have h : Bl.cst (Bl.cost2 cell up) (s.B i) = 0 := by unfold Bl.cst Bl.cost2; rw [if_neg (by omega)]; rfl
  rw [h]; grind
theorem wsm_wt (q : Bl.Eqs) (cell : Nat) (up : Bool) (s : Bl.Tab) (j : Nat) : Bl.wt q cell up s j = if up then wsm q cell up s j q.m else -wsm q cell up s j q.m := by
  unfold Bl.wt Bl.y wsm
  cases up
  · rw [Bl.sgn_f, if_neg Bool.false_ne_true]; grind
  · rw [Bl.sgn_t, if_pos rfl]; grind
theorem cs2_up (q : Bl.Eqs) (cell : Nat) : rl q.N (updF (fun _ => 0) cell 1) = rl q.N (Bl.cst (Bl.cost2 cell true)) := rl_congr fun k _ => by
  unfold updF Bl.cst Bl.cost2 Bl.sgn
  by_cases h : k = cell
  · rw [if_pos h, if_pos h]; rfl
  · rw [if_neg h, if_neg h]; rfl
theorem cs2_down (q : Bl.Eqs) (cell : Nat) : rl q.N (updF (updF (fun _ => 0) cell 1) cell (-1)) = rl q.N (Bl.cst (Bl.cost2 cell false)) := rl_congr fun k _ => by
  unfold updF Bl.cst Bl.cost2 Bl.sgn
  by_cases h : k = cell
  · rw [if_pos h, if_pos h]; rfl
  · rw [if_neg h, if_neg h, if_neg h]; rfl
set_option maxRecDepth 10000 in
theorem bound12 (w : World) (Q : Exit → Act → World → Prop) (hQ : PanicOk Q) (RR : List Res) (n : Nat) (hn10 : n ≤ 10) (cell : Int) (up : Bool) (v1 v8 v9 v11 : Value) (I : PH)
    (h : ∀ b' b13, Nx ⟨Tryz.prog, 155, w⟩ [(0, .int .i64 (n : Int)), (1, v1), (2, .int .i64 cell), (3, .bool up), (8, v8), (9, v9), (11, v11), (13, .pointer (some ⟨b13, 0, none⟩))] I
      (Blk b13 27 [.int .i64 cell, .bool up, .int .i64 0, .int .i64 1, .slice (some ⟨b', 0, none⟩) n n, .slice none 0 0] :: Vec 24 2 (some ⟨b', 0, none⟩) n n ((List.replicate n ((0 : Int), (0 : Int))).flatMap frC0) :: RR) (Q .normal)) :
    Nx ⟨Tryz.prog, 155, w⟩ [(0, .int .i64 (n : Int)), (1, v1), (2, .int .i64 cell), (3, .bool up), (8, v8), (9, v9), (11, v11)] I RR (Code.wp Tryz.prog (cl (cr (cr (cr (cr (cr (cr (cr (bodyOf Tryz.f41))))))))) Q) := by
  have hW : FnSpec Tryz.prog 52 [.int .i64 0] I [] (fun v R' => v = .agg #[.int .i64 0, .int .i64 1] ∧ R' = []) := rwhole_spec 0 I
  refine Nx.p_forkF (id := 12) rfl [7] [7] [7] [] rfl rfl (by kernel_rfl) (by kernel_rfl) hQ (Ent.nil _) ?_
  refine Nx.forkF_qs [0, 1, 3] 5 rfl (by kernel_rfl) ?_
  repeat' first
    | ((with_reducible refine Nx.is_wp ?_); first | refine Nx.wo ?_ | refine Nx.zp (fun hc => ?_) (fun hc => ?_))
    | (refine Nx.zo ?_; first | refine Nx.opr rfl rfl ?_ | refine Nx.so ?_ | refine Nx.sb (fun bx => ?_) | refine Nx.sa (fun A2 c2 => ?_))
    | refine Nx.za ?_ | refine Nx.zr (fun hc => ?_) (fun hc => ?_)
    | refine Nx.zq ?_ | refine Nx.zu (fun hc => ?_) (fun hc => ?_)
    | refine Nx.zx ?_ | fail
  refine Nx.forkF3 (i := 2) (j := 4) (k := 6) (by kernel_rfl) rfl rfl rfl rfl rfl rfl ?_ ?_ ?_
  · refine Nx.callv rfl rfl rfl (by kernel_rfl) rfl hW ?_
    refine Nx.mix_S (by (exact Ent.auto)) ?_
    refine Nx.forkF2 (i := 4) (j := 6) (by kernel_rfl) rfl rfl rfl rfl ?_ ?_
    · refine Nx.makeStructs (sz := 2) (by_ := 16) (m := n) frC0 (0, 0) rfl rfl rfl rfl rfl rfl rfl rfl rfl rfl (by omega) (by unfold maxLen; omega) (fun b' => ?_)
      refine Nx.mix_S (by (exact Ent.auto)) ?_
      refine Nx.forkF_q 5 (by kernel_rfl) ?_
      repeat' first
        | ((with_reducible refine Nx.is_wp ?_); first | refine Nx.wo ?_ | refine Nx.zp (fun hc => ?_) (fun hc => ?_))
        | (refine Nx.zo ?_; first | refine Nx.opr rfl rfl ?_ | refine Nx.so ?_ | refine Nx.sb (fun bx => ?_) | refine Nx.sa (fun A2 c2 => ?_))
        | refine Nx.za ?_ | refine Nx.zr (fun hc => ?_) (fun hc => ?_)
        | refine Nx.zq ?_ | refine Nx.zu (fun hc => ?_) (fun hc => ?_)
        | refine Nx.zx ?_ | fail
      refine Nx.forkF1 (i := 6) (by kernel_rfl) rfl rfl ?_
      refine Nx.sb (fun b13 => ?_)
      refine Nx.mix_S (by (exact Ent.auto)) ?_
      refine Nx.forkF_fin (by kernel_rfl) (by kernel_rfl) rfl ?_
      repeat' first
        | ((with_reducible refine Nx.is_wp ?_); first | refine Nx.wo ?_ | refine Nx.zp (fun hc => ?_) (fun hc => ?_))
        | (refine Nx.zo ?_; first | refine Nx.opr rfl rfl ?_ | refine Nx.so ?_ | refine Nx.sb (fun bx => ?_) | refine Nx.sa (fun A2 c2 => ?_))
        | refine Nx.za ?_ | refine Nx.zr (fun hc => ?_) (fun hc => ?_)
        | refine Nx.zq ?_ | refine Nx.zu (fun hc => ?_) (fun hc => ?_)
        | refine Nx.zx ?_ | fail
      exact Nx.weak (by exact ⟨rfl, rfl, rfl, rfl, rfl, rfl, rfl, rfl, trivial⟩) (by (exact Ent.auto)) (h b' b13)
    · refine Nx.sb (fun b13 => ?_)
      refine Nx.mix_S (by (exact Ent.auto)) ?_
      refine Nx.forkF1 (i := 4) (by kernel_rfl) rfl rfl ?_
      refine Nx.makeStructs (sz := 2) (by_ := 16) (m := n) frC0 (0, 0) rfl rfl rfl rfl rfl rfl rfl rfl rfl rfl (by omega) (by unfold maxLen; omega) (fun b' => ?_)
      refine Nx.mix_S (by (exact Ent.auto)) ?_
      refine Nx.forkF_q 5 (by kernel_rfl) ?_
      repeat' first
        | ((with_reducible refine Nx.is_wp ?_); first | refine Nx.wo ?_ | refine Nx.zp (fun hc => ?_) (fun hc => ?_))
        | (refine Nx.zo ?_; first | refine Nx.opr rfl rfl ?_ | refine Nx.so ?_ | refine Nx.sb (fun bx => ?_) | refine Nx.sa (fun A2 c2 => ?_))
        | refine Nx.za ?_ | refine Nx.zr (fun hc => ?_) (fun hc => ?_)
        | refine Nx.zq ?_ | refine Nx.zu (fun hc => ?_) (fun hc => ?_)
        | refine Nx.zx ?_ | fail
      refine Nx.forkF_fin (by kernel_rfl) (by kernel_rfl) rfl ?_
      repeat' first
        | ((with_reducible refine Nx.is_wp ?_); first | refine Nx.wo ?_ | refine Nx.zp (fun hc => ?_) (fun hc => ?_))
        | (refine Nx.zo ?_; first | refine Nx.opr rfl rfl ?_ | refine Nx.so ?_ | refine Nx.sb (fun bx => ?_) | refine Nx.sa (fun A2 c2 => ?_))
        | refine Nx.za ?_ | refine Nx.zr (fun hc => ?_) (fun hc => ?_)
        | refine Nx.zq ?_ | refine Nx.zu (fun hc => ?_) (fun hc => ?_)
        | refine Nx.zx ?_ | fail
      exact Nx.weak (by exact ⟨rfl, rfl, rfl, rfl, rfl, rfl, rfl, rfl, trivial⟩) (by (exact Ent.auto)) (h b' b13)
  · refine Nx.makeStructs (sz := 2) (by_ := 16) (m := n) frC0 (0, 0) rfl rfl rfl rfl rfl rfl rfl rfl rfl rfl (by omega) (by unfold maxLen; omega) (fun b' => ?_)
    refine Nx.mix_S (by (exact Ent.auto)) ?_
    refine Nx.forkF2 (i := 2) (j := 6) (by kernel_rfl) rfl rfl rfl rfl ?_ ?_
    · refine Nx.callv rfl rfl rfl (by kernel_rfl) rfl hW ?_
      refine Nx.mix_S (by (exact Ent.auto)) ?_
      refine Nx.forkF_q 5 (by kernel_rfl) ?_
      repeat' first
        | ((with_reducible refine Nx.is_wp ?_); first | refine Nx.wo ?_ | refine Nx.zp (fun hc => ?_) (fun hc => ?_))
        | (refine Nx.zo ?_; first | refine Nx.opr rfl rfl ?_ | refine Nx.so ?_ | refine Nx.sb (fun bx => ?_) | refine Nx.sa (fun A2 c2 => ?_))
        | refine Nx.za ?_ | refine Nx.zr (fun hc => ?_) (fun hc => ?_)
        | refine Nx.zq ?_ | refine Nx.zu (fun hc => ?_) (fun hc => ?_)
        | refine Nx.zx ?_ | fail
      refine Nx.forkF1 (i := 6) (by kernel_rfl) rfl rfl ?_
      refine Nx.sb (fun b13 => ?_)
      refine Nx.mix_S (by (exact Ent.auto)) ?_
      refine Nx.forkF_fin (by kernel_rfl) (by kernel_rfl) rfl ?_
      repeat' first
        | ((with_reducible refine Nx.is_wp ?_); first | refine Nx.wo ?_ | refine Nx.zp (fun hc => ?_) (fun hc => ?_))
        | (refine Nx.zo ?_; first | refine Nx.opr rfl rfl ?_ | refine Nx.so ?_ | refine Nx.sb (fun bx => ?_) | refine Nx.sa (fun A2 c2 => ?_))
        | refine Nx.za ?_ | refine Nx.zr (fun hc => ?_) (fun hc => ?_)
        | refine Nx.zq ?_ | refine Nx.zu (fun hc => ?_) (fun hc => ?_)
        | refine Nx.zx ?_ | fail
      exact Nx.weak (by exact ⟨rfl, rfl, rfl, rfl, rfl, rfl, rfl, rfl, trivial⟩) (by (exact Ent.auto)) (h b' b13)
    · refine Nx.sb (fun b13 => ?_)
      refine Nx.mix_S (by (exact Ent.auto)) ?_
      refine Nx.forkF1 (i := 2) (by kernel_rfl) rfl rfl ?_
      refine Nx.callv rfl rfl rfl (by kernel_rfl) rfl hW ?_
      refine Nx.mix_S (by (exact Ent.auto)) ?_
      refine Nx.forkF_q 5 (by kernel_rfl) ?_
      repeat' first
        | ((with_reducible refine Nx.is_wp ?_); first | refine Nx.wo ?_ | refine Nx.zp (fun hc => ?_) (fun hc => ?_))
        | (refine Nx.zo ?_; first | refine Nx.opr rfl rfl ?_ | refine Nx.so ?_ | refine Nx.sb (fun bx => ?_) | refine Nx.sa (fun A2 c2 => ?_))
        | refine Nx.za ?_ | refine Nx.zr (fun hc => ?_) (fun hc => ?_)
        | refine Nx.zq ?_ | refine Nx.zu (fun hc => ?_) (fun hc => ?_)
        | refine Nx.zx ?_ | fail
      refine Nx.forkF_fin (by kernel_rfl) (by kernel_rfl) rfl ?_
      repeat' first
        | ((with_reducible refine Nx.is_wp ?_); first | refine Nx.wo ?_ | refine Nx.zp (fun hc => ?_) (fun hc => ?_))
        | (refine Nx.zo ?_; first | refine Nx.opr rfl rfl ?_ | refine Nx.so ?_ | refine Nx.sb (fun bx => ?_) | refine Nx.sa (fun A2 c2 => ?_))
        | refine Nx.za ?_ | refine Nx.zr (fun hc => ?_) (fun hc => ?_)
        | refine Nx.zq ?_ | refine Nx.zu (fun hc => ?_) (fun hc => ?_)
        | refine Nx.zx ?_ | fail
      exact Nx.weak (by exact ⟨rfl, rfl, rfl, rfl, rfl, rfl, rfl, rfl, trivial⟩) (by (exact Ent.auto)) (h b' b13)
  · refine Nx.sb (fun b13 => ?_)
    refine Nx.mix_S (by (exact Ent.auto)) ?_
    refine Nx.forkF2 (i := 2) (j := 4) (by kernel_rfl) rfl rfl rfl rfl ?_ ?_
    · refine Nx.callv rfl rfl rfl (by kernel_rfl) rfl hW ?_
      refine Nx.mix_S (by (exact Ent.auto)) ?_
      refine Nx.forkF1 (i := 4) (by kernel_rfl) rfl rfl ?_
      refine Nx.makeStructs (sz := 2) (by_ := 16) (m := n) frC0 (0, 0) rfl rfl rfl rfl rfl rfl rfl rfl rfl rfl (by omega) (by unfold maxLen; omega) (fun b' => ?_)
      refine Nx.mix_S (by (exact Ent.auto)) ?_
      refine Nx.forkF_q 5 (by kernel_rfl) ?_
      repeat' first
        | ((with_reducible refine Nx.is_wp ?_); first | refine Nx.wo ?_ | refine Nx.zp (fun hc => ?_) (fun hc => ?_))
        | (refine Nx.zo ?_; first | refine Nx.opr rfl rfl ?_ | refine Nx.so ?_ | refine Nx.sb (fun bx => ?_) | refine Nx.sa (fun A2 c2 => ?_))
        | refine Nx.za ?_ | refine Nx.zr (fun hc => ?_) (fun hc => ?_)
        | refine Nx.zq ?_ | refine Nx.zu (fun hc => ?_) (fun hc => ?_)
        | refine Nx.zx ?_ | fail
      refine Nx.forkF_fin (by kernel_rfl) (by kernel_rfl) rfl ?_
      repeat' first
        | ((with_reducible refine Nx.is_wp ?_); first | refine Nx.wo ?_ | refine Nx.zp (fun hc => ?_) (fun hc => ?_))
        | (refine Nx.zo ?_; first | refine Nx.opr rfl rfl ?_ | refine Nx.so ?_ | refine Nx.sb (fun bx => ?_) | refine Nx.sa (fun A2 c2 => ?_))
        | refine Nx.za ?_ | refine Nx.zr (fun hc => ?_) (fun hc => ?_)
        | refine Nx.zq ?_ | refine Nx.zu (fun hc => ?_) (fun hc => ?_)
        | refine Nx.zx ?_ | fail
      exact Nx.weak (by exact ⟨rfl, rfl, rfl, rfl, rfl, rfl, rfl, rfl, trivial⟩) (by (exact Ent.auto)) (h b' b13)
    · refine Nx.makeStructs (sz := 2) (by_ := 16) (m := n) frC0 (0, 0) rfl rfl rfl rfl rfl rfl rfl rfl rfl rfl (by omega) (by unfold maxLen; omega) (fun b' => ?_)
      refine Nx.mix_S (by (exact Ent.auto)) ?_
      refine Nx.forkF1 (i := 2) (by kernel_rfl) rfl rfl ?_
      refine Nx.callv rfl rfl rfl (by kernel_rfl) rfl hW ?_
      refine Nx.mix_S (by (exact Ent.auto)) ?_
      refine Nx.forkF_q 5 (by kernel_rfl) ?_
      repeat' first
        | ((with_reducible refine Nx.is_wp ?_); first | refine Nx.wo ?_ | refine Nx.zp (fun hc => ?_) (fun hc => ?_))
        | (refine Nx.zo ?_; first | refine Nx.opr rfl rfl ?_ | refine Nx.so ?_ | refine Nx.sb (fun bx => ?_) | refine Nx.sa (fun A2 c2 => ?_))
        | refine Nx.za ?_ | refine Nx.zr (fun hc => ?_) (fun hc => ?_)
        | refine Nx.zq ?_ | refine Nx.zu (fun hc => ?_) (fun hc => ?_)
        | refine Nx.zx ?_ | fail
      refine Nx.forkF_fin (by kernel_rfl) (by kernel_rfl) rfl ?_
      repeat' first
        | ((with_reducible refine Nx.is_wp ?_); first | refine Nx.wo ?_ | refine Nx.zp (fun hc => ?_) (fun hc => ?_))
        | (refine Nx.zo ?_; first | refine Nx.opr rfl rfl ?_ | refine Nx.so ?_ | refine Nx.sb (fun bx => ?_) | refine Nx.sa (fun A2 c2 => ?_))
        | refine Nx.za ?_ | refine Nx.zr (fun hc => ?_) (fun hc => ?_)
        | refine Nx.zq ?_ | refine Nx.zu (fun hc => ?_) (fun hc => ?_)
        | refine Nx.zx ?_ | fail
      exact Nx.weak (by exact ⟨rfl, rfl, rfl, rfl, rfl, rfl, rfl, rfl, trivial⟩) (by (exact Ent.auto)) (h b' b13)
set_option maxRecDepth 10000 in
theorem bound_rest (w : World) (F : Res) (n : Nat) (A : Option Addr) (c : Nat) (l : List EqR) (cell : Nat) (up : Bool) (I : PH) (q : Bl.Eqs) (hq : q.Small) (hqm : q.m = l.length) (hqn : q.cnt = n) (hn1 : 1 ≤ n) (hcell : cell < n) (hnu : ¬(up = true ∧ ∀ j, j < q.m → q.cell j cell = false)) (ta : TA) (Ax : Option Addr) (cx : Nat) (s : Bl.Tab) (hrdy : Bl.Rdy q s) (b8 b9 bc : Nat)
    (hra : ∀ i, i < l.length → (ta.ra i).1.isSome = true) (hAx : 0 < l.length → Ax.isSome = true) (hAb : 0 < l.length → ta.Ab.isSome = true) (hAr : 0 < l.length → ta.Ar.isSome = true) :
    Nx ⟨Tryz.prog, 155, w⟩ [(0, .int .i64 (n : Int)), (1, .slice A l.length c), (2, .int .i64 (cell : Int)), (3, .bool up), (8, .pointer (some ⟨b8, 0, none⟩)), (9, .pointer (some ⟨b9, 0, none⟩)), (11, .slice (some ⟨bc, 0, none⟩) q.N q.N)] I
      [ratsR (some ⟨bc, 0, none⟩) q.N q.N (rl q.N (Bl.cst (Bl.cost2 cell up))), Blk b9 87 (rtC q ⟨ta, Ax, cx⟩), outQ q ⟨ta, Ax, cx⟩, rrowsR q ta s.T, rightR q ⟨ta, Ax, cx⟩ s.T, basisR q ta s.B, Blk b8 27 [.int .i64 0, .bool false, .int .i64 0, .int .i64 0, .slice none 0 0, .slice none 0 0], F]
      (Code.wp Tryz.prog (cr (cr (cr (cr (cr (cr (bodyOf Tryz.f41))))))) (fnPost Tryz.prog Tryz.f41 I F w (fun v R' => ∃ (x w : Nat → Rat) (D : Int) (b' : Nat) (A' : Option Addr) (c' : Nat), Bl.PrOk q cell up x w ∧ Bl.PrSz q x w D ∧ Bl.IsOpt q cell up (x cell) ∧ v = proofV cell up (x cell) (.slice (some ⟨b', 0, none⟩) n n) (.slice A' l.length c') ∧ R' = [ratsR (some ⟨b', 0, none⟩) n n (rl n x), ratsR A' l.length c' (rl l.length w)]))) := by
  have hcnt := hq.cnt
  have hm10 := hq.m
  have hNb : q.N ≤ 20 := by show q.cnt + q.m ≤ 20; omega
  refine Nx.freezeAt 0 rfl fun I2 m2 hI2 hm2 hf2 => ?_
  have hcost : Rats I2 (some ⟨bc, 0, none⟩) q.N (rl q.N (Bl.cst (Bl.cost2 cell up))) := Vec.sliceN (t := 24) hm2 (by rw [rl_len]; exact hf2) fun _ _ => rfl
  have hG := fun (m I' : PH) (hle : PH.le I2 I') (hm : PH.le m I') (hv : Stars [outQ q ⟨ta, Ax, cx⟩] m) => greatest_spec q hq ⟨ta, Ax, cx⟩ s hrdy.inv.inv (Bl.cost2 cell up) (Bl.cost2_bd cell up) (some ⟨bc, 0, none⟩) q.N I' (hcost.mono hle) (out_keep hm hv) (fun i hi => hra i (by omega)) (fun h => hAx (by omega)) (fun h => hAb (by omega))
  rw [hqn] at hG
  repeat' first
    | ((with_reducible refine Nx.is_wp ?_); first | refine Nx.wo ?_ | refine Nx.zp (fun hc => ?_) (fun hc => ?_))
    | (refine Nx.zo ?_; first | refine Nx.opr rfl rfl ?_ | (refine Nx.call rfl rfl rfl (by kernel_rfl) rfl (FnSpec.keep [outQ q ⟨ta, Ax, cx⟩] hG) (by (exact Ent.auto)) ?_; rintro _ _ ⟨_, ⟨s2, bo2, hrun, rfl⟩, rfl⟩) | refine Nx.so ?_ | refine Nx.sb (fun bx => ?_) | refine Nx.sa (fun A2 c2 => ?_))
    | refine Nx.za ?_ | refine Nx.zr (fun hc => ?_) (fun hc => ?_)
    | refine Nx.zq ?_ | refine Nx.zu (fun hc => ?_) (fun hc => ?_)
    | refine Nx.zx ?_ | fail
  rw [← hqn] at hrun
  have hcq : cell < q.cnt := by omega
  obtain rfl : bo2 = true := by
    cases bo2 with
    | true => rfl
    | false => exact absurd ((Bl.phase2_false hrun hrdy hcq).1 rfl) hnu
  have hs2 := hrun.rdy hrdy
  have hopt := Bl.phase2_true hs2 hcq (hrun.end_t rfl)
  have hok := Bl.proof_ok hs2 hcq (hrun.end_t rfl)
  obtain ⟨D, hsz⟩ := Bl.proof_sz (cell := cell) (up := up) hq hs2
  obtain ⟨D2, hD⟩ := hs2.inv.inv.num hq
  clear hrun hG
  refine Nx.ent (R' := [outQ q ⟨ta, Ax, cx⟩, rrowsR q ta s2.T, rightR q ⟨ta, Ax, cx⟩ s2.T, basisR q ta s2.B, Blk b9 87 (rtC q ⟨ta, Ax, cx⟩), Blk b8 27 [.int .i64 0, .bool false, .int .i64 0, .int .i64 0, .slice none 0 0, .slice none 0 0], F]) (by (exact Ent.auto)) ?_
  refine Nx.ent (Ent.stars (B := [outQ q ⟨ta, Ax, cx⟩, rrowsR q ta s2.T, rightR q ⟨ta, Ax, cx⟩ s2.T, basisR q ta s2.B])) ?_
  refine Nx.freezeAt 0 rfl fun I3 m3 hI3 hm3 hf3 => ?_
  have hRQ : RQ I3 q ⟨ta, Ax, cx⟩ s2 := rq_of hm3 hf3
  replace hcost := hcost.mono hI3
  have hI3' := hI2.trans hI3
  refine Nx.weak (by exact ⟨rfl, rfl, rfl, rfl, rfl, rfl, rfl, trivial⟩) ?_ (bound12 w _ PanicOk.auto [Blk b9 87 (rtC q ⟨ta, Ax, cx⟩), Blk b8 27 [.int .i64 0, .bool false, .int .i64 0, .int .i64 0, .slice none 0 0, .slice none 0 0], F] n (by omega) (cell : Int) up (.slice A l.length c) (.pointer (some ⟨b8, 0, none⟩)) (.pointer (some ⟨b9, 0, none⟩)) (.slice (some ⟨bc, 0, none⟩) q.N q.N) I3 fun b' b13 => ?_)
  · (exact Ent.auto)
  repeat' first
    | ((with_reducible refine Nx.is_wp ?_); first | refine Nx.wo ?_ | refine Nx.zp (fun hc => ?_) (fun hc => ?_))
    | (refine Nx.zo ?_; first | refine Nx.opr rfl rfl ?_ | refine Nx.so ?_ | refine Nx.sb (fun bx => ?_) | refine Nx.sa (fun A2 c2 => ?_))
    | refine Nx.za ?_ | refine Nx.zr (fun hc => ?_) (fun hc => ?_)
    | refine Nx.zq ?_ | refine Nx.zu (fun hc => ?_) (fun hc => ?_)
    | refine Nx.zx ?_ | fail
  refine Nx.p_loop (σ := Nat) (fun k => [(0, .int .i64 (n : Int)), (1, .slice A l.length c), (2, .int .i64 (cell : Int)), (3, .bool up), (8, .pointer (some ⟨b8, 0, none⟩)), (9, .pointer (some ⟨b9, 0, none⟩)), (11, .slice (some ⟨bc, 0, none⟩) q.N q.N), (13, .pointer (some ⟨b13, 0, none⟩)), (63, .int .i64 (n : Int)), (64, .int .i64 (k : Int))])
    (fun k => [Vec 24 2 (some ⟨b', 0, none⟩) n n ((zrow n k).flatMap frC0), Blk b13 27 [.int .i64 (cell : Int), .bool up, .int .i64 0, .int .i64 1, .slice (some ⟨b', 0, none⟩) n n, .slice none 0 0], Blk b9 87 (rtC q ⟨ta, Ax, cx⟩), Blk b8 27 [.int .i64 0, .bool false, .int .i64 0, .int .i64 0, .slice none 0 0, .slice none 0 0], F]) (fun k => k ≤ n) (fun k => n - k) 0 rfl (Nat.zero_le _) ⟨rfl, rfl, rfl, rfl, rfl, rfl, rfl, rfl, rfl, rfl, trivial⟩ (by rw [← zrow_zero]; (exact Ent.auto)) ?_
  intro k hk
  have hk : k ≤ n := hk
  by_cases hkN : k < n
  · have hset := zrow_set hkN
    repeat' first
      | ((with_reducible refine Nx.is_wp ?_); first | refine Nx.wo ?_ | refine Nx.p_drawF (id := 16) rfl [0, 1, 2, 3, 4] [3] [5] _ rfl rfl (by kernel_rfl) (by kernel_rfl) rfl PanicOk.auto (Ent.refl _) ?_ | refine Nx.p_drawF (id := 22) rfl [0, 1, 2, 3, 4, 5, 6, 7, 8] [] [9] _ rfl rfl (by kernel_rfl) (by kernel_rfl) rfl PanicOk.auto (Ent.refl _) ?_ | refine Nx.p_drawF (id := 33) rfl [0, 1, 2, 3, 4, 5, 6, 7, 8, 9, 10, 11, 12, 13, 14, 15, 16, 17, 18, 19] [19] [20, 21] _ rfl rfl (by kernel_rfl) (by kernel_rfl) rfl PanicOk.auto (Ent.refl _) ?_ | refine Nx.zp (fun hc => ?_) (fun hc => ?_))
      | (refine Nx.zo ?_; first | refine Nx.opr rfl rfl ?_ | refine Nx.callv rfl rfl rfl (by kernel_rfl) rfl (rwhole_spec _ _) ?_ | refine Nx.indexAddr_nat (A := some ⟨b', 0, none⟩) (i := k) (sz := 2) rfl rfl rfl rfl rfl hkN rfl ?_ | refine Nx.store_el2 (f := frC0) (a := fun q => .int .i64 q.1) (b := fun q => .int .i64 q.2) (A := some ⟨b', 0, none⟩) (l := zrow n k) (i := k) (z := ((0 : Int), (1 : Int))) 0 rfl rfl rfl (fun _ => rfl) rfl rfl rfl rfl (by rw [zrow_len]; exact hkN) hkN ?_ | refine Nx.so ?_ | refine Nx.sb (fun bx => ?_) | refine Nx.sa (fun A2 c2 => ?_))
      | refine Nx.za ?_ | refine Nx.zr (fun hc => ?_) (fun hc => ?_)
      | ((with_reducible refine Nx.is_mix ?_); first | refine Nx.m_quiet rfl rfl rfl rfl rfl (by first | exact QRun.opr rfl | exact QRun.idx (A := some ⟨b', 0, none⟩) (i := k) (sz := 2) rfl rfl rfl rfl hkN rfl) ?_ | refine Nx.m_quiet_do rfl rfl rfl rfl rfl rfl rfl (by first | exact QRun.opr rfl | exact QRun.idx (A := some ⟨b', 0, none⟩) (i := k) (sz := 2) rfl rfl rfl rfl hkN rfl) ?_ | refine Nx.m ?_ | refine Nx.zm ?_ | refine Nx.zt (fun hc => ?_) (fun hc => ?_))
      | refine Nx.zx ?_ | fail
    exact Nx.again (k + 1) hkN (by omega) ⟨rfl, rfl, rfl, rfl, rfl, rfl, rfl, rfl, rfl, rfl, trivial⟩ (by rw [← hset]; (exact Ent.auto))
  obtain rfl : n = k := by omega
  rw [zrow_end]
  repeat' first
    | ((with_reducible refine Nx.is_wp ?_); first | refine Nx.wo ?_ | refine Nx.zp (fun hc => ?_) (fun hc => ?_))
    | (refine Nx.zo ?_; first | refine Nx.opr rfl rfl ?_ | refine Nx.so ?_ | refine Nx.sb (fun bx => ?_) | refine Nx.sa (fun A2 c2 => ?_))
    | refine Nx.za ?_ | refine Nx.zr (fun hc => ?_) (fun hc => ?_)
    | refine Nx.zq ?_ | refine Nx.zu (fun hc => ?_) (fun hc => ?_)
    | refine Nx.zx ?_ | fail
  refine Nx.p_loop (σ := Nat) (fun i => [(0, .int .i64 (n : Int)), (1, .slice A l.length c), (2, .int .i64 (cell : Int)), (3, .bool up), (8, .pointer (some ⟨b8, 0, none⟩)), (9, .pointer (some ⟨b9, 0, none⟩)), (11, .slice (some ⟨bc, 0, none⟩) q.N q.N), (13, .pointer (some ⟨b13, 0, none⟩)), (74, .slice ta.Ab q.m ta.cb), (75, .int .i64 (q.m : Int)), (76, .int .i64 (i : Int))])
    (fun i => [ratsR (some ⟨b', 0, none⟩) n n (rl n (pf q s2 i)), Blk b13 27 [.int .i64 (cell : Int), .bool up, .int .i64 0, .int .i64 1, .slice (some ⟨b', 0, none⟩) n n, .slice none 0 0], Blk b9 87 (rtC q ⟨ta, Ax, cx⟩), Blk b8 27 [.int .i64 0, .bool false, .int .i64 0, .int .i64 0, .slice none 0 0, .slice none 0 0], F]) (fun i => i ≤ q.m) (fun i => q.m - i) 0 rfl (Nat.zero_le _) ⟨rfl, rfl, rfl, rfl, rfl, rfl, rfl, rfl, rfl, rfl, rfl, trivial⟩ (by show Ent _ [ratsR (some ⟨b', 0, none⟩) n n (rl n fun _ => 0), _, _, _, _]; (exact Ent.auto)) ?_
  intro i hi
  have hi : i ≤ q.m := hi
  by_cases him : i < q.m
  · have r1 := fun (W : World) (Q : List Res) => hRQ.bas (W := W) (R := Q) him
    have r4 := fun (W : World) (Q : List Res) => hRQ.rgt (W := W) (R := Q) him
    have hAx' := hAx (by omega)
    have hAb' := hAb (by omega)
    dsimp only at r1 r4
    have hpf : pf q s2 (i + 1) = if s2.B i < q.cnt then updF (pf q s2 i) (s2.B i) (s2.T i q.N) else pf q s2 i := rfl
    obtain ⟨xn, hxn⟩ : ∃ xn, xn = s2.T i q.N := ⟨_, rfl⟩
    rw [← hxn] at r4 hpf
    generalize s2.B i = k at r1 hpf
    by_cases hk : k < n
    · rw [if_pos (by omega)] at hpf
      have hset := rl_set (n := n) (k := k) (f := pf q s2 i) (v := xn)
      rw [← hpf] at hset
      repeat' first
        | ((with_reducible refine Nx.is_wp ?_); first | refine Nx.wo ?_ | refine Nx.p_drawF (id := 16) rfl [0, 1, 2, 3, 4] [3] [5] _ rfl rfl (by kernel_rfl) (by kernel_rfl) rfl PanicOk.auto (Ent.refl _) ?_ | refine Nx.p_drawF (id := 22) rfl [0, 1, 2, 3, 4, 5, 6, 7, 8] [] [9] _ rfl rfl (by kernel_rfl) (by kernel_rfl) rfl PanicOk.auto (Ent.refl _) ?_ | refine Nx.p_drawF (id := 33) rfl [0, 1, 2, 3, 4, 5, 6, 7, 8, 9, 10, 11, 12, 13, 14, 15, 16, 17, 18, 19] [19] [20, 21] _ rfl rfl (by kernel_rfl) (by kernel_rfl) rfl PanicOk.auto (Ent.refl _) ?_ | refine Nx.zp (fun hc => ?_) (fun hc => ?_))
        | (refine Nx.zo ?_; first | refine Nx.opr rfl rfl ?_ | refine Nx.indexAddr_nat (A := ta.Ab) (i := i) (sz := 1) rfl rfl rfl rfl rfl him hAb' ?_ | refine Nx.load rfl rfl rfl (r1 _ _) ?_ | refine Nx.indexAddr_nat (A := some ⟨b', 0, none⟩) (i := k) (sz := 2) rfl rfl rfl rfl rfl hk rfl ?_ | refine Nx.store_el2 (f := ratC) (a := fun q => .int .i64 q.num) (b := fun q => .int .i64 q.den) (A := some ⟨b', 0, none⟩) (l := rl n (pf q s2 i)) (i := k) (z := xn) 0 rfl rfl rfl (fun _ => rfl) rfl rfl rfl rfl (by rw [rl_len]; exact hk) hk ?_ | refine Nx.so ?_ | refine Nx.sb (fun bx => ?_) | refine Nx.sa (fun A2 c2 => ?_))
        | refine Nx.za ?_ | refine Nx.zr (fun hc => ?_) (fun hc => ?_)
        | ((with_reducible refine Nx.is_mix ?_); first | refine Nx.m_quiet rfl rfl rfl rfl rfl (by first | exact QRun.opr rfl | exact QRun.idx (A := Ax) (i := i) (sz := 2) rfl rfl rfl rfl him hAx' | exact QRun.loads rfl rfl rfl (r4 _ _) rfl | exact QRun.idx (A := some ⟨b', 0, none⟩) (i := k) (sz := 2) rfl rfl rfl rfl hk rfl) ?_ | refine Nx.m_quiet_do rfl rfl rfl rfl rfl rfl rfl (by first | exact QRun.opr rfl | exact QRun.idx (A := Ax) (i := i) (sz := 2) rfl rfl rfl rfl him hAx' | exact QRun.loads rfl rfl rfl (r4 _ _) rfl | exact QRun.idx (A := some ⟨b', 0, none⟩) (i := k) (sz := 2) rfl rfl rfl rfl hk rfl) ?_ | refine Nx.m ?_ | refine Nx.zm ?_ | refine Nx.zt (fun hc => ?_) (fun hc => ?_))
        | refine Nx.zx ?_ | fail
      exact Nx.again (i + 1) him (by omega) ⟨rfl, rfl, rfl, rfl, rfl, rfl, rfl, rfl, rfl, rfl, rfl, trivial⟩ (by rw [← hset]; (exact Ent.auto))
    · rw [if_neg (by omega)] at hpf
      repeat' first
        | ((with_reducible refine Nx.is_wp ?_); first | refine Nx.wo ?_ | refine Nx.zp (fun hc => ?_) (fun hc => ?_))
        | (refine Nx.zo ?_; first | refine Nx.opr rfl rfl ?_ | refine Nx.indexAddr_nat (A := ta.Ab) (i := i) (sz := 1) rfl rfl rfl rfl rfl him hAb' ?_ | refine Nx.load rfl rfl rfl (r1 _ _) ?_ | refine Nx.so ?_ | refine Nx.sb (fun bx => ?_) | refine Nx.sa (fun A2 c2 => ?_))
        | refine Nx.za ?_ | refine Nx.zr (fun hc => ?_) (fun hc => ?_)
        | refine Nx.zq ?_ | refine Nx.zu (fun hc => ?_) (fun hc => ?_)
        | refine Nx.zx ?_ | fail
      exact Nx.again (i + 1) him (by omega) ⟨rfl, rfl, rfl, rfl, rfl, rfl, rfl, rfl, rfl, rfl, rfl, trivial⟩ (by rw [hpf]; (exact Ent.auto))
  obtain rfl : i = q.m := by omega
  have hpt := pf_pt hs2.inv.inv.ok
  rw [hqn] at hpt
  rw [hpt]
  obtain ⟨xc, hxc⟩ : ∃ xc, xc = Bl.pt q.m q.N s2 cell := ⟨_, rfl⟩
  have hrx : ∀ (W : World) (R : List Res) (k : Nat), nthL R k = some (ratsR (some ⟨b', 0, none⟩) n n (rl n (Bl.pt q.m q.N s2))) → Rds W I3 R ((ad (some ⟨b', 0, none⟩)).add (cell * 2)) (ratC xc) := fun W R k hk => by
    have := Rds.vecN (W := W) (I := I3) (f := ratC) k ratC_len hk (by rw [rl_len]; exact hcell)
    rwa [rl_at _ hcell, ← hxc] at this
  repeat' first
    | ((with_reducible refine Nx.is_wp ?_); first | refine Nx.wo ?_ | refine Nx.zp (fun hc => ?_) (fun hc => ?_))
    | (refine Nx.zo ?_; first | refine Nx.opr rfl rfl ?_ | refine Nx.indexAddr_nat (A := some ⟨b', 0, none⟩) (i := cell) (sz := 2) rfl rfl rfl rfl rfl hcell rfl ?_ | refine Nx.loads rfl rfl rfl rfl (hrx _ _ 0 rfl) rfl ?_ | refine Nx.so ?_ | refine Nx.sb (fun bx => ?_) | refine Nx.sa (fun A2 c2 => ?_))
    | refine Nx.za ?_ | refine Nx.zr (fun hc => ?_) (fun hc => ?_)
    | refine Nx.zq ?_ | refine Nx.zu (fun hc => ?_) (fun hc => ?_)
    | refine Nx.zx ?_ | fail
  refine Nx.p_loop (σ := Nat × (Option Addr × Nat)) (fun z => [(0, .int .i64 (n : Int)), (3, .bool up), (8, .pointer (some ⟨b8, 0, none⟩)), (9, .pointer (some ⟨b9, 0, none⟩)), (11, .slice (some ⟨bc, 0, none⟩) q.N q.N), (13, .pointer (some ⟨b13, 0, none⟩)), (101, .int .i64 (l.length : Int)), (102, .int .i64 (z.1 : Int))])
    (fun z => [Blk b13 27 [.int .i64 (cell : Int), .bool up, .int .i64 xc.num, .int .i64 xc.den, .slice (some ⟨b', 0, none⟩) n n, .slice z.2.1 z.1 z.2.2], ratsR z.2.1 z.1 z.2.2 (rl z.1 (Bl.wt q cell up s2)), ratsR (some ⟨b', 0, none⟩) n n (rl n (Bl.pt q.m q.N s2)), Blk b9 87 (rtC q ⟨ta, Ax, cx⟩), Blk b8 27 [.int .i64 0, .bool false, .int .i64 0, .int .i64 0, .slice none 0 0, .slice none 0 0], F]) (fun z => z.1 ≤ l.length) (fun z => l.length - z.1) (0, (none, 0)) rfl (Nat.zero_le _) ⟨rfl, rfl, rfl, rfl, rfl, rfl, rfl, rfl, trivial⟩ ((Ent.vec_nil 24 2 _).trans (by (exact Ent.auto))) ?_
  rintro ⟨j, Aw, cw⟩ hj
  have hj : j ≤ l.length := hj
  dsimp only
  by_cases hjl : j < l.length
  case neg =>
    obtain rfl : j = l.length := by omega
    repeat' first
      | ((with_reducible refine Nx.is_wp ?_); first | refine Nx.wo ?_ | refine Nx.zp (fun hc => ?_) (fun hc => ?_))
      | (refine Nx.zo ?_; first | refine Nx.opr rfl rfl ?_ | refine Nx.so ?_ | refine Nx.sb (fun bx => ?_) | refine Nx.sa (fun A2 c2 => ?_))
      | refine Nx.za ?_ | refine Nx.zr (fun hc => ?_) (fun hc => ?_)
      | refine Nx.zq ?_ | refine Nx.zu (fun hc => ?_) (fun hc => ?_)
      | refine Nx.zx ?_ | fail
    exact Nx.imm_le hI3' (Nx.ret_cell 0 rfl rfl rfl rfl rfl rfl [_, _] ⟨_, _, D, b', Aw, cw, hok, hsz, hopt, by rw [← hxc], rfl⟩ (by (exact Ent.auto)))
  have hjN : q.cnt + j < q.N := by show q.cnt + j < q.cnt + q.m; omega
  have hrw : ∀ i, i ≤ q.m → RB (wsm q cell up s2 j i) := fun i hi => by
    obtain ⟨P, e1, e2⟩ := hD.sum (k := q.cnt + j) hjN (fun i => Bl.cost2 cell up (s2.B i)) (fun i => Bl.cost2_bd _ _ _) i hi
    exact Bl.rb_of hD.ne e1 (by omega) hD.d60
  repeat' first
    | ((with_reducible refine Nx.is_wp ?_); first | refine Nx.wo ?_ | refine Nx.zp (fun hc => ?_) (fun hc => ?_))
    | (refine Nx.zo ?_; first | refine Nx.opr rfl rfl ?_ | refine Nx.callv rfl rfl rfl (by kernel_rfl) rfl (rwhole_spec _ _) ?_ | refine Nx.so ?_ | refine Nx.sb (fun bx => ?_) | refine Nx.sa (fun A2 c2 => ?_))
    | refine Nx.za ?_ | refine Nx.zr (fun hc => ?_) (fun hc => ?_)
    | refine Nx.zq ?_ | refine Nx.zu (fun hc => ?_) (fun hc => ?_)
    | refine Nx.zx ?_ | fail
  revert bx; intro b18
  refine Nx.p_loop (σ := Nat) (fun i => [(0, .int .i64 (n : Int)), (3, .bool up), (8, .pointer (some ⟨b8, 0, none⟩)), (9, .pointer (some ⟨b9, 0, none⟩)), (11, .slice (some ⟨bc, 0, none⟩) q.N q.N), (13, .pointer (some ⟨b13, 0, none⟩)), (17, .int .i64 (j : Int)), (18, .pointer (some ⟨b18, 0, none⟩)), (101, .int .i64 (l.length : Int)), (102, .int .i64 (j : Int)), (108, .int .i64 (q.m : Int)), (109, .int .i64 (i : Int))])
    (fun i => [Blk b18 24 (ratC (wsm q cell up s2 j i)), Blk b13 27 [.int .i64 (cell : Int), .bool up, .int .i64 xc.num, .int .i64 xc.den, .slice (some ⟨b', 0, none⟩) n n, .slice Aw j cw], ratsR Aw j cw (rl j (Bl.wt q cell up s2)), ratsR (some ⟨b', 0, none⟩) n n (rl n (Bl.pt q.m q.N s2)), Blk b9 87 (rtC q ⟨ta, Ax, cx⟩), Blk b8 27 [.int .i64 0, .bool false, .int .i64 0, .int .i64 0, .slice none 0 0, .slice none 0 0], F]) (fun i => i ≤ q.m) (fun i => q.m - i) 0 rfl (Nat.zero_le _) ⟨rfl, rfl, rfl, rfl, rfl, rfl, rfl, rfl, rfl, rfl, rfl, rfl, trivial⟩ (by show Ent _ [Blk b18 24 (ratC 0), _, _, _, _, _, _]; (exact Ent.auto)) ?_
  intro i hi
  have hi : i ≤ q.m := hi
  by_cases him : i < q.m
  case neg =>
    obtain rfl : i = q.m := by omega
    have hwt := wsm_wt q cell up s2 j
    have hrs : (rl (j + 1) (Bl.wt q cell up s2)).flatMap ratC = (rl j (Bl.wt q cell up s2)).flatMap ratC ++ ratC (Bl.wt q cell up s2 j) := by rw [rl_succ, List.flatMap_append, List.flatMap_cons, List.flatMap_nil, List.append_nil]
    have hR := hrw q.m (Nat.le_refl _)
    rw [hwt] at hrs
    generalize wsm q cell up s2 j q.m = y at hR hrs
    have hI64 : I64 (-y.num) := (rat_i64 (RB_neg hR)).1
    cases up with
    | true =>
      have hrs' : (rl (j + 1) (Bl.wt q cell true s2)).flatMap ratC = (rl j (Bl.wt q cell true s2)).flatMap ratC ++ [Value.int .i64 y.num, Value.int .i64 y.den] := hrs
      repeat' first
        | ((with_reducible refine Nx.is_wp ?_); first | refine Nx.wo ?_ | refine Nx.zp (fun hc => ?_) (fun hc => ?_))
        | (refine Nx.zo ?_; first | refine Nx.opr rfl rfl ?_ | refine Nx.so ?_ | refine Nx.sb (fun bx => ?_) | refine Nx.sa (fun A2 c2 => ?_))
        | refine Nx.za ?_ | refine Nx.zr (fun hc => ?_) (fun hc => ?_)
        | refine Nx.zq ?_ | refine Nx.zu (fun hc => ?_) (fun hc => ?_)
        | refine Nx.zx ?_ | fail
      exact Nx.again (j + 1, (A2, c2)) hjl (by dsimp only; omega) ⟨rfl, rfl, rfl, rfl, rfl, rfl, rfl, rfl, trivial⟩ (by dsimp only; rw [← hrs']; (exact Ent.auto))
    | false =>
      have hrs' : (rl (j + 1) (Bl.wt q cell false s2)).flatMap ratC = (rl j (Bl.wt q cell false s2)).flatMap ratC ++ [Value.int .i64 (-y.num), Value.int .i64 y.den] := hrs
      repeat' first
        | ((with_reducible refine Nx.is_wp ?_); first | refine Nx.wo ?_ | refine Nx.zp (fun hc => ?_) (fun hc => ?_))
        | (refine Nx.zo ?_; first | refine Nx.opr rfl rfl ?_ | refine Nx.neg rfl hI64 rfl ?_ | refine Nx.so ?_ | refine Nx.sb (fun bx => ?_) | refine Nx.sa (fun A2 c2 => ?_))
        | refine Nx.za ?_ | refine Nx.zr (fun hc => ?_) (fun hc => ?_)
        | refine Nx.zq ?_ | refine Nx.zu (fun hc => ?_) (fun hc => ?_)
        | refine Nx.zx ?_ | fail
      exact Nx.again (j + 1, (A2, c2)) hjl (by dsimp only; omega) ⟨rfl, rfl, rfl, rfl, rfl, rfl, rfl, rfl, trivial⟩ (by dsimp only; rw [← hrs']; (exact Ent.auto))
  have hB := hs2.inv.inv.ok.bas i him
  have r1 := fun (W : World) (Q : List Res) => hRQ.bas (W := W) (R := Q) him
  have r3 := fun (W : World) (Q : List Res) => hRQ.row (W := W) (R := Q) him
  have r4 := fun (W : World) (Q : List Res) => hRQ.num (W := W) (R := Q) him hjN
  have r2 := fun (W : World) (Q : List Res) => cost_rd (I := I3) (W := W) (R := Q) hcost hB
  have hAr' := hAr (by omega)
  have hAb' := hAb (by omega)
  have hri := hra i (by omega)
  have hskip := wsm_skip (up := up) (s := s2) (j := j) (i := i) hcq
  have hsucc := wsm_succ q cell up s2 j i
  have hR1 : RB (Bl.cst (Bl.cost2 cell up) (s2.B i) * s2.T i (q.cnt + j)) := hD.rb1 him (Nat.le_of_lt hjN) _ (Bl.cost2_bd _ _ _)
  have hM1 := rmul_spec (Bl.cst (Bl.cost2 cell up) (s2.B i)) (s2.T i (q.cnt + j)) (RB_int (by have := Bl.cost2_bd cell up (s2.B i); omega)) (hD.rb him (Nat.le_of_lt hjN)) hR1 I3
  obtain ⟨pr, hpr⟩ : ∃ pr, pr = Bl.cst (Bl.cost2 cell up) (s2.B i) * s2.T i (q.cnt + j) := ⟨_, rfl⟩
  rw [← hpr] at hM1 hR1 hsucc
  have hM2 := radd_spec (wsm q cell up s2 j i) pr (hrw i hi) hR1 (by rw [← hsucc]; exact hrw (i + 1) him) I3
  rw [← hsucc] at hM2
  have hnj : (n : Int) + (j : Int) = ((q.cnt + j : Nat) : Int) := by omega
  obtain ⟨g1, hg1⟩ : ∃ g1, g1 = wsm q cell up s2 j (i + 1) := ⟨_, rfl⟩
  rw [← hg1] at hM2 hskip
  clear hsucc
  generalize wsm q cell up s2 j i = g0 at hM2 hskip ⊢
  generalize Bl.cst (Bl.cost2 cell up) (s2.B i) = ci at r2 hM1 hpr
  generalize s2.B i = Bi at hB r1 r2 hskip
  generalize s2.T i (q.cnt + j) = tij at r4 hM1 hpr
  clear hpr
  dsimp only at r1 r3 r4
  by_cases hBn : Bi < n
  · repeat' first
      | ((with_reducible refine Nx.is_wp ?_); first | refine Nx.wo ?_ | refine Nx.p_drawF (id := 16) rfl [0, 1, 2, 3, 4] [3] [5] _ rfl rfl (by kernel_rfl) (by kernel_rfl) rfl PanicOk.auto (Ent.refl _) ?_ | refine Nx.p_drawF (id := 22) rfl [0, 1, 2, 3, 4, 5, 6, 7, 8] [] [9] _ rfl rfl (by kernel_rfl) (by kernel_rfl) rfl PanicOk.auto (Ent.refl _) ?_ | refine Nx.p_drawF (id := 33) rfl [0, 1, 2, 3, 4, 5, 6, 7, 8, 9, 10, 11, 12, 13, 14, 15, 16, 17, 18, 19] [19] [20, 21] _ rfl rfl (by kernel_rfl) (by kernel_rfl) rfl PanicOk.auto (Ent.refl _) ?_ | refine Nx.zp (fun hc => ?_) (fun hc => ?_))
      | (refine Nx.zo ?_; first | refine Nx.opr rfl rfl ?_ | refine Nx.indexAddr_nat (A := ta.Ab) (i := i) (sz := 1) rfl rfl rfl rfl rfl him hAb' ?_ | refine Nx.load rfl rfl rfl (r1 _ _) ?_ | refine Nx.callv rfl rfl rfl (by kernel_rfl) rfl hM1 ?_ | refine Nx.callv rfl rfl rfl (by kernel_rfl) rfl hM2 ?_ | refine Nx.so ?_ | refine Nx.sb (fun bx => ?_) | refine Nx.sa (fun A2 c2 => ?_))
      | refine Nx.za ?_ | refine Nx.zr (fun hc => ?_) (fun hc => ?_)
      | ((with_reducible refine Nx.is_mix ?_); first | refine Nx.m_quiet rfl rfl rfl rfl rfl (by first | exact QRun.opr rfl | exact QRun.idx (A := ta.Ab) (i := i) (sz := 1) rfl rfl rfl rfl him hAb' | exact QRun.load rfl rfl (r1 _ _) | exact QRun.idx (A := some ⟨bc, 0, none⟩) (i := Bi) (sz := 2) rfl rfl rfl rfl hB rfl | exact QRun.loads rfl rfl rfl (r2 _ _) rfl | exact QRun.idx (A := ta.Ar) (i := i) (sz := 1) rfl rfl rfl rfl him hAr' | exact QRun.load rfl rfl (r3 _ _) | exact QRun.bin rfl rfl (run_addK (by unfold I64; omega) hnj) | exact QRun.idx (A := (ta.ra i).1) (i := q.cnt + j) (sz := 2) rfl rfl rfl rfl hjN hri | exact QRun.loads rfl rfl rfl (r4 _ _) rfl | exact QRun.loads rfl rfl rfl (Rds.cut 0 2 rfl rfl) rfl) ?_ | refine Nx.m_quiet_do rfl rfl rfl rfl rfl rfl rfl (by first | exact QRun.opr rfl | exact QRun.idx (A := ta.Ab) (i := i) (sz := 1) rfl rfl rfl rfl him hAb' | exact QRun.load rfl rfl (r1 _ _) | exact QRun.idx (A := some ⟨bc, 0, none⟩) (i := Bi) (sz := 2) rfl rfl rfl rfl hB rfl | exact QRun.loads rfl rfl rfl (r2 _ _) rfl | exact QRun.idx (A := ta.Ar) (i := i) (sz := 1) rfl rfl rfl rfl him hAr' | exact QRun.load rfl rfl (r3 _ _) | exact QRun.bin rfl rfl (run_addK (by unfold I64; omega) hnj) | exact QRun.idx (A := (ta.ra i).1) (i := q.cnt + j) (sz := 2) rfl rfl rfl rfl hjN hri | exact QRun.loads rfl rfl rfl (r4 _ _) rfl | exact QRun.loads rfl rfl rfl (Rds.cut 0 2 rfl rfl) rfl) ?_ | refine Nx.m ?_ | refine Nx.zm ?_ | refine Nx.zt (fun hc => ?_) (fun hc => ?_))
      | refine Nx.zx ?_ | fail
    exact Nx.again (i + 1) him (by omega) ⟨rfl, rfl, rfl, rfl, rfl, rfl, rfl, rfl, rfl, rfl, rfl, rfl, trivial⟩ (by rw [← hg1]; (exact Ent.auto))
  · have hsk := hskip (by omega)
    repeat' first
      | ((with_reducible refine Nx.is_wp ?_); first | refine Nx.wo ?_ | refine Nx.zp (fun hc => ?_) (fun hc => ?_))
      | (refine Nx.zo ?_; first | refine Nx.opr rfl rfl ?_ | refine Nx.indexAddr_nat (A := ta.Ab) (i := i) (sz := 1) rfl rfl rfl rfl rfl him hAb' ?_ | refine Nx.load rfl rfl rfl (r1 _ _) ?_ | refine Nx.so ?_ | refine Nx.sb (fun bx => ?_) | refine Nx.sa (fun A2 c2 => ?_))
      | refine Nx.za ?_ | refine Nx.zr (fun hc => ?_) (fun hc => ?_)
      | refine Nx.zq ?_ | refine Nx.zu (fun hc => ?_) (fun hc => ?_)
      | refine Nx.zx ?_ | fail
    exact Nx.again (i + 1) him (by omega) ⟨rfl, rfl, rfl, rfl, rfl, rfl, rfl, rfl, rfl, rfl, rfl, rfl, trivial⟩ (by rw [← hg1, hsk]; (exact Ent.auto))
set_option maxRecDepth 10000 in
theorem bound_spec (n : Nat) (A : Option Addr) (c : Nat) (l : List EqR) (cell : Nat) (up : Bool) (I : PH) (hl : Eqs I A c l) (hb : BEq n l) (hcell : cell < n) (hfe : ∃ x, Bl.Feas (toQ n l) x) (hnu : ¬(up = true ∧ Unb (toQ n l) cell)) :
    FnSpec Tryz.prog 41 [.int .i64 (n : Int), .slice A l.length c, .int .i64 (cell : Int), .bool up] I []
      (fun v R' => ∃ (x w : Nat → Rat) (D : Int) (b' : Nat) (A' : Option Addr) (c' : Nat), Bl.PrOk (toQ n l) cell up x w ∧ Bl.PrSz (toQ n l) x w D ∧ Bl.IsOpt (toQ n l) cell up (x cell) ∧
        v = proofV cell up (x cell) (.slice (some ⟨b', 0, none⟩) n n) (.slice A' l.length c') ∧ R' = [ratsR (some ⟨b', 0, none⟩) n n (rl n x), ratsR A' l.length c' (rl l.length w)]) := by
  have hn := hb.cnt
  have hlen := hb.len
  have hR := ready_spec n A c l I hl hb
  have hq := hb.small
  have hqm : (toQ n l).m = l.length := rfl
  have hqn : (toQ n l).cnt = n := rfl
  have hNN : (n : Int) + (l.length : Int) = ((toQ n l).N : Int) := by show _ = ((n + l.length : Nat) : Int); omega
  have hNb : (toQ n l).N ≤ 20 := by show n + l.length ≤ 20; omega
  unfold Unb at hnu
  generalize toQ n l = q at hR hq hqm hqn hNN hNb hnu hfe ⊢
  obtain ⟨N, hN⟩ : ∃ N, N = q.N := ⟨_, rfl⟩
  have hcN : cell < N := by rw [hN]; show cell < q.cnt + q.m; omega
  refine FnSpec.enterP Tryz.func41 rfl Tryz.ntmps41 rfl fun w F => ?_
  rw [← hN] at hNN hNb
  repeat' first
    | ((with_reducible refine Nx.is_wp ?_); first | refine Nx.wo ?_ | refine Nx.zp (fun hc => ?_) (fun hc => ?_))
    | (refine Nx.zo ?_; first | refine Nx.opr rfl rfl ?_ | (refine Nx.call rfl rfl rfl (by kernel_rfl) rfl hR (by (exact Ent.auto)) ?_; rintro _ _ ⟨⟨ta, Ax, cx⟩, s, bo, rfl, hbo, hrdy, hra, hAx, hAb, hAr, rfl⟩) | refine Nx.bin rfl rfl (run_addK (by unfold I64; omega) hNN) rfl ?_ | refine Nx.makeStructs (sz := 2) (by_ := 16) (m := N) frC0 (0, 0) rfl rfl rfl rfl rfl rfl rfl rfl rfl rfl (by omega) (by unfold maxLen; omega) (fun bx => ?_) | refine Nx.so ?_ | refine Nx.sb (fun bx => ?_) | refine Nx.sa (fun A2 c2 => ?_))
    | refine Nx.za ?_ | refine Nx.zr (fun hc => ?_) (fun hc => ?_)
    | refine Nx.zq ?_ | refine Nx.zu (fun hc => ?_) (fun hc => ?_)
    | refine Nx.zx ?_ | fail
  replace hrdy := hrdy (hbo.2 hfe)
  rename_i b8 b9
  revert bx; intro bc
  dsimp only at hra hAx hAb hAr
  refine Nx.p_loop (σ := Nat) (fun k => [(0, .int .i64 (n : Int)), (1, .slice A l.length c), (2, .int .i64 (cell : Int)), (3, .bool up), (8, .pointer (some ⟨b8, 0, none⟩)), (9, .pointer (some ⟨b9, 0, none⟩)), (11, .slice (some ⟨bc, 0, none⟩) N N), (32, .int .i64 (N : Int)), (33, .int .i64 (k : Int))])
    (fun k => [Vec 24 2 (some ⟨bc, 0, none⟩) N N ((zrow N k).flatMap frC0), Blk b9 87 (rtC q ⟨ta, Ax, cx⟩), outQ q ⟨ta, Ax, cx⟩, rrowsR q ta s.T, rightR q ⟨ta, Ax, cx⟩ s.T, basisR q ta s.B, Blk b8 27 [.int .i64 0, .bool false, .int .i64 0, .int .i64 0, .slice none 0 0, .slice none 0 0], F]) (fun k => k ≤ N) (fun k => N - k) 0 rfl (Nat.zero_le _) ⟨rfl, rfl, rfl, rfl, rfl, rfl, rfl, rfl, rfl, trivial⟩ (by rw [← zrow_zero]; (exact Ent.auto)) ?_
  intro k hk
  have hk : k ≤ N := hk
  by_cases hkN : k < N
  · have hset := zrow_set hkN
    repeat' first
      | ((with_reducible refine Nx.is_wp ?_); first | refine Nx.wo ?_ | refine Nx.zp (fun hc => ?_) (fun hc => ?_))
      | (refine Nx.zo ?_; first | refine Nx.opr rfl rfl ?_ | refine Nx.callv rfl rfl rfl (by kernel_rfl) rfl (rwhole_spec _ _) ?_ | refine Nx.indexAddr_nat (A := some ⟨bc, 0, none⟩) (i := k) (sz := 2) rfl rfl rfl rfl rfl hkN rfl ?_ | refine Nx.store_el2 (f := frC0) (a := fun q => .int .i64 q.1) (b := fun q => .int .i64 q.2) (A := some ⟨bc, 0, none⟩) (l := zrow N k) (i := k) (z := ((0 : Int), (1 : Int))) 0 rfl rfl rfl (fun _ => rfl) rfl rfl rfl rfl (by rw [zrow_len]; exact hkN) hkN ?_ | refine Nx.so ?_ | refine Nx.sb (fun bx => ?_) | refine Nx.sa (fun A2 c2 => ?_))
      | refine Nx.za ?_ | refine Nx.zr (fun hc => ?_) (fun hc => ?_)
      | refine Nx.zq ?_ | refine Nx.zu (fun hc => ?_) (fun hc => ?_)
      | refine Nx.zx ?_ | fail
    exact Nx.again (k + 1) hkN (by omega) ⟨rfl, rfl, rfl, rfl, rfl, rfl, rfl, rfl, rfl, trivial⟩ (by rw [← hset]; (exact Ent.auto))
  obtain rfl : N = k := by omega
  rw [zrow_end]
  have hset1 := rl_set (n := N) (k := cell) (f := fun _ => (0 : Rat)) (v := (1 : Rat))
  have hset2 := rl_set (n := N) (k := cell) (f := updF (fun _ => (0 : Rat)) cell 1) (v := (-1 : Rat))
  have hu := cs2_up q cell
  have hd := cs2_down q cell
  rw [← hN] at hu hd
  rw [hu] at hset1
  have hset3 : ((rl N (fun _ => (0 : Rat))).set cell 1).set cell (-1) = rl N (Bl.cst (Bl.cost2 cell false)) := by rw [rl_set, hset2, hd]
  have hrest := bound_rest w F n A c l cell up I q hq hqm hqn hn.1 hcell hnu ta Ax cx s hrdy b8 b9 bc hra hAx hAb hAr
  rw [← hN] at hrest
  cases up with
  | true =>
    repeat' first
      | ((with_reducible refine Nx.is_wp ?_); first | refine Nx.p_stopr 11 rfl ?_ | refine Nx.wo ?_ | refine Nx.zp (fun hc => ?_) (fun hc => ?_))
      | (refine Nx.zo ?_; first | refine Nx.opr rfl rfl ?_ | refine Nx.callv rfl rfl rfl (by kernel_rfl) rfl (rwhole_spec _ _) ?_ | refine Nx.indexAddr_nat (A := some ⟨bc, 0, none⟩) (i := cell) (sz := 2) rfl rfl rfl rfl rfl hcN rfl ?_ | refine Nx.store_el2 (f := ratC) (a := fun q => .int .i64 q.num) (b := fun q => .int .i64 q.den) (A := some ⟨bc, 0, none⟩) (l := rl N fun _ => (0 : Rat)) (i := cell) (z := (1 : Rat)) 0 rfl rfl rfl (fun _ => rfl) rfl rfl rfl rfl (by rw [rl_len]; exact hcN) hcN ?_ | refine Nx.so ?_ | refine Nx.sb (fun bx => ?_) | refine Nx.sa (fun A2 c2 => ?_))
      | refine Nx.za ?_ | refine Nx.zr (fun hc => ?_) (fun hc => ?_)
      | refine Nx.zq ?_ | refine Nx.zu (fun hc => ?_) (fun hc => ?_)
      | refine Nx.zx ?_ | fail
    refine Nx.unstop ?_
    refine Nx.weak (by exact ⟨rfl, rfl, rfl, rfl, rfl, rfl, rfl, trivial⟩) ?_ hrest
    rw [← hset1]; (exact Ent.auto)
  | false =>
    repeat' first
      | ((with_reducible refine Nx.is_wp ?_); first | refine Nx.p_stopr 11 rfl ?_ | refine Nx.wo ?_ | refine Nx.zp (fun hc => ?_) (fun hc => ?_))
      | (refine Nx.zo ?_; first | refine Nx.opr rfl rfl ?_ | refine Nx.callv rfl rfl rfl (by kernel_rfl) rfl (rwhole_spec _ _) ?_ | refine Nx.indexAddr_nat (A := some ⟨bc, 0, none⟩) (i := cell) (sz := 2) rfl rfl rfl rfl rfl hcN rfl ?_ | refine Nx.store_el2 (f := ratC) (a := fun q => .int .i64 q.num) (b := fun q => .int .i64 q.den) (A := some ⟨bc, 0, none⟩) (l := rl N fun _ => (0 : Rat)) (i := cell) (z := (1 : Rat)) 0 rfl rfl rfl (fun _ => rfl) rfl rfl rfl rfl (by rw [rl_len]; exact hcN) hcN ?_ | refine Nx.store_el2 (f := ratC) (a := fun q => .int .i64 q.num) (b := fun q => .int .i64 q.den) (A := some ⟨bc, 0, none⟩) (l := (rl N fun _ => (0 : Rat)).set cell 1) (i := cell) (z := (-1 : Rat)) 0 rfl rfl rfl (fun _ => rfl) rfl rfl rfl rfl (by rw [List.length_set, rl_len]; exact hcN) hcN ?_ | refine Nx.so ?_ | refine Nx.sb (fun bx => ?_) | refine Nx.sa (fun A2 c2 => ?_))
      | refine Nx.za ?_ | refine Nx.zr (fun hc => ?_) (fun hc => ?_)
      | refine Nx.zq ?_ | refine Nx.zu (fun hc => ?_) (fun hc => ?_)
      | refine Nx.zx ?_ | fail
    refine Nx.unstop ?_
    refine Nx.weak (by exact ⟨rfl, rfl, rfl, rfl, rfl, rfl, rfl, trivial⟩) ?_ hrest
    rw [← hset3]; (exact Ent.auto)
end Go.Proofs.YtpcnapidlhpbkaaGreatDoor
