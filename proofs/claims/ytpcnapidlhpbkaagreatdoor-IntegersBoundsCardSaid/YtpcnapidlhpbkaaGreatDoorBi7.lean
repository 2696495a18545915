/- Contracts of functions of the given program, and lemmas. -/
import Derived.Test.YtpcnapidlhpbkaaGreatDoorRows
import Derived.Shelf.Bits.Mul64
import Derived.Laws.StructEq
import Derived.Shelf.Strconv.Itoa0
import Derived.Shelf.Spec.TrailingZeros
import Derived.Test.YtpcnapidlhpbkaaGreatDoorBi6
set_option maxHeartbeats 32000000
namespace Go.Proofs.YtpcnapidlhpbkaaGreatDoor
open Go.Eng Go.Sol
attribute [local irreducible] opK wpList Code.wp Exit.then Exit.inBlock fnPost bodyPost Nx Calls Oper.wp Rd Rds Wr Ent Stars Blk Again Vec FnSpec wpMix QRun Stop Upto wpAt
def exE (b1 b2 : Nat) : List EqR := [((some ⟨b1, 0, none⟩, 2, [0, 1]), 3), ((some ⟨b2, 0, none⟩, 2, [1, 2]), 1)]
def eiR (b1 b2 : Nat) : List Row := [(some ⟨b1, 0, none⟩, 3, [2, 1, 0]), (some ⟨b2, 0, none⟩, 3, [3, 0, 1])]
theorem exSo (b1 b2 : Nat) : solsR 3 (exE b1 b2) 9 = ([[2, 1, 0], [3, 0, 1]], 0) := by kernel_rfl
theorem exRe (b1 b2 : Nat) : reachR 3 (exE b1 b2) = ([(2, 3, false), (0, 1, false), (0, 1, false)], 0) := by kernel_rfl
set_option maxRecDepth 10000 in
theorem awakeI_spec (I : PH) : FnSpec Tryz.prog 36 [] I [] (fun v R' => v = .bool true ∧ R' = []) := by
  refine FnSpec.enterP Tryz.func36 rfl Tryz.ntmps36 rfl fun w F => ?_
  repeat' first
    | ((with_reducible refine Nx.is_wp ?_); first | refine Nx.wo ?_ | refine Nx.zp (fun hc => ?_) (fun hc => ?_))
    | (refine Nx.zo ?_; first | refine Nx.opr rfl rfl ?_ | refine Nx.so ?_ | refine Nx.sb (fun bx => ?_) | refine Nx.sa (fun A2 c2 => ?_))
    | refine Nx.za ?_ | refine Nx.zr (fun hc => ?_) (fun hc => ?_)
    | refine Nx.zq ?_ | refine Nx.zu (fun hc => ?_) (fun hc => ?_)
    | refine Nx.zx ?_ | fail
  rename_i b6 b8
  revert bx; intro b10
  refine Nx.freezeAt 0 rfl fun I1 m1 hI1 hm1 h1 => ?_
  refine Nx.freezeAt 0 rfl fun I2 m2 hI2 hm2 h2 => ?_
  refine Nx.freezeAt 0 rfl fun I3 m3 hI3 hm3 h3 => ?_
  have hE : Eqs I3 (some ⟨b10, 0, none⟩) 2 (exE b6 b8) := ⟨Blk.sliceN (t := 46) (l := exE b6 b8) ((hm1.trans hI2).trans hI3) h1 (fun q _ => rfl) (by unfold maxLen exE; simp), fun r hr => by
    simp only [exE, List.mem_cons, List.not_mem_nil, or_false] at hr
    rcases hr with rfl | rfl
    · exact Blk.sliceOf (t := 3) (l := [0, 1]) hm3 h3 (by decide)
    · exact Blk.sliceOf (t := 3) (l := [1, 2]) (hm2.trans hI3) h2 (by decide)⟩
  have h9 : (allC (exE b6 b8)).length ≤ 100000 := by show 4 ≤ 100000; decide
  have hS := Solutions_spec 3 _ _ _ 9 I3 hE h9
  have hR := Reaches_spec 3 _ _ _ I3 hE h9
  rw [exSo] at hS
  rw [exRe] at hR
  repeat' first
    | ((with_reducible refine Nx.is_wp ?_); first | refine Nx.wo ?_ | refine Nx.zp (fun hc => ?_) (fun hc => ?_))
    | (refine Nx.zo ?_; first | refine Nx.opr rfl rfl ?_ | (refine Nx.call (Rpre := []) rfl rfl rfl (by kernel_rfl) rfl hS (Ent.refl _) ?_; rintro _ _ ⟨A1, c1, o, rfl, ho, rfl⟩) | (refine Nx.call (Rpre := []) rfl rfl rfl (by kernel_rfl) rfl hR (Ent.refl _) ?_; rintro _ _ ⟨A2, c2, rfl, rfl⟩) | refine Nx.so ?_ | refine Nx.sb (fun bx => ?_) | refine Nx.sa (fun A2 c2 => ?_))
    | refine Nx.za ?_ | refine Nx.zr (fun hc => ?_) (fun hc => ?_)
    | refine Nx.zq ?_ | refine Nx.zu (fun hc => ?_) (fun hc => ?_)
    | refine Nx.zx ?_ | fail
  rename_i b25 b26
  refine Nx.ent (R' := [Blk bx 31 [.slice (some ⟨b25, 0, none⟩) 3 3, .slice (some ⟨b26, 0, none⟩) 3 3], Blk b26 3 [.int .i64 3, .int .i64 0, .int .i64 1], Blk b25 3 [.int .i64 2, .int .i64 1, .int .i64 0], rcR A2 c2 [(2, 3, false), (0, 1, false), (0, 1, false)], Stars [Vec 31 1 A1 o.length c1 (o.map rowV), Stars (o.map rwR)], F])
    (Ent.trans (R' := [Vec 31 1 A1 o.length c1 (o.map rowV), Stars (o.map rwR)] ++ [Blk bx 31 [.slice (some ⟨b25, 0, none⟩) 3 3, .slice (some ⟨b26, 0, none⟩) 3 3], Blk b26 3 [.int .i64 3, .int .i64 0, .int .i64 1], Blk b25 3 [.int .i64 2, .int .i64 1, .int .i64 0], rcR A2 c2 [(2, 3, false), (0, 1, false), (0, 1, false)], F]) (by (exact Ent.auto)) (Ent.stars.trans (by (exact Ent.auto)))) ?_
  refine Nx.freezeAt 0 rfl fun I4 m4 hI4 hm4 h4 => ?_
  refine Nx.freezeAt 0 rfl fun I5 m5 hI5 hm5 h5 => ?_
  refine Nx.freezeAt 0 rfl fun I6 m6 hI6 hm6 h6 => ?_
  refine Nx.freezeAt 0 rfl fun I7 m7 hI7 hm7 h7 => ?_
  refine Nx.freezeAt 0 rfl fun I8 m8 hI8 hm8 h8 => ?_
  have hro : RowsOf I8 A1 c1 o := rows_of hm8 h8
  have hrx : RowsOf I8 (some ⟨bx, 0, none⟩) 2 (eiR b25 b26) := ⟨Blk.sliceOf (t := 31) (l := eiR b25 b26) (((hm4.trans hI5).trans (hI6.trans hI7)).trans hI8) h4 (by unfold maxLen eiR; simp), fun r hr => by
    simp only [eiR, List.mem_cons, List.not_mem_nil, or_false] at hr
    rcases hr with rfl | rfl
    · exact Blk.sliceOf (t := 3) (l := [2, 1, 0]) ((hm6.trans hI7).trans hI8) h6 (by decide)
    · exact Blk.sliceOf (t := 3) (l := [3, 0, 1]) ((hm5.trans hI6).trans (hI7.trans hI8)) h5 (by decide)⟩
  have hrc : Rchs I8 A2 c2 [(2, 3, false), (0, 1, false), (0, 1, false)] := Vec.sliceN (t := 73) (hm7.trans hI8) h7 fun x _ => rcC_len x
  have hT := SameT_spec A1 (some ⟨bx, 0, none⟩) c1 2 o (eiR b25 b26) I8 hro hrx
  rw [decide_eq_true (show o.map (·.2.2) = (eiR b25 b26).map (·.2.2) from ho)] at hT
  have hA2 := hrc.isSome (by decide) (by decide)
  have hld := fun (W : World) (R : List Res) => hrc.rds (W := W) (R := R) (k := 0) (by decide)
  repeat' first
    | ((with_reducible refine Nx.is_wp ?_); first | refine Nx.wo ?_ | refine Nx.zp (fun hc => ?_) (fun hc => ?_))
    | (refine Nx.zo ?_; first | (refine Nx.binr rfl rfl (eql_rc (2, 3, false) (2, 3, false) _ _) rfl ?_) | refine Nx.opr rfl rfl ?_ | refine Nx.callv rfl rfl rfl (by kernel_rfl) rfl hT ?_ | refine Nx.indexAddr_nat (i := 0) (sz := 3) rfl rfl rfl rfl rfl (by decide) hA2 ?_ | refine Nx.loads rfl rfl rfl rfl (hld _ _) rfl ?_ | refine Nx.so ?_ | refine Nx.sb (fun bx => ?_) | refine Nx.sa (fun A2 c2 => ?_))
    | refine Nx.za ?_ | refine Nx.zr (fun hc => ?_) (fun hc => ?_)
    | refine Nx.zq ?_ | refine Nx.zu (fun hc => ?_) (fun hc => ?_)
    | refine Nx.zx ?_ | fail
  exact Nx.imm_le (((hI1.trans hI2).trans (hI3.trans hI4)).trans ((hI5.trans hI6).trans (hI7.trans hI8))) (Nx.ret_fn rfl [] ⟨rfl, rfl⟩ (by (exact Ent.auto)))
end Go.Proofs.YtpcnapidlhpbkaaGreatDoor
namespace Go.Proofs.YtpcnapidlhpbkaaGreatDoor
open Go.Eng Go.Sol
attribute [local irreducible] opK wpList Code.wp Exit.then Exit.inBlock fnPost bodyPost Nx Calls Oper.wp Rd Rds Wr Ent Stars Blk Again Vec FnSpec wpMix QRun Stop Upto wpAt
theorem asc_room : ∀ {xs : List Int} {a b : Int}, xs.Pairwise (· < ·) → (∀ x ∈ xs, a ≤ x ∧ x < b) → (xs.length : Int) ≤ max 0 (b - a)
  | [], a, b, _, _ => by simp; omega
  | x :: r, a, b, h, hb => by
    rw [List.pairwise_cons] at h
    have hx := hb x List.mem_cons_self
    have ih := asc_room (a := x + 1) (b := b) h.2 fun y hy => by have := h.1 y hy; have := hb y (List.mem_cons_of_mem _ hy); omega
    rw [List.length_cons]
    omega
theorem good_len {n : Nat} {q : EqR} (hg : GoodE n q) : q.1.2.2.length ≤ n := by
  have := asc_room hg.asc hg.lt
  omega
theorem allC_good {n : Nat} : ∀ {l : List EqR}, (∀ q ∈ l, GoodE n q) → (allC l).length ≤ l.length * n
  | [], _ => by simp [allC]
  | q :: l, hg => by
    have ih := allC_good (l := l) fun p hp => hg p (List.mem_cons_of_mem _ hp)
    have h1 := good_len (hg q List.mem_cons_self)
    show (q.1.2.2 ++ allC l).length ≤ _
    rw [List.length_append, List.length_cons, Nat.succ_mul]
    omega
theorem EqsOk.all {N : Nat} {t : List Int} {most : Int} {qs : List EqR} (h : EqsOk N t most qs) : (allC qs).length ≤ 384 := by
  have h1 := allC_good h.good
  have h2 := h.few
  have h3 := h.n
  exact Nat.le_trans h1 (Nat.mul_le_mul h2 h3.2)
theorem valid_of {N : Nat} {qs : List EqR} (hN : 1 ≤ N ∧ N ≤ 48) (hl : qs.length ≤ 1152) (hg : ∀ q ∈ qs, GoodE N q) : validB (N : Int) qs = true := by
  unfold validB
  rw [decide_eq_true (show 1 ≤ (N : Int) ∧ (N : Int) ≤ 48 by omega), decide_eq_true hl, Bool.true_and, Bool.true_and, List.all_eq_true]
  exact fun q hq => rightB_iff.2 (hg q hq)
theorem chk_of {N : Nat} {qs : List EqR} (hN : 1 ≤ N ∧ N ≤ 48) (hl : qs.length ≤ 1152) (hg : ∀ q ∈ qs, GoodE N q) : chkQ (N : Int) qs = if smallB N (eqns qs) = false then 1 else 0 := by
  unfold chkQ
  rw [valid_of hN hl hg, if_neg (by decide), Int.toNat_natCast]
def wantL (N : Nat) (U : List Nat) (t : List Int) : List Int := (List.range N).map fun c => if c ∈ U then t.getD c 0 else 0
theorem wantL_len (N : Nat) (U : List Nat) (t : List Int) : (wantL N U t).length = N := by simp [wantL]
theorem wantL_at {N : Nat} {U : List Nat} {t : List Int} {c : Nat} (hc : c < N) : (wantL N U t).getD c 0 = if c ∈ U then t.getD c 0 else 0 := by
  unfold wantL
  rw [List.getD_eq_getElem?_getD, List.getElem?_map, List.getElem?_range hc]; rfl
theorem wantL_out {N : Nat} {U : List Nat} {t : List Int} {c : Nat} (hc : ¬ c < N) : (wantL N U t).getD c 0 = 0 := getD_ge (by rw [wantL_len]; omega)
theorem want_sol {N : Nat} {l : List EqR} {t : List Int} (hg : ∀ q ∈ l, GoodE N q) (hp : ∀ c ∈ touch N (eqns l), 0 ≤ t.getD c 0 ∧ t.getD c 0 ≤ 1000000) (hs : ∀ q ∈ l, sumC t (eqn q).1 = q.2) : wantL N (touch N (eqns l)) t ∈ solsOf N (eqns l) := by
  have hat : ∀ c ∈ touch N (eqns l), (wantL N (touch N (eqns l)) t).getD c 0 = t.getD c 0 := fun c hc => by
    rw [wantL_at (mem_touch.1 hc).1, if_pos hc]
  refine (mem_sols hg).2 ⟨wantL_len _ _ _, fun c hc => ?_, fun c hc => by rw [hat c hc]; exact hp c hc, fun q hq => ?_⟩
  · rw [zeros_at]
    by_cases hN : c < N
    · rw [wantL_at hN, if_neg hc]
    · exact wantL_out hN
  · obtain ⟨p, hpl, rfl⟩ := List.mem_map.1 hq
    rw [← show sumC t (eqn p).1 = (eqn p).2 from hs p hpl]
    refine sumC_congr fun c hc => hat c (mem_touch.2 ⟨?_, eqn p, hq, hc⟩)
    have := (hg p hpl).lt (c : Int) ((mem_eqn (hg p hpl)).1 hc)
    omega
theorem EqsOk.pos {N : Nat} {t : List Int} {qs : List EqR} (h : EqsOk N t 2 qs) (c : Nat) : 0 ≤ t.getD c 0 ∧ t.getD c 0 ≤ 1000000 := by
  by_cases hc : c < t.length
  · have := h.tab c hc
    exact ⟨this.1, by have := this.2; show t.getD c default ≤ _; omega⟩
  · rw [getD_ge (by omega)]; decide
theorem EqsOk.want {N : Nat} {t : List Int} {qs : List EqR} (h : EqsOk N t 2 qs) : wantL N (touch N (eqns qs)) t ∈ solsOf N (eqns qs) := want_sol h.good (fun c _ => h.pos c) h.sum
theorem EqsOk.some {N : Nat} {t : List Int} {qs : List EqR} (h : EqsOk N t 2 qs) : solsOf N (eqns qs) ≠ [] := fun he => by
  have := h.want; rw [he] at this; cases this
theorem sols_sum {N : Nat} {l : List EqR} (hg : ∀ q ∈ l, GoodE N q) {s : List Int} (hs : s ∈ solsOf N (eqns l)) : ∀ q ∈ l, sumC s (eqn q).1 = q.2 := fun q hq => ((mem_sols hg).1 hs).sum (eqn q) (List.mem_map.2 ⟨q, hq, rfl⟩)
end Go.Proofs.YtpcnapidlhpbkaaGreatDoor
namespace Go.Proofs.YtpcnapidlhpbkaaGreatDoor
open Go.Eng Go.Sol
attribute [local irreducible] opK wpList Code.wp Exit.then Exit.inBlock fnPost bodyPost Nx Calls Oper.wp Rd Rds Wr Ent Stars Blk Again Vec FnSpec wpMix QRun Stop Upto wpAt
theorem reachR_ok {N : Nat} {qs : List EqR} (h : chkQ (N : Int) qs = 0) (hne : solsOf N (eqns qs) ≠ []) : reachR (N : Int) qs = ((List.range N).map (reachAt N (eqns qs)), 0) := by
  unfold reachR
  rw [if_pos h, Int.toNat_natCast, if_neg hne]
theorem ext_all {N x : Nat} {qs : List EqR} (hg : ∀ q ∈ qs, GoodE N q) (hne : solsOf N (eqns qs) ≠ []) (hx : x ∈ touch N (eqns qs)) (down : Bool) : (extOf N (eqns qs) x down).headD [] ∈ solsOf N (eqns qs) ∧ ∀ s ∈ solsOf N (eqns qs), if down then s.getD x 0 ≤ ((extOf N (eqns qs) x down).headD []).getD x 0 else ((extOf N (eqns qs) x down).headD []).getD x 0 ≤ s.getD x 0 := by
  obtain ⟨a, ra, ha, _⟩ := ext_some down hg hx hne
  have h := ext_head hg hx ha
  rw [ha]
  exact h
theorem range_at {α : Type} [Inhabited α] {f : Nat → α} {N x : Nat} (hx : x < N) : ((List.range N).map f).getD x default = f x := by
  rw [List.getD_eq_getElem?_getD, List.getElem?_map, List.getElem?_range hx]; rfl
end Go.Proofs.YtpcnapidlhpbkaaGreatDoor
namespace Go.Proofs.YtpcnapidlhpbkaaGreatDoor
open Go.Eng Go.Sol
attribute [local irreducible] opK wpList Code.wp Exit.then Exit.inBlock fnPost bodyPost Nx Calls Oper.wp Rd Rds Wr Ent Stars Blk Again Vec FnSpec wpMix QRun Stop Upto wpAt
theorem reach_made {N : Nat} {t : List Int} {qs : List EqR} (h : EqsOk N t 2 qs) : (chkQ (N : Int) qs ≠ 0 ∧ reachR (N : Int) qs = ([], 1)) ∨ (chkQ (N : Int) qs = 0 ∧ reachR (N : Int) qs = ((List.range N).map (reachAt N (eqns qs)), 0)) := by
  have hfew := h.few
  have hchk := chk_of h.n (show qs.length ≤ 1152 by omega) h.good
  by_cases hsm : smallB N (eqns qs) = false
  · rw [if_pos hsm] at hchk
    left
    refine ⟨by omega, ?_⟩
    unfold reachR
    rw [hchk, if_neg (by decide)]
  · rw [if_neg hsm] at hchk
    exact .inr ⟨hchk, reachR_ok hchk h.some⟩
end Go.Proofs.YtpcnapidlhpbkaaGreatDoor
namespace Go.Proofs.YtpcnapidlhpbkaaGreatDoor
open Go.Eng
attribute [local irreducible] opK wpList Code.wp Exit.then Exit.inBlock fnPost bodyPost Nx Calls Oper.wp Rd Rds Wr Ent Stars Blk Again Vec FnSpec wpMix QRun Stop Upto wpAt
def wideV (z : Int) : Value := .agg (wideL z).toArray
theorem add64_run (x y c : Nat) (hc : c ≤ 1) (w : World) :
    (callFunc 177 #[.int .u64 x, .int .u64 y, .int .u64 c]).run Tryz.prog w = .ok (.value (.tuple #[.int .u64 (((x + y + c) % 18446744073709551616 : Nat) : Int), .int .u64 (((x + y + c) / 18446744073709551616 : Nat) : Int)])) w := by
  rw [run_callFunc_extern Tryz.func177 (by kernel_rfl) (by kernel_rfl) (by kernel_rfl) (e := add64Entry) (by kernel_rfl), run_add64 x y c (by omega) (by omega) (by omega) (by omega)]
  simp only [Result.andThen]
  congr 5 <;> omega
theorem sub64_run (x y b : Nat) (hb : b ≤ 1) (w : World) :
    (callFunc 118 #[.int .u64 x, .int .u64 y, .int .u64 b]).run Tryz.prog w = .ok (.value (.tuple #[.int .u64 (((x + 18446744073709551616 - y - b) % 18446744073709551616 : Nat) : Int), .int .u64 ((if x < y + b then 1 else 0 : Nat) : Int)])) w := by
  rw [run_callFunc_extern Tryz.func118 (by kernel_rfl) (by kernel_rfl) (by kernel_rfl) (e := sub64Entry) (by kernel_rfl), run_sub64 x y b hb]
  rfl
theorem wideV_mk {h l : Nat} {z : Int} (hh : wH z = h) (hl : wL z = l) : Value.agg [.int .u64 (h : Int), .int .u64 (l : Int)].toArray = wideV z := by unfold wideV wideL; rw [hh, hl]
set_option maxRecDepth 10000 in
theorem plus_spec (a b : Int) (I : PH) : FnSpec Tryz.prog 213 [wideV a, wideV b] I [] (fun v R' => v = wideV (a + b) ∧ R' = []) := by
  obtain ⟨e1, e2⟩ := wide_add a b
  refine FnSpec.enterP Tryz.func213 rfl Tryz.ntmps213 rfl fun w F => ?_
  repeat' first
    | ((with_reducible refine Nx.is_wp ?_); first | refine Nx.wo ?_ | refine Nx.zp (fun hc => ?_) (fun hc => ?_))
    | (refine Nx.zo ?_; first | refine Nx.opr rfl rfl ?_ | refine Nx.call_run rfl rfl rfl rfl (add64_run _ _ _ (by have := wL_lt a; have := wL_lt b; omega)) ?_ | refine Nx.call_run rfl rfl rfl rfl (add64_run _ _ 0 (by omega)) ?_ | refine Nx.so ?_ | refine Nx.sb (fun bx => ?_) | refine Nx.sa (fun A2 c2 => ?_))
    | refine Nx.za ?_ | refine Nx.zr (fun hc => ?_) (fun hc => ?_)
    | refine Nx.zq ?_ | refine Nx.zu (fun hc => ?_) (fun hc => ?_)
    | refine Nx.zx ?_ | fail
  refine Nx.ret_cell 0 rfl rfl rfl rfl rfl rfl [] ⟨wideV_mk e2 e1, rfl⟩ ?_
  (exact Ent.auto)
set_option maxRecDepth 10000 in
theorem rminus_spec (a b : Int) (I : PH) : FnSpec Tryz.prog 59 [wideV a, wideV b] I [] (fun v R' => v = wideV (a - b) ∧ R' = []) := by
  obtain ⟨e1, e2⟩ := wide_sub a b
  refine FnSpec.enterP Tryz.func59 rfl Tryz.ntmps59 rfl fun w F => ?_
  repeat' first
    | ((with_reducible refine Nx.is_wp ?_); first | refine Nx.wo ?_ | refine Nx.zp (fun hc => ?_) (fun hc => ?_))
    | (refine Nx.zo ?_; first | refine Nx.opr rfl rfl ?_ | refine Nx.call_run rfl rfl rfl rfl (sub64_run _ _ _ (by split <;> omega)) ?_ | refine Nx.call_run rfl rfl rfl rfl (sub64_run _ _ 0 (by omega)) ?_ | refine Nx.so ?_ | refine Nx.sb (fun bx => ?_) | refine Nx.sa (fun A2 c2 => ?_))
    | refine Nx.za ?_ | refine Nx.zr (fun hc => ?_) (fun hc => ?_)
    | refine Nx.zq ?_ | refine Nx.zu (fun hc => ?_) (fun hc => ?_)
    | refine Nx.zx ?_ | fail
  refine Nx.ret_cell 0 rfl rfl rfl rfl rfl rfl [] ⟨wideV_mk e2 e1, rfl⟩ ?_
  (exact Ent.auto)
end Go.Proofs.YtpcnapidlhpbkaaGreatDoor
namespace Go.Proofs.YtpcnapidlhpbkaaGreatDoor
def frml64_ren : Go.Shelf.Ren := ⟨fun | 264 => 119 | n => n, fun | 53 => 102 | 46 => 161 | n => n, fun | n => n⟩
theorem frml64 : Go.Proofs.Lays.n264 Tryz.prog frml64_ren where
  mixed := by kernel_rfl
  f264 := Tryz.func119.trans (congrArg some (by kernel_rfl))
  t46 := Tryz.underlying161
  a46 := Tryz.isAgg161
  z46 := Tryz.sizeOf161
  v46 := Tryz.zeroValue161
  t53 := Tryz.underlying102
  a53 := Tryz.isAgg102
  z53 := Tryz.sizeOf102
  v53 := Tryz.zeroValue102
end Go.Proofs.YtpcnapidlhpbkaaGreatDoor
namespace Go.Proofs.YtpcnapidlhpbkaaGreatDoor
open Go.Eng
attribute [local irreducible] opK wpList Code.wp Exit.then Exit.inBlock fnPost bodyPost Nx Calls Oper.wp Rd Rds Wr Ent Stars Blk Again Vec FnSpec wpMix QRun Stop Upto wpAt
theorem mul64_spec (x y : Nat) (hx : x < 18446744073709551616) (hy : y < 18446744073709551616) (I : PH) :
    FnSpec Tryz.prog 119 [.int .u64 x, .int .u64 y] I [] (fun v R' => v = .tuple #[.int .u64 ((x * y / 18446744073709551616 : Nat) : Int), .int .u64 ((x * y % 18446744073709551616 : Nat) : Int)] ∧ R' = []) :=
  FnSpec.of_same fun w _ _ _ => Any.bits_Mul64 frml64 x y hx hy w
theorem wideV_mkI {h l : Int} {z : Int} (hh : (wH z : Int) = h) (hl : (wL z : Int) = l) : Value.agg [.int .u64 h, .int .u64 l].toArray = wideV z := by unfold wideV wideL; rw [hh, hl]
theorem times_high (a b : Int) : (wH (a * b) : Int) = ((((wL a * wL b / 18446744073709551616 : Nat) : Int) + (wH a : Int) * (wL b : Int) % B64) % B64 + (wL a : Int) * (wH b : Int) % B64) % B64 := by
  rw [(wide_mul a b).2, Int.emod_add_emod, Int.add_emod_emod, Int.add_assoc, Int.add_comm ((wH a : Int) * (wL b : Int) % B64), ← Int.add_assoc, Int.add_emod_emod]
  have e : (((wL a * wL b / 18446744073709551616 + wH a * wL b + wL a * wH b) % 18446744073709551616 : Nat) : Int) = (((wL a * wL b / 18446744073709551616 : Nat) : Int) + (wH a : Int) * (wL b : Int) + (wL a : Int) * (wH b : Int)) % B64 := by
    rw [Int.natCast_emod, Int.natCast_add, Int.natCast_add, Int.natCast_mul (wH a), Int.natCast_mul (wL a) (wH b)]
    rfl
  rw [e]
  congr 1
  rw [Int.add_assoc, Int.add_assoc, Int.add_comm ((wH a : Int) * (wL b : Int))]
theorem times_low (a b : Int) : (wL (a * b) : Int) = ((wL a * wL b % 18446744073709551616 : Nat) : Int) := by rw [(wide_mul a b).1]
set_option maxRecDepth 10000 in
theorem times_spec (a b : Int) (I : PH) : FnSpec Tryz.prog 166 [wideV a, wideV b] I [] (fun v R' => v = wideV (a * b) ∧ R' = []) := by
  refine FnSpec.enterP Tryz.func166 rfl Tryz.ntmps166 rfl fun w F => ?_
  repeat' first
    | ((with_reducible refine Nx.is_wp ?_); first | refine Nx.wo ?_ | refine Nx.zp (fun hc => ?_) (fun hc => ?_))
    | (refine Nx.zo ?_; first | refine Nx.opr rfl rfl ?_ | refine Nx.call (Rpre := []) rfl rfl rfl (by kernel_rfl) rfl (mul64_spec _ _ (wL_lt a) (wL_lt b) I) (Ent.refl _) ?_; rintro _ _ ⟨rfl, rfl⟩ | refine Nx.bin rfl rfl run_mulU rfl ?_ | refine Nx.bin rfl rfl run_addU rfl ?_ | refine Nx.so ?_ | refine Nx.sb (fun bx => ?_) | refine Nx.sa (fun A2 c2 => ?_))
    | refine Nx.za ?_ | refine Nx.zr (fun hc => ?_) (fun hc => ?_)
    | refine Nx.zq ?_ | refine Nx.zu (fun hc => ?_) (fun hc => ?_)
    | refine Nx.zx ?_ | fail
  refine Nx.ret_cell 0 rfl rfl rfl rfl rfl rfl [] ⟨wideV_mkI (times_high a b) (times_low a b), rfl⟩ ?_
  (exact Ent.auto)
set_option maxRecDepth 10000 in
theorem rtimes_spec (a b : Int) (I : PH) : FnSpec Tryz.prog 60 [wideV a, wideV b] I [] (fun v R' => v = wideV (a * b) ∧ R' = []) := by
  refine FnSpec.enterP Tryz.func60 rfl Tryz.ntmps60 rfl fun w F => ?_
  repeat' first
    | ((with_reducible refine Nx.is_wp ?_); first | refine Nx.wo ?_ | refine Nx.zp (fun hc => ?_) (fun hc => ?_))
    | (refine Nx.zo ?_; first | refine Nx.opr rfl rfl ?_ | refine Nx.call (Rpre := []) rfl rfl rfl (by kernel_rfl) rfl (mul64_spec _ _ (wL_lt a) (wL_lt b) I) (Ent.refl _) ?_; rintro _ _ ⟨rfl, rfl⟩ | refine Nx.bin rfl rfl run_mulU rfl ?_ | refine Nx.bin rfl rfl run_addU rfl ?_ | refine Nx.so ?_ | refine Nx.sb (fun bx => ?_) | refine Nx.sa (fun A2 c2 => ?_))
    | refine Nx.za ?_ | refine Nx.zr (fun hc => ?_) (fun hc => ?_)
    | refine Nx.zq ?_ | refine Nx.zu (fun hc => ?_) (fun hc => ?_)
    | refine Nx.zx ?_ | fail
  refine Nx.ret_cell 0 rfl rfl rfl rfl rfl rfl [] ⟨wideV_mkI (times_high a b) (times_low a b), rfl⟩ ?_
  (exact Ent.auto)
set_option maxRecDepth 10000 in
theorem opposite_spec (a : Int) (I : PH) : FnSpec Tryz.prog 214 [wideV a] I [] (fun v R' => v = wideV (-a) ∧ R' = []) := by
  obtain ⟨e1, e2⟩ := wide_not a
  refine FnSpec.enterP Tryz.func214 rfl Tryz.ntmps214 rfl fun w F => ?_
  repeat' first
    | ((with_reducible refine Nx.is_wp ?_); first | refine Nx.wo ?_ | refine Nx.zp (fun hc => ?_) (fun hc => ?_))
    | (refine Nx.zo ?_; first | refine Nx.opr rfl rfl ?_ | refine Nx.un rfl (run_notU (wH_lt a)) rfl ?_ | refine Nx.un rfl (run_notU (wL_lt a)) rfl ?_ | refine Nx.call (Rpre := []) rfl rfl (by rw [wideV_mk e1 e2]; rfl) (by kernel_rfl) rfl (plus_spec (-a - 1) 1 I) (Ent.refl _) ?_; rintro _ _ ⟨rfl, rfl⟩ | refine Nx.so ?_ | refine Nx.sb (fun bx => ?_) | refine Nx.sa (fun A2 c2 => ?_))
    | refine Nx.za ?_ | refine Nx.zr (fun hc => ?_) (fun hc => ?_)
    | refine Nx.zq ?_ | refine Nx.zu (fun hc => ?_) (fun hc => ?_)
    | refine Nx.zx ?_ | fail
  refine Nx.ret_cell 0 rfl rfl rfl rfl rfl rfl [] ⟨congrArg wideV (by omega : -a - 1 + 1 = -a), rfl⟩ ?_
  (exact Ent.auto)
end Go.Proofs.YtpcnapidlhpbkaaGreatDoor
namespace Go.Proofs.YtpcnapidlhpbkaaGreatDoor
open Go.Eng
attribute [local irreducible] opK wpList Code.wp Exit.then Exit.inBlock fnPost bodyPost Nx Calls Oper.wp Rd Rds Wr Ent Stars Blk Again Vec FnSpec wpMix QRun Stop Upto wpAt
set_option maxRecDepth 10000 in
theorem minus_spec (a b : Int) (I : PH) : FnSpec Tryz.prog 169 [wideV a, wideV b] I [] (fun v R' => v = wideV (a - b) ∧ R' = []) := by
  refine FnSpec.enterP Tryz.func169 rfl Tryz.ntmps169 rfl fun w F => ?_
  repeat' first
    | ((with_reducible refine Nx.is_wp ?_); first | refine Nx.p_draw (id := 1) rfl [0, 1, 2, 3, 4] [2, 3, 4] [Blk _ 200 (wideL b), Blk _ 200 (wideL a), F] rfl rfl (by kernel_rfl) (by kernel_rfl) rfl PanicOk.auto (Ent.pick 1 rfl (Ent.pick 1 rfl (Ent.pick 1 rfl (Ent.nil _)))) ?_ | refine Nx.wo ?_ | refine Nx.zp (fun hc => ?_) (fun hc => ?_))
    | (refine Nx.zo ?_; first | refine Nx.opr rfl rfl ?_ | refine Nx.call (Rpre := []) rfl rfl rfl (by kernel_rfl) rfl (opposite_spec b I) (Ent.refl _) ?_; rintro _ _ ⟨rfl, rfl⟩ | refine Nx.call (Rpre := []) rfl rfl rfl (by kernel_rfl) rfl (plus_spec a (-b) I) (Ent.refl _) ?_; rintro _ _ ⟨rfl, rfl⟩ | refine Nx.so ?_ | refine Nx.sb (fun bx => ?_) | refine Nx.sa (fun A2 c2 => ?_))
    | refine Nx.za ?_ | refine Nx.zr (fun hc => ?_) (fun hc => ?_)
    | refine Nx.zq ?_ | refine Nx.zu (fun hc => ?_) (fun hc => ?_)
    | refine Nx.zx ?_ | fail
  refine Nx.ret_cell 0 rfl rfl rfl rfl rfl rfl [] ⟨congrArg wideV (by omega : a + -b = a - b), rfl⟩ ?_
  (exact Ent.auto)
theorem top_neg {a : Int} (ha : InW a) : ((wH a : Int) / 2 ^ 63 = 1) ↔ a < 0 := by unfold InW wH B128 B64 at *; omega
theorem bool_congr {p q : Prop} [Decidable p] [Decidable q] (h : p ↔ q) : Value.bool (decide p) = Value.bool (decide q) := by rw [decide_eq_decide.2 h]
set_option maxRecDepth 10000 in
theorem negative_spec (a : Int) (ha : InW a) (I : PH) : FnSpec Tryz.prog 58 [wideV a] I [] (fun v R' => v = .bool (decide (a < 0)) ∧ R' = []) := by
  refine FnSpec.enterP Tryz.func58 rfl Tryz.ntmps58 rfl fun w F => ?_
  repeat' first
    | ((with_reducible refine Nx.is_wp ?_); first | refine Nx.wo ?_ | refine Nx.zp (fun hc => ?_) (fun hc => ?_))
    | (refine Nx.zo ?_; first | refine Nx.opr rfl rfl ?_ | refine Nx.bin rfl rfl (run_shrU (n := 63) (by omega)) rfl ?_ | refine Nx.so ?_ | refine Nx.sb (fun bx => ?_) | refine Nx.sa (fun A2 c2 => ?_))
    | refine Nx.za ?_ | refine Nx.zr (fun hc => ?_) (fun hc => ?_)
    | refine Nx.zq ?_ | refine Nx.zu (fun hc => ?_) (fun hc => ?_)
    | refine Nx.zx ?_ | fail
  refine Nx.ret_fn rfl [] ⟨bool_congr (top_neg ha), rfl⟩ ?_
  (exact Ent.auto)
theorem whole_high {a : Int} (ha : I64 a) : (wH a : Int) = a / 2 ^ 63 % B64 := by unfold I64 wH B128 B64 at *; omega
theorem whole_low (a : Int) : (wL a : Int) = a % B64 := by unfold wL B64; omega
set_option maxRecDepth 10000 in
theorem whole_spec (a : Int) (ha : I64 a) (I : PH) : FnSpec Tryz.prog 165 [.int .i64 a] I [] (fun v R' => v = wideV a ∧ R' = []) := by
  refine FnSpec.enterP Tryz.func165 rfl Tryz.ntmps165 rfl fun w F => ?_
  repeat' first
    | ((with_reducible refine Nx.is_wp ?_); first | refine Nx.wo ?_ | refine Nx.zp (fun hc => ?_) (fun hc => ?_))
    | (refine Nx.zo ?_; first | refine Nx.opr rfl rfl ?_ | refine Nx.bin rfl rfl (run_shrI (n := 63) (by omega)) rfl ?_ | refine Nx.conv_u64 rfl rfl rfl rfl ?_ | refine Nx.so ?_ | refine Nx.sb (fun bx => ?_) | refine Nx.sa (fun A2 c2 => ?_))
    | refine Nx.za ?_ | refine Nx.zr (fun hc => ?_) (fun hc => ?_)
    | refine Nx.zq ?_ | refine Nx.zu (fun hc => ?_) (fun hc => ?_)
    | refine Nx.zx ?_ | fail
  refine Nx.ret_cell 0 rfl rfl rfl rfl rfl rfl [] ⟨wideV_mkI (whole_high ha) (whole_low a), rfl⟩ ?_
  (exact Ent.auto)
set_option maxRecDepth 10000 in
theorem from_spec (a : Int) (ha : I64 a) (I : PH) : FnSpec Tryz.prog 61 [.int .i64 a] I [] (fun v R' => v = wideV a ∧ R' = []) := by
  refine FnSpec.enterP Tryz.func61 rfl Tryz.ntmps61 rfl fun w F => ?_
  repeat' first
    | ((with_reducible refine Nx.is_wp ?_); first | refine Nx.wo ?_ | refine Nx.zp (fun hc => ?_) (fun hc => ?_))
    | (refine Nx.zo ?_; first | refine Nx.opr rfl rfl ?_ | refine Nx.conv_u64 rfl rfl rfl rfl ?_ | refine Nx.so ?_ | refine Nx.sb (fun bx => ?_) | refine Nx.sa (fun A2 c2 => ?_))
    | refine Nx.za ?_ | refine Nx.zr (fun hc => ?_) (fun hc => ?_)
    | refine Nx.zq ?_ | refine Nx.zu (fun hc => ?_) (fun hc => ?_)
    | refine Nx.zx ?_ | fail
  · refine Nx.ret_cell 0 rfl rfl rfl rfl rfl rfl [] ⟨wideV_mkI (h := 18446744073709551615) (by unfold I64 wH B128 B64 at *; omega) (whole_low a), rfl⟩ ?_
    (exact Ent.auto)
  · refine Nx.ret_cell 0 rfl rfl rfl rfl rfl rfl [] ⟨wideV_mkI (h := 0) (by unfold I64 wH B128 B64 at *; omega) (whole_low a), rfl⟩ ?_
    (exact Ent.auto)
end Go.Proofs.YtpcnapidlhpbkaaGreatDoor
namespace Go.Proofs.YtpcnapidlhpbkaaGreatDoor
open Go.Eng
theorem part_wide0 (a b : Int) (w : World) : (part 102 #[.int .u64 a, .int .u64 b] 0).run Tryz.prog w = .ok (.int .u64 a) w := run_of_pureRun (by kernel_rfl) w
theorem part_wide1 (a b : Int) (w : World) : (part 102 #[.int .u64 a, .int .u64 b] 1).run Tryz.prog w = .ok (.int .u64 b) w := run_of_pureRun (by kernel_rfl) w
theorem eqFields_wide (a b c d : Int) (w : World) (fs : List Field) (hf : fs.map (fun f => (f.name, f.type, f.offset)) = [("High", 102, 0), ("Low", 102, 1)]) :
    (Op.eqFields 9999 #[.int .u64 a, .int .u64 b] #[.int .u64 c, .int .u64 d] fs).run Tryz.prog w = .ok (a == c && b == d) w := by
  obtain ⟨f, g, rfl⟩ : ∃ f g, fs = [f, g] := by
    rcases fs with _ | ⟨f, _ | ⟨g, _ | ⟨k, r⟩⟩⟩
    · simp at hf
    · simp at hf
    · exact ⟨f, g, rfl⟩
    · simp at hf
  · simp only [List.map_cons, List.map_nil, List.cons.injEq, Prod.mk.injEq, and_true] at hf
    obtain ⟨⟨h1, h2, h3⟩, h4, h5, h6⟩ := hf
    simp only [Op.eqFields, h1, h2, h3, h4, h5, h6]
    rw [if_pos (by decide), if_pos (by decide), Sem.run_bind, part_wide0, Result.andThen_ok, Sem.run_bind, part_wide0, Result.andThen_ok, Sem.run_bind, run_equalIn_int _ 9998 _ .u64 .u64 a c Tryz.underlying102, Result.andThen_ok]
    cases (a == c)
    · rfl
    · rw [if_neg (by decide), Sem.run_bind, part_wide1, Result.andThen_ok, Sem.run_bind, part_wide1, Result.andThen_ok, Sem.run_bind, run_equalIn_int _ 9998 _ .u64 .u64 b d Tryz.underlying102, Result.andThen_ok]
      cases (b == d) <;> rfl
theorem eql_wide {x y : Operand} (a b c d : Int) (w : World) :
    (do eqGuard .eql 200 x y (.agg #[.int .u64 a, .int .u64 b]) (.agg #[.int .u64 c, .int .u64 d]); binOp .eql 200 (.agg #[.int .u64 a, .int .u64 b]) (.agg #[.int .u64 c, .int .u64 d])).run Tryz.prog w = .ok (.bool (a == c && b == d)) w := by
  rw [Sem.run_bind, run_eqGuard_agg _ _ _ _ _ _ _ Tryz.eqGuardType200, Result.andThen_ok, run_eql_struct, run_equalIn_struct _ 9999 200 _ _ (by kernel_rfl) Tryz.stoodInHeld200,
    eqFields_wide a b c d w _ (by kernel_rfl)]
  rfl
theorem neq_wide {x y : Operand} (a b c d : Int) (w : World) :
    (do eqGuard .neq 200 x y (.agg #[.int .u64 a, .int .u64 b]) (.agg #[.int .u64 c, .int .u64 d]); binOp .neq 200 (.agg #[.int .u64 a, .int .u64 b]) (.agg #[.int .u64 c, .int .u64 d])).run Tryz.prog w = .ok (.bool (!(a == c && b == d))) w := by
  rw [Sem.run_bind, run_eqGuard_agg _ _ _ _ _ _ _ Tryz.eqGuardType200, Result.andThen_ok, run_neq_struct, run_equalIn_struct _ 9999 200 _ _ (by kernel_rfl) Tryz.stoodInHeld200,
    eqFields_wide a b c d w _ (by kernel_rfl)]
  rfl
end Go.Proofs.YtpcnapidlhpbkaaGreatDoor
namespace Go.Proofs.YtpcnapidlhpbkaaGreatDoor
open Go.Eng
attribute [local irreducible] opK wpList Code.wp Exit.then Exit.inBlock fnPost bodyPost Nx Calls Oper.wp Rd Rds Wr Ent Stars Blk Again Vec FnSpec wpMix QRun Stop Upto wpAt
theorem zero_bool {a : Int} (ha : InW a) : ((wH a : Int) == 0 && (wL a : Int) == 0) = decide (a = 0) := by
  rw [Bool.eq_iff_iff]
  simp only [Bool.and_eq_true, beq_iff_eq, decide_eq_true_eq]
  rw [← wide_zero ha]
  omega
set_option maxRecDepth 10000 in
theorem sign_spec (a : Int) (ha : InW a) (I : PH) : FnSpec Tryz.prog 170 [wideV a] I [] (fun v R' => v = .int .i64 a.sign ∧ R' = []) := by
  refine FnSpec.enterP Tryz.func170 rfl Tryz.ntmps170 rfl fun w F => ?_
  repeat' first
    | ((with_reducible refine Nx.is_wp ?_); first | refine Nx.wo ?_ | refine Nx.zp (fun hc => ?_) (fun hc => ?_))
    | (refine Nx.zo ?_; first | refine Nx.opr rfl rfl ?_ | refine Nx.bin rfl rfl (run_shrU (n := 63) (by omega)) rfl ?_ | refine Nx.binr rfl rfl (eql_wide _ _ _ _) rfl ?_ | refine Nx.so ?_ | refine Nx.sb (fun bx => ?_) | refine Nx.sa (fun A2 c2 => ?_))
    | refine Nx.za ?_ | refine Nx.zr (fun hc => ?_) (fun hc => ?_)
    | refine Nx.zq ?_ | refine Nx.zu (fun hc => ?_) (fun hc => ?_)
    | refine Nx.zx ?_ | fail
  · have hn := (top_neg ha).1 hc
    refine Nx.ret_fn rfl [] ⟨by rw [Int.sign_eq_neg_one_of_neg hn], rfl⟩ ?_
    (exact Ent.auto)
  · rw [zero_bool ha, decide_eq_true_eq] at hc
    refine Nx.ret_fn rfl [] ⟨by rw [hc]; rfl, rfl⟩ ?_
    (exact Ent.auto)
  · rename_i hc2
    rw [zero_bool ha, decide_eq_false_iff_not] at hc
    have hn := mt (top_neg ha).2 hc2
    refine Nx.ret_fn rfl [] ⟨by rw [Int.sign_eq_one_of_pos (by omega)], rfl⟩ ?_
    (exact Ent.auto)
set_option maxRecDepth 10000 in
theorem size_spec (a : Int) (ha : InW a) (I : PH) : FnSpec Tryz.prog 216 [wideV a] I [] (fun v R' => v = wideV (a.natAbs : Int) ∧ R' = []) := by
  refine FnSpec.enterP Tryz.func216 rfl Tryz.ntmps216 rfl fun w F => ?_
  repeat' first
    | ((with_reducible refine Nx.is_wp ?_); first | refine Nx.wo ?_ | refine Nx.zp (fun hc => ?_) (fun hc => ?_))
    | (refine Nx.zo ?_; first | refine Nx.opr rfl rfl ?_ | refine Nx.call (Rpre := []) rfl rfl rfl (by kernel_rfl) rfl (sign_spec a ha I) (Ent.refl _) ?_; rintro _ _ ⟨rfl, rfl⟩ | refine Nx.call (Rpre := []) rfl rfl rfl (by kernel_rfl) rfl (opposite_spec a I) (Ent.refl _) ?_; rintro _ _ ⟨rfl, rfl⟩ | refine Nx.so ?_ | refine Nx.sb (fun bx => ?_) | refine Nx.sa (fun A2 c2 => ?_))
    | refine Nx.za ?_ | refine Nx.zr (fun hc => ?_) (fun hc => ?_)
    | refine Nx.zq ?_ | refine Nx.zu (fun hc => ?_) (fun hc => ?_)
    | refine Nx.zx ?_ | fail
  · have hn : a < 0 := Int.sign_neg_iff.1 hc
    refine Nx.ret_cell 0 rfl rfl rfl rfl rfl rfl [] ⟨congrArg wideV (by omega : -a = (a.natAbs : Int)), rfl⟩ ?_
    (exact Ent.auto)
  · have hn : ¬ a < 0 := fun h => hc (Int.sign_neg_iff.2 h)
    refine Nx.ret_cell 0 rfl rfl rfl rfl rfl rfl [] ⟨congrArg wideV (by omega : a = (a.natAbs : Int)), rfl⟩ ?_
    (exact Ent.auto)
end Go.Proofs.YtpcnapidlhpbkaaGreatDoor
namespace Go.Proofs.YtpcnapidlhpbkaaGreatDoor
def ln64_ren : Go.Shelf.Ren := ⟨fun | 129 => 234 | n => n, fun | 53 => 102 | 3 => 3 | 4 => 4 | 46 => 161 | 5 => 5 | 9 => 9 | n => n, fun | n => n⟩
theorem ln64 : Go.Proofs.Lays.n129 Tryz.prog ln64_ren where
  mixed := by kernel_rfl
  f129 := Tryz.func234.trans (congrArg some (by kernel_rfl))
  t3 := Tryz.underlying3
  a3 := Tryz.isAgg3
  z3 := Tryz.sizeOf3
  v3 := Tryz.zeroValue3
  t4 := Tryz.underlying4
  a4 := Tryz.isAgg4
  z4 := Tryz.sizeOf4
  v4 := Tryz.zeroValue4
  t5 := Tryz.underlying5
  a5 := Tryz.isAgg5
  z5 := Tryz.sizeOf5
  v5 := Tryz.zeroValue5
  t9 := Tryz.underlying9
  a9 := Tryz.isAgg9
  z9 := Tryz.sizeOf9
  v9 := Tryz.zeroValue9
  t46 := Tryz.underlying161
  a46 := Tryz.isAgg161
  z46 := Tryz.sizeOf161
  v46 := Tryz.zeroValue161
  t53 := Tryz.underlying102
  a53 := Tryz.isAgg102
  z53 := Tryz.sizeOf102
  v53 := Tryz.zeroValue102
end Go.Proofs.YtpcnapidlhpbkaaGreatDoor
namespace Go.Proofs.YtpcnapidlhpbkaaGreatDoor
open Go.Eng
attribute [local irreducible] opK wpList Code.wp Exit.then Exit.inBlock fnPost bodyPost Nx Calls Oper.wp Rd Rds Wr Ent Stars Blk Again Vec FnSpec wpMix QRun Stop Upto wpAt
theorem len64_spec (x : Nat) (h1 : x < 18446744073709551616) (I : PH) :
    FnSpec Tryz.prog 234 [.int .u64 x] I [] (fun v R' => v = .int .i64 (Lib.bitLen x) ∧ R' = []) :=
  FnSpec.of_same fun w _ _ _ => Any.bits_Len64 ln64 x w (by omega) (by omega)
end Go.Proofs.YtpcnapidlhpbkaaGreatDoor
namespace Go.Proofs.YtpcnapidlhpbkaaGreatDoor
def tz64_ren : Go.Shelf.Ren := ⟨fun | 29 => 276 | n => n, fun | 22 => 102 | 3 => 3 | 4 => 4 | 25 => 161 | 54 => 291 | 0 => 0 | 5 => 5 | n => n, fun | 1 => 1 | n => n⟩
theorem tz64 : Go.Proofs.Lays7.n29 Tryz.prog tz64_ren where
  mixed := by kernel_rfl
  f29 := Tryz.func276.trans (congrArg some (by kernel_rfl))
  t0 := Tryz.underlying0
  a0 := Tryz.isAgg0
  z0 := Tryz.sizeOf0
  v0 := Tryz.zeroValue0
  i0 := by kernel_rfl
  t3 := Tryz.underlying3
  a3 := Tryz.isAgg3
  z3 := Tryz.sizeOf3
  v3 := Tryz.zeroValue3
  i3 := by kernel_rfl
  t4 := Tryz.underlying4
  a4 := Tryz.isAgg4
  z4 := Tryz.sizeOf4
  v4 := Tryz.zeroValue4
  i4 := by kernel_rfl
  t5 := Tryz.underlying5
  a5 := Tryz.isAgg5
  z5 := Tryz.sizeOf5
  v5 := Tryz.zeroValue5
  i5 := by kernel_rfl
  t22 := Tryz.underlying102
  a22 := Tryz.isAgg102
  z22 := Tryz.sizeOf102
  v22 := Tryz.zeroValue102
  i22 := by kernel_rfl
  t25 := Tryz.underlying161
  a25 := Tryz.isAgg161
  z25 := Tryz.sizeOf161
  v25 := Tryz.zeroValue161
  i25 := by kernel_rfl
  t54 := Tryz.underlying291
  a54 := Tryz.isAgg291
  z54 := Tryz.sizeOf291
  g1 := by kernel_rfl
end Go.Proofs.YtpcnapidlhpbkaaGreatDoor
namespace Go.Proofs.YtpcnapidlhpbkaaGreatDoor
open Go.Eng
def TabI (I : PH) : Prop := ∀ (W w : World) (R : List Res), St W I R w → TabAt (tz64_ren.g 1) Lib.deBruijn64tab w
theorem tz64_spec (x : Nat) (h1 : x < 18446744073709551616) (I : PH) (hT : TabI I) :
    FnSpec Tryz.prog 276 [.int .u64 x] I [] (fun v R' => v = .int .i64 (Lib.ctz 64 x : Nat) ∧ R' = []) :=
  FnSpec.of_same fun w W R hw => Any7.bits_TrailingZeros64 tz64 x h1 w fun _ => hT W w R hw
end Go.Proofs.YtpcnapidlhpbkaaGreatDoor
namespace Go.Proofs.YtpcnapidlhpbkaaGreatDoor
open Go.Eng
attribute [local irreducible] opK wpList Code.wp Exit.then Exit.inBlock fnPost bodyPost Nx Calls Oper.wp Rd Rds Wr Ent Stars Blk Again Vec FnSpec wpMix QRun Stop Upto wpAt
abbrev W128 : Nat := 340282366920938463463374607431768211456
set_option maxRecDepth 10000 in
theorem length_spec (a : Nat) (ha : a < W128) (I : PH) : FnSpec Tryz.prog 247 [wideV (a : Int)] I [] (fun v R' => v = .int .i64 (lenN a : Nat) ∧ R' = []) := by
  have e1 := wH_nat ha
  have e2 := wL_nat a
  have hq : a / 18446744073709551616 < 18446744073709551616 := by unfold W128 at ha; omega
  have hl : Lib.bitLen (a / 18446744073709551616) ≤ 64 := Lib.bitLen_le _ 64 (Nat.le_refl _) hq
  refine FnSpec.enterP Tryz.func247 rfl Tryz.ntmps247 rfl fun w F => ?_
  repeat' first
    | ((with_reducible refine Nx.is_wp ?_); first | refine Nx.wo ?_ | refine Nx.zp (fun hc => ?_) (fun hc => ?_))
    | (refine Nx.zo ?_; first | refine Nx.opr rfl rfl ?_ | refine Nx.call (Rpre := []) rfl rfl rfl (by kernel_rfl) rfl (len64_spec _ (wH_lt a) I) (Ent.refl _) ?_; rintro _ _ ⟨rfl, rfl⟩ | refine Nx.call (Rpre := []) rfl rfl rfl (by kernel_rfl) rfl (len64_spec _ (wL_lt a) I) (Ent.refl _) ?_; rintro _ _ ⟨rfl, rfl⟩ | refine Nx.add rfl rfl (by rw [e1]; unfold I64; omega) rfl ?_ | refine Nx.so ?_ | refine Nx.sb (fun bx => ?_) | refine Nx.sa (fun A2 c2 => ?_))
    | refine Nx.za ?_ | refine Nx.zr (fun hc => ?_) (fun hc => ?_)
    | refine Nx.zq ?_ | refine Nx.zu (fun hc => ?_) (fun hc => ?_)
    | refine Nx.zx ?_ | fail
  · refine Nx.ret_fn rfl [] ⟨by unfold lenN; rw [if_neg (by omega), e1, Int.natCast_add]; rfl, rfl⟩ ?_
    (exact Ent.auto)
  · refine Nx.ret_fn rfl [] ⟨by unfold lenN; rw [if_pos (by omega), e2, Nat.mod_eq_of_lt (by omega)], rfl⟩ ?_
    (exact Ent.auto)
theorem ctz_le {x : Nat} (h : x < 18446744073709551616) : Lib.ctz 64 x ≤ 64 := by
  by_cases h0 : x = 0
  · subst h0; decide
  · obtain ⟨m, _, hz⟩ := ctz_two h0 h; omega
set_option maxRecDepth 10000 in
theorem zeros_spec (a : Nat) (ha : a < W128) (I : PH) (hT : TabI I) : FnSpec Tryz.prog 244 [wideV (a : Int)] I [] (fun v R' => v = .int .i64 (zerN a : Nat) ∧ R' = []) := by
  have e1 := wH_nat ha
  have e2 := wL_nat a
  have hl := ctz_le (wH_lt a)
  refine FnSpec.enterP Tryz.func244 rfl Tryz.ntmps244 rfl fun w F => ?_
  repeat' first
    | ((with_reducible refine Nx.is_wp ?_); first | refine Nx.wo ?_ | refine Nx.zp (fun hc => ?_) (fun hc => ?_))
    | (refine Nx.zo ?_; first | refine Nx.opr rfl rfl ?_ | refine Nx.call (Rpre := []) rfl rfl rfl (by kernel_rfl) rfl (tz64_spec _ (wH_lt a) I hT) (Ent.refl _) ?_; rintro _ _ ⟨rfl, rfl⟩ | refine Nx.call (Rpre := []) rfl rfl rfl (by kernel_rfl) rfl (tz64_spec _ (wL_lt a) I hT) (Ent.refl _) ?_; rintro _ _ ⟨rfl, rfl⟩ | refine Nx.add rfl rfl (by unfold I64; omega) rfl ?_ | refine Nx.so ?_ | refine Nx.sb (fun bx => ?_) | refine Nx.sa (fun A2 c2 => ?_))
    | refine Nx.za ?_ | refine Nx.zr (fun hc => ?_) (fun hc => ?_)
    | refine Nx.zq ?_ | refine Nx.zu (fun hc => ?_) (fun hc => ?_)
    | refine Nx.zx ?_ | fail
  · refine Nx.ret_fn rfl [] ⟨by unfold zerN; rw [if_pos (by omega), e1, Int.natCast_add]; rfl, rfl⟩ ?_
    (exact Ent.auto)
  · refine Nx.ret_fn rfl [] ⟨by unfold zerN; rw [if_neg (by omega), e2], rfl⟩ ?_
    (exact Ent.auto)
theorem natPow_int (n : Nat) : ((2 ^ n : Nat) : Int) = (2 : Int) ^ n := by simp
theorem left_low {a n : Nat} (hn : n ≤ 64) (h : a * 2 ^ n < W128) : (wL ((a * 2 ^ n : Nat) : Int) : Int) = (wL (a : Int) : Int) * 2 ^ n % B64 := by
  rw [wL_nat, wL_nat, (left_nat hn h).2.2.2, ← natPow_int]
  rfl
theorem left_highN {a n : Nat} (hn : n ≤ 64) (h : a * 2 ^ n < W128) : ((wH (a : Int) : Int) * 2 ^ n % B64 = ((2 ^ n * wH (a : Int) : Nat) : Int)) ∧ 2 ^ n * wH (a : Int) < 18446744073709551616 ∧ wL (a : Int) / 2 ^ (64 - n) < 2 ^ n ∧ wH ((a * 2 ^ n : Nat) : Int) = 2 ^ n * wH (a : Int) + wL (a : Int) / 2 ^ (64 - n) := by
  obtain ⟨h1, h2, h3, _⟩ := left_nat hn h
  rw [wH_nat h, h1, wH_nat (mul_lt_pow h), wL_nat, ← natPow_int, Nat.mul_comm (2 ^ n)]
  generalize a % 18446744073709551616 / 2 ^ (64 - n) = Z at *
  rw [← Int.natCast_mul]
  generalize a / 18446744073709551616 * 2 ^ n = X at *
  refine ⟨Int.emod_eq_of_lt (by omega) (by unfold B64; omega), by omega, h3, rfl⟩
section
variable {P : Program} {t : TypeId} {x y : Operand}
theorem left_or {a n : Nat} (hn : n ≤ 64) (h : a * 2 ^ n < W128) : pureRun P (do eqGuard .or t x y (.int .u64 ((wH (a : Int) : Int) * 2 ^ n % B64)) (.int .u64 ((wL (a : Int) : Int) / 2 ^ (64 - n))); binOp .or t (.int .u64 ((wH (a : Int) : Int) * 2 ^ n % B64)) (.int .u64 ((wL (a : Int) : Int) / 2 ^ (64 - n)))) = some (.int .u64 (wH ((a * 2 ^ n : Nat) : Int))) := by
  obtain ⟨h1, h2, h3, h4⟩ := left_highN hn h
  have hq : (wL (a : Int) : Int) / 2 ^ (64 - n) = ((wL (a : Int) / 2 ^ (64 - n) : Nat) : Int) := by rw [Int.natCast_ediv, natPow_int]
  rw [run_orD n (wH (a : Int)) (wL (a : Int) / 2 ^ (64 - n)) h1 hq h2 h3 (Nat.lt_of_le_of_lt (Nat.div_le_self _ _) (wL_lt a)), h1, hq, h4, Int.natCast_add]
theorem right_or {a n : Nat} (hn : n ≤ 64) (h : a < W128) : pureRun P (do eqGuard .or t x y (.int .u64 ((wL (a : Int) : Int) / 2 ^ n)) (.int .u64 ((wH (a : Int) : Int) * 2 ^ (64 - n) % B64)); binOp .or t (.int .u64 ((wL (a : Int) : Int) / 2 ^ n)) (.int .u64 ((wH (a : Int) : Int) * 2 ^ (64 - n) % B64))) = some (.int .u64 (wL ((a / 2 ^ n : Nat) : Int))) := by
  obtain ⟨h1, h2, h3, h4⟩ := right_nat hn h
  have hp : (wL (a : Int) : Int) / 2 ^ n = ((wL (a : Int) / 2 ^ n : Nat) : Int) := by rw [Int.natCast_ediv, natPow_int]
  have hq : (wH (a : Int) : Int) * 2 ^ (64 - n) % B64 = ((2 ^ (64 - n) * (wH (a : Int) % 2 ^ n) : Nat) : Int) := by
    rw [wH_nat h, ← h3, Int.natCast_emod, Int.natCast_mul, natPow_int]; rfl
  have hm : 2 ^ (64 - n) * (wH (a : Int) % 2 ^ n) < 18446744073709551616 := by rw [wH_nat h, ← h3]; exact Nat.mod_lt _ (by decide)
  rw [run_orE (64 - n) (wH (a : Int) % 2 ^ n) (wL (a : Int) / 2 ^ n) hp hq hm (by rw [wL_nat]; exact h2) (Nat.lt_of_le_of_lt (Nat.div_le_self _ _) (wL_lt a)), hp, hq, wL_nat (a / 2 ^ n), h4, wH_nat h, wL_nat, Int.natCast_add]
end
theorem right_high {a n : Nat} (hn : n ≤ 64) (h : a < W128) : (wH ((a / 2 ^ n : Nat) : Int) : Int) = (wH (a : Int) : Int) / 2 ^ n := by
  rw [wH_nat (Nat.lt_of_le_of_lt (Nat.div_le_self _ _) h), (right_nat hn h).1, wH_nat h, Int.natCast_ediv (_ / _), natPow_int]
theorem left_far {a n : Nat} (h1 : 64 ≤ n) (h2 : n < 128) (h : a * 2 ^ n < W128) : (wH ((a * 2 ^ n : Nat) : Int) : Int) = (wL (a : Int) : Int) * 2 ^ (n - 64) % B64 ∧ (wL ((a * 2 ^ n : Nat) : Int) : Int) = 0 := by
  have e : a * 2 ^ n = (a * 2 ^ (n - 64)) * 18446744073709551616 := by
    rw [show n = (n - 64) + 64 by omega, Nat.pow_add, ← Nat.mul_assoc]; simp
  have hlt : a * 2 ^ (n - 64) < 18446744073709551616 := by
    rw [e] at h; unfold W128 at h; omega
  have ha : a < 18446744073709551616 := Nat.lt_of_le_of_lt (Nat.le_mul_of_pos_right a (Nat.two_pow_pos _)) hlt
  rw [wH_nat h, wL_nat, wL_nat, Nat.mod_eq_of_lt ha, ← natPow_int, ← Int.natCast_mul, e]
  generalize a * 2 ^ (n - 64) = X at *
  unfold B64
  omega
theorem right_far {a n : Nat} (h1 : 64 ≤ n) (h : a < W128) : (wL ((a / 2 ^ n : Nat) : Int) : Int) = (wH (a : Int) : Int) / 2 ^ (n - 64) ∧ (wH ((a / 2 ^ n : Nat) : Int) : Int) = 0 := by
  have e : a / 2 ^ n = a / 18446744073709551616 / 2 ^ (n - 64) := by
    rw [Nat.div_div_eq_div_mul, show (18446744073709551616 : Nat) = 2 ^ 64 from rfl, ← Nat.pow_add, show 64 + (n - 64) = n by omega]
  have hle : a / 18446744073709551616 / 2 ^ (n - 64) ≤ a / 18446744073709551616 := Nat.div_le_self _ _
  rw [wH_nat (Nat.lt_of_le_of_lt (Nat.div_le_self _ _) h), wL_nat, wH_nat h, ← natPow_int, ← Int.natCast_ediv, e]
  generalize a / 18446744073709551616 / 2 ^ (n - 64) = X at *
  unfold W128 at h
  omega
attribute [local irreducible] wH wL
set_option maxRecDepth 10000 in
theorem left_spec (a n : Nat) (hn : n < 128) (h : a * 2 ^ n < W128) (I : PH) : FnSpec Tryz.prog 246 [wideV (a : Int), .int .i64 (n : Nat)] I [] (fun v R' => v = wideV ((a * 2 ^ n : Nat) : Int) ∧ R' = []) := by
  have ha := mul_lt_pow h
  refine FnSpec.enterP Tryz.func246 rfl Tryz.ntmps246 rfl fun w F => ?_
  repeat' first
    | ((with_reducible refine Nx.is_wp ?_); first | refine Nx.p_draw (id := 3) rfl [0, 1, 2, 3, 4, 5, 6, 7, 8, 9, 10, 11, 12, 13, 14, 15] [15] [Blk _ 200 (wideL a), F] rfl rfl (by kernel_rfl) (by kernel_rfl) rfl PanicOk.auto (Ent.pick 1 rfl (Ent.pick 1 rfl (Ent.nil _))) ?_ | refine Nx.wo ?_ | refine Nx.p_draw (id := 3) rfl [0, 1, 2, 3, 4, 5, 6, 7, 8, 9, 10, 11, 12, 13, 14, 15] [15] _ rfl rfl (by kernel_rfl) (by kernel_rfl) rfl PanicOk.auto (Ent.refl _) ?_ | refine Nx.zp (fun hc => ?_) (fun hc => ?_))
    | (refine Nx.zo ?_; first | refine Nx.opr rfl rfl ?_ | refine Nx.bin rfl rfl (run_shlN (n - 64) (by omega) (by omega)) rfl ?_ | refine Nx.so ?_ | refine Nx.sb (fun bx => ?_) | refine Nx.sa (fun A2 c2 => ?_))
    | refine Nx.za ?_ | refine Nx.zr (fun hc => ?_) (fun hc => ?_)
    | ((with_reducible refine Nx.is_mix ?_); first | refine Nx.m_quiet rfl rfl rfl rfl rfl (by first | exact QRun.opr rfl | exact QRun.bin rfl rfl (run_shlN n rfl (by omega)) | exact QRun.bin rfl rfl (run_shrN (64 - n) (by omega) (by omega)) | exact QRun.bin rfl rfl (left_or (by omega) h)) ?_ | refine Nx.m_quiet_do rfl rfl rfl rfl rfl rfl rfl (by first | exact QRun.opr rfl | exact QRun.bin rfl rfl (run_shlN n rfl (by omega)) | exact QRun.bin rfl rfl (run_shrN (64 - n) (by omega) (by omega)) | exact QRun.bin rfl rfl (left_or (by omega) h)) ?_ | refine Nx.m ?_ | refine Nx.zm ?_ | refine Nx.zt (fun hc => ?_) (fun hc => ?_))
    | refine Nx.zx ?_ | fail
  · have e := left_far (by omega) hn h
    refine Nx.ret_cell 0 rfl rfl rfl rfl rfl rfl [] ⟨wideV_mkI e.1 e.2, rfl⟩ ?_
    (exact Ent.auto)
  · refine Nx.ret_cell 0 rfl rfl rfl rfl rfl rfl [] ⟨wideV_mkI rfl (left_low (by omega) h), rfl⟩ ?_
    (exact Ent.auto)
set_option maxRecDepth 10000 in
theorem frright_spec (a n : Nat) (hn : n < 128) (h : a < W128) (I : PH) : FnSpec Tryz.prog 245 [wideV (a : Int), .int .i64 (n : Nat)] I [] (fun v R' => v = wideV ((a / 2 ^ n : Nat) : Int) ∧ R' = []) := by
  refine FnSpec.enterP Tryz.func245 rfl Tryz.ntmps245 rfl fun w F => ?_
  repeat' first
    | ((with_reducible refine Nx.is_wp ?_); first | refine Nx.p_draw (id := 3) rfl [0, 1, 2, 3, 4, 5, 6, 7, 8, 9, 10, 11, 12, 13, 14, 15] [15] [Blk _ 200 (wideL a), F] rfl rfl (by kernel_rfl) (by kernel_rfl) rfl PanicOk.auto (Ent.pick 1 rfl (Ent.pick 1 rfl (Ent.nil _))) ?_ | refine Nx.wo ?_ | refine Nx.p_draw (id := 3) rfl [0, 1, 2, 3, 4, 5, 6, 7, 8, 9, 10, 11, 12, 13, 14, 15] [15] _ rfl rfl (by kernel_rfl) (by kernel_rfl) rfl PanicOk.auto (Ent.refl _) ?_ | refine Nx.zp (fun hc => ?_) (fun hc => ?_))
    | (refine Nx.zo ?_; first | refine Nx.opr rfl rfl ?_ | refine Nx.bin rfl rfl (run_shrN (n - 64) (by omega) (by omega)) rfl ?_ | refine Nx.so ?_ | refine Nx.sb (fun bx => ?_) | refine Nx.sa (fun A2 c2 => ?_))
    | refine Nx.za ?_ | refine Nx.zr (fun hc => ?_) (fun hc => ?_)
    | ((with_reducible refine Nx.is_mix ?_); first | refine Nx.m_quiet rfl rfl rfl rfl rfl (by first | exact QRun.opr rfl | exact QRun.bin rfl rfl (run_shrN n rfl (by omega)) | exact QRun.bin rfl rfl (run_shlN (64 - n) (by omega) (by omega)) | exact QRun.bin rfl rfl (right_or (by omega) h)) ?_ | refine Nx.m_quiet_do rfl rfl rfl rfl rfl rfl rfl (by first | exact QRun.opr rfl | exact QRun.bin rfl rfl (run_shrN n rfl (by omega)) | exact QRun.bin rfl rfl (run_shlN (64 - n) (by omega) (by omega)) | exact QRun.bin rfl rfl (right_or (by omega) h)) ?_ | refine Nx.m ?_ | refine Nx.zm ?_ | refine Nx.zt (fun hc => ?_) (fun hc => ?_))
    | refine Nx.zx ?_ | fail
  · have e := right_far (n := n) (by omega) h
    refine Nx.ret_cell 0 rfl rfl rfl rfl rfl rfl [] ⟨wideV_mkI e.2 e.1, rfl⟩ ?_
    (exact Ent.auto)
  · refine Nx.ret_cell 0 rfl rfl rfl rfl rfl rfl [] ⟨wideV_mkI (right_high (by omega) h) rfl, rfl⟩ ?_
    (exact Ent.auto)
end Go.Proofs.YtpcnapidlhpbkaaGreatDoor
namespace Go.Proofs.YtpcnapidlhpbkaaGreatDoor
open Go.Eng
attribute [local irreducible] opK wpList Code.wp Exit.then Exit.inBlock fnPost bodyPost Nx Calls Oper.wp Rd Rds Wr Ent Stars Blk Again Vec FnSpec wpMix QRun Stop Upto wpAt
abbrev H127 : Nat := 170141183460469231731687303715884105728
attribute [local irreducible] wH wL bitN
end Go.Proofs.YtpcnapidlhpbkaaGreatDoor
namespace Go.Proofs.YtpcnapidlhpbkaaGreatDoor
open Go.Eng
attribute [local irreducible] opK wpList Code.wp Exit.then Exit.inBlock fnPost bodyPost Nx Calls Oper.wp Rd Rds Wr Ent Stars Blk Again Vec FnSpec wpMix QRun Stop Upto wpAt
theorem half_step {a B : Nat} (hB : 0 < B) : (a % (2 * B) < B → a % B = a % (2 * B) ∧ a / B = 2 * (a / (2 * B))) ∧ (¬ a % (2 * B) < B → a % B = a % (2 * B) - B ∧ a / B = 2 * (a / (2 * B)) + 1) := by
  have h1 := Nat.div_add_mod a (2 * B)
  have h2 : a % (2 * B) < 2 * B := Nat.mod_lt _ (by omega)
  generalize a % (2 * B) = r at *
  generalize a / (2 * B) = q at *
  have h3 : a = B * (2 * q) + r := by rw [← h1, Nat.mul_left_comm, ← Nat.mul_assoc]
  constructor
  · intro hlt
    constructor
    · conv => lhs; rw [h3]
      rw [Nat.mul_add_mod, Nat.mod_eq_of_lt hlt]
    · conv => lhs; rw [h3]
      rw [Nat.mul_add_div hB, Nat.div_eq_of_lt hlt, Nat.add_zero]
  · intro hge
    have h4 : a = B * (2 * q + 1) + (r - B) := by
      rw [Nat.mul_add]
      omega
    have hlt : r - B < B := by omega
    constructor
    · conv => lhs; rw [h4]
      rw [Nat.mul_add_mod, Nat.mod_eq_of_lt hlt]
    · conv => lhs; rw [h4]
      rw [Nat.mul_add_div hB, Nat.div_eq_of_lt hlt, Nat.add_zero]
attribute [local irreducible] wH wL lenN zerN
set_option maxRecDepth 10000 in
theorem over_spec (a b : Nat) (ha : a < H127) (hb0 : 0 < b) (hb : b < H127) (I : PH) : FnSpec Tryz.prog 217 [wideV (a : Int), wideV (b : Int)] I []
    (fun v R' => ∃ q : Int, v = .tuple #[.int .i64 q, .bool (decide (a / b ≤ 1152921504606846976))] ∧ R' = [] ∧ (a / b ≤ 1152921504606846976 → q = (a / b : Nat)) ∧ 0 ≤ q ∧ q ≤ 4611686018427387904) := by
  obtain ⟨a1, a2, a3⟩ := lenN_spec (a := a) (by unfold H127 at ha; omega)
  obtain ⟨b1, b2, b3⟩ := lenN_spec (a := b) (by unfold H127 at hb; omega)
  obtain ⟨b2, b4⟩ := b2 (by omega)
  refine FnSpec.enterP Tryz.func217 rfl Tryz.ntmps217 rfl fun w F => ?_
  repeat' first
    | ((with_reducible refine Nx.is_wp ?_); first | refine Nx.wo ?_ | refine Nx.p_drawF (id := 1) rfl [0, 2, 1] [1] [3, 4, 5] _ rfl rfl (by kernel_rfl) (by kernel_rfl) rfl PanicOk.auto (Ent.refl _) ?_ | refine Nx.p_poolF (id := 9) rfl [0, 1, 2, 3, 4] [3, 4] [] [6] [6] [⟨5, 9, 200, _⟩] rfl rfl (by kernel_rfl) (by kernel_rfl) (by decide) (PoolFit.cons ⟨⟨_, _, _, rfl⟩, rfl, rfl⟩ PoolFit.nil) PanicOk.auto (Ent.refl _) ?_ | refine Nx.zp (fun hc => ?_) (fun hc => ?_))
    | ((first | refine Nx.at_op rfl rfl ?_ | refine Nx.m_loud rfl rfl rfl ?_ | refine Nx.at_do rfl rfl rfl rfl ?_ | refine Nx.m_loud_do rfl rfl rfl rfl rfl ?_ | refine GoodF.loud_ rfl rfl rfl rfl (fun ex X => ?_)); first | refine Nx.opr rfl rfl ?_ | refine Nx.callv rfl rfl rfl (by kernel_rfl) rfl (length_spec a (by unfold W128; unfold H127 at ha; omega) I) ?_ | refine Nx.callv rfl rfl rfl (by kernel_rfl) rfl (length_spec b (by unfold W128; unfold H127 at hb; omega) I) ?_ | refine Nx.so ?_ | refine Nx.sb (fun bx => ?_) | refine Nx.sa (fun A2 c2 => ?_))
    | refine Nx.za ?_ | refine Nx.zr (fun hc => ?_) (fun hc => ?_)
    | refine Nx.zq ?_ | refine Nx.zu (fun hc => ?_) (fun hc => ?_)
    | ((with_reducible refine GoodF.is ?_); first | refine GoodF.quiet rfl rfl rfl rfl rfl rfl (by first | exact QRun.opr rfl |  exact QRun.std) ?_ | refine GoodF.done1 rfl (fun bx => ?_) | refine GoodF.done2 rfl (fun bx by_ => ?_) | refine GoodF.done3 rfl (fun bx by_ bz => ?_))
    | ((fail_if_success (with_reducible refine Nx.is_at ?_)); (fail_if_success (with_reducible refine Nx.is_wp ?_)); (fail_if_success (with_reducible refine Nx.is_mix ?_)); first | refine Nx.ex ?_ | refine Nx.pool_nextF 0 rfl (by exact Ent.auto) ?_ | refine Nx.pool_nextF 1 rfl (by exact Ent.auto) ?_ | refine Nx.pool_nextF 2 rfl (by exact Ent.auto) ?_ | refine Nx.pool_nextF 3 rfl (by exact Ent.auto) ?_)
  · have h1 : 2 ^ 61 * b ≤ a := by
      have e : 2 ^ (lenN a - 1) ≤ a := (a2 (by rintro rfl; have : lenN 0 = 0 := (by unfold lenN; rfl); omega)).2
      have : 2 ^ 61 * 2 ^ lenN b ≤ 2 ^ (lenN a - 1) := by rw [← Nat.pow_add]; exact Nat.pow_le_pow_right (by decide) (by omega)
      have : 2 ^ 61 * b ≤ 2 ^ 61 * 2 ^ lenN b := Nat.mul_le_mul_left _ (by omega)
      omega
    have h2 : ¬ a / b ≤ 1152921504606846976 := by
      have := (Nat.le_div_iff_mul_le hb0).2 h1
      omega
    refine Nx.ret_fn rfl [] ⟨0, ?_, rfl, fun h => absurd h h2, by omega, by omega⟩ (by (exact Ent.auto))
    rw [decide_eq_false h2]
  · have hla : lenN a ≤ 127 := by
      by_cases h0 : a = 0
      · subst h0
        have : lenN 0 = 0 := by unfold lenN; rfl
        omega
      · have h1 := (a2 h0).2
        have h2 : 2 ^ (lenN a - 1) < 2 ^ 127 := Nat.lt_of_le_of_lt h1 (by unfold H127 at ha; omega)
        have := (Nat.pow_lt_pow_iff_right (by decide : 1 < 2)).1 h2
        omega
    have hst : a < 2 ^ ((lenN a : Int) - lenN b + 1).toNat * b := by
      by_cases h : lenN b ≤ lenN a
      · rw [show ((lenN a : Int) - lenN b + 1).toNat = lenN a - lenN b + 1 by omega]
        have h1 : 2 ^ lenN a = 2 ^ (lenN a - lenN b + 1) * 2 ^ (lenN b - 1) := by rw [← Nat.pow_add]; congr 1; omega
        have h2 : 2 ^ (lenN a - lenN b + 1) * 2 ^ (lenN b - 1) ≤ 2 ^ (lenN a - lenN b + 1) * b := Nat.mul_le_mul_left _ b4
        omega
      · rw [show ((lenN a : Int) - lenN b + 1).toNat = 0 by omega, Nat.pow_zero, Nat.one_mul]
        have : 2 ^ lenN a ≤ 2 ^ (lenN b - 1) := Nat.pow_le_pow_right (by decide) (by omega)
        omega
    have hq62 : a / b < 2 ^ 62 := by
      rw [Nat.div_lt_iff_lt_mul hb0]
      have : 2 ^ ((lenN a : Int) - lenN b + 1).toNat ≤ 2 ^ 62 := Nat.pow_le_pow_right (by decide) (by omega)
      exact Nat.lt_of_lt_of_le hst (Nat.mul_le_mul_right _ this)
    rename_i ba
    refine Nx.p_loop (σ := Int) (fun k => [(8, .int .i64 k), (7, .int .i64 ((a / (2 ^ (k + 1).toNat * b) : Nat) : Int)), (3, .pointer (some ⟨bx, 0, none⟩)), (2, .pointer (some ⟨ba, 0, none⟩))])
      (fun k => [Blk ba 200 (wideL ((a % (2 ^ (k + 1).toNat * b) : Nat) : Int)), Blk bx 200 (wideL (b : Int)), F]) (fun k => k ≤ (lenN a : Int) - lenN b ∧ -200 ≤ k) (fun k => (k + 1).toNat) ((lenN a : Int) - lenN b) rfl ⟨by omega, by omega⟩ ⟨rfl, by rw [Nat.div_eq_of_lt hst]; rfl, rfl, rfl, trivial⟩ (by rw [Nat.mod_eq_of_lt hst]; (exact Ent.auto)) ?_
    rintro k ⟨hk, hk2⟩
    by_cases h0 : k < 0
    · have e : (k + 1).toNat = 0 := by omega
      rw [e, Nat.pow_zero, Nat.one_mul]
      repeat' first
        | ((with_reducible refine Nx.is_wp ?_); first | refine Nx.wo ?_ | refine Nx.zp (fun hc => ?_) (fun hc => ?_))
        | (refine Nx.zo ?_; first | refine Nx.opr rfl rfl ?_ | refine Nx.so ?_ | refine Nx.sb (fun bx => ?_) | refine Nx.sa (fun A2 c2 => ?_))
        | refine Nx.za ?_ | refine Nx.zr (fun hc => ?_) (fun hc => ?_)
        | refine Nx.zq ?_ | refine Nx.zu (fun hc => ?_) (fun hc => ?_)
        | refine Nx.zx ?_ | fail
      refine Nx.ret_fn rfl [] ⟨((a / b : Nat) : Int), ?_, rfl, fun _ => rfl, Int.natCast_nonneg _, by generalize a / b = Q at hq62; omega⟩ (by (exact Ent.auto))
      rw [show decide (((a / b : Nat) : Int) ≤ 1152921504606846976) = decide (a / b ≤ 1152921504606846976) from decide_eq_decide.2 (by omega)]
    · obtain ⟨j, rfl⟩ : ∃ j : Nat, k = (j : Int) := ⟨k.toNat, by omega⟩
      rw [show ((j : Int) + 1).toNat = j + 1 by omega]
      have hBj : b * 2 ^ j < 2 ^ 127 := by
        have h1 : b * 2 ^ j < 2 ^ lenN b * 2 ^ j := Nat.mul_lt_mul_of_pos_right b1 (Nat.two_pow_pos j)
        rw [← Nat.pow_add] at h1
        exact Nat.lt_of_lt_of_le h1 (Nat.pow_le_pow_right (by decide) (by omega))
      have e2 : 2 ^ (j + 1) * b = 2 * (b * 2 ^ j) := by rw [Nat.pow_succ, Nat.mul_comm b, ← Nat.mul_assoc, Nat.mul_comm 2]
      have hB0 : 0 < b * 2 ^ j := Nat.mul_pos hb0 (Nat.two_pow_pos j)
      obtain ⟨s1, s2⟩ := half_step (a := a) hB0
      have hqa : a / (2 ^ (j + 1) * b) ≤ a / b := Nat.div_le_div_left (Nat.le_mul_of_pos_left b (Nat.two_pow_pos _)) hb0
      have hq2 : 2 * (a / (2 ^ (j + 1) * b)) ≤ a / b := by
        have : a / (2 ^ (j + 1) * b) ≤ a / b / 2 := by
          rw [Nat.div_div_eq_div_mul]
          refine Nat.div_le_div_left ?_ (by omega)
          rw [Nat.pow_succ, Nat.mul_comm b]
          exact Nat.mul_le_mul_right _ (Nat.le_mul_of_pos_left 2 (Nat.two_pow_pos j))
        omega
      have hra : a % (2 ^ (j + 1) * b) ≤ a := Nat.mod_le _ _
      rw [← e2] at s1 s2
      have hnext : (2 : Nat) ^ ((j : Int) - 1 + 1).toNat * b = b * 2 ^ j := by rw [show ((j : Int) - 1 + 1).toNat = j by omega, Nat.mul_comm]
      have hw : InW (((a % (2 ^ (j + 1) * b) : Nat) : Int) - ((b * 2 ^ j : Nat) : Int)) := by unfold InW; unfold H127 at ha; omega
      generalize a / (2 ^ (j + 1) * b) = q at *
      generalize a % (2 ^ (j + 1) * b) = r at *
      repeat' first
        | ((with_reducible refine Nx.is_wp ?_); first | refine Nx.wo ?_ | refine Nx.p_drawF (id := 1) rfl [0, 2, 1] [1] [3, 4, 5] _ rfl rfl (by kernel_rfl) (by kernel_rfl) rfl PanicOk.auto (Ent.refl _) ?_ | refine Nx.p_poolF (id := 9) rfl [0, 1, 2, 3, 4] [3, 4] [] [6] [6] [⟨5, 9, 200, _⟩] rfl rfl (by kernel_rfl) (by kernel_rfl) (by decide) (PoolFit.cons ⟨⟨_, _, _, rfl⟩, rfl, rfl⟩ PoolFit.nil) PanicOk.auto (Ent.refl _) ?_ | refine Nx.zp (fun hc => ?_) (fun hc => ?_))
        | ((first | refine Nx.at_op rfl rfl ?_ | refine Nx.m_loud rfl rfl rfl ?_ | refine Nx.at_do rfl rfl rfl rfl ?_ | refine Nx.m_loud_do rfl rfl rfl rfl rfl ?_ | refine GoodF.loud_ rfl rfl rfl rfl (fun ex X => ?_)); first | refine Nx.opr rfl rfl ?_ | refine Nx.callv rfl rfl rfl (by kernel_rfl) rfl (left_spec b j (by omega) (by unfold W128; omega) I) ?_ | refine Nx.callv rfl rfl rfl (by kernel_rfl) rfl (minus_spec _ _ I) ?_ | refine Nx.callv rfl rfl rfl (by kernel_rfl) rfl (sign_spec _ hw I) ?_ | refine Nx.so ?_ | refine Nx.sb (fun bx => ?_) | refine Nx.sa (fun A2 c2 => ?_))
        | refine Nx.za ?_ | refine Nx.zr (fun hc => ?_) (fun hc => ?_)
        | refine Nx.zq ?_ | refine Nx.zu (fun hc => ?_) (fun hc => ?_)
        | ((with_reducible refine GoodF.is ?_); first | refine GoodF.quiet rfl rfl rfl rfl rfl rfl (by first | exact QRun.opr rfl |  exact QRun.std) ?_ | refine GoodF.done1 rfl (fun bx => ?_) | refine GoodF.done2 rfl (fun bx by_ => ?_) | refine GoodF.done3 rfl (fun bx by_ bz => ?_))
        | ((fail_if_success (with_reducible refine Nx.is_at ?_)); (fail_if_success (with_reducible refine Nx.is_wp ?_)); (fail_if_success (with_reducible refine Nx.is_mix ?_)); first | refine Nx.ex ?_ | refine Nx.pool_nextF 0 rfl (by exact Ent.auto) ?_ | refine Nx.pool_nextF 1 rfl (by exact Ent.auto) ?_ | refine Nx.pool_nextF 2 rfl (by exact Ent.auto) ?_ | refine Nx.pool_nextF 3 rfl (by exact Ent.auto) ?_)
      · have hge : ¬ r < b * 2 ^ j := by
          have := Int.sign_nonneg_iff.1 hc
          omega
        obtain ⟨k1, k2⟩ := s2 hge
        refine Nx.again ((j : Int) - 1) ⟨by omega, by omega⟩ (by omega) ⟨rfl, ?_, rfl, rfl, trivial⟩ ?_
        · rw [hnext, k2, show ((2 * q + 1 : Nat) : Int) = (q : Int) * 2 + 1 by omega]; rfl
        · rw [hnext, k1, show ((r - b * 2 ^ j : Nat) : Int) = (r : Int) - ((b * 2 ^ j : Nat) : Int) by omega]
          exact Ent.pickE 0 rfl rfl (by (exact Ent.auto))
      · have hlt : r < b * 2 ^ j := by
          have : ¬ 0 ≤ (r : Int) - ((b * 2 ^ j : Nat) : Int) := fun h => hc (Int.sign_nonneg_iff.2 h)
          omega
        obtain ⟨k1, k2⟩ := s1 hlt
        refine Nx.again ((j : Int) - 1) ⟨by omega, by omega⟩ (by omega) ⟨rfl, ?_, rfl, rfl, trivial⟩ ?_
        · rw [hnext, k2, show ((2 * q : Nat) : Int) = (q : Int) * 2 by omega]; rfl
        · rw [hnext, k1]
          (exact Ent.auto)
end Go.Proofs.YtpcnapidlhpbkaaGreatDoor
namespace Go.Proofs.YtpcnapidlhpbkaaGreatDoor
open Go.Eng
attribute [local irreducible] opK wpList Code.wp Exit.then Exit.inBlock fnPost bodyPost Nx Calls Oper.wp Rd Rds Wr Ent Stars Blk Again Vec FnSpec wpMix QRun Stop Upto wpAt
theorem neq0 {x y : Operand} (z : Int) (hz : InW z) (w : World) :
    (do eqGuard .neq 200 x y (wideV z) (.agg #[.int .u64 0, .int .u64 0]); binOp .neq 200 (wideV z) (.agg #[.int .u64 0, .int .u64 0])).run Tryz.prog w = .ok (.bool (decide (¬ z = 0))) w := by
  have h := neq_wide (x := x) (y := y) (wH z : Int) (wL z : Int) 0 0 w
  rw [zero_bool hz] at h
  rw [show decide (¬ z = 0) = !decide (z = 0) by simp]
  exact h
theorem gcd_mul_odd {b x : Nat} (hx : x % 2 = 1) (hb : b ≠ 0) (hbl : b < W128) : ∃ m, b / 2 ^ zerN b = 2 * m + 1 ∧ Nat.gcd x b = Nat.gcd x (2 * m + 1) ∧ b = 2 ^ zerN b * (2 * m + 1) ∧ zerN b < 128 := by
  obtain ⟨m, hm, hz⟩ := zerN_spec hb hbl
  refine ⟨m, ?_, ?_, hm, hz⟩
  · conv => lhs; arg 1; rw [hm]
    exact Nat.mul_div_cancel_left _ (Nat.two_pow_pos _)
  · conv => lhs; rw [hm]
    exact gcd_odd hx
attribute [local irreducible] wH wL lenN zerN
set_option maxRecDepth 10000 in
theorem common_spec (a b : Nat) (ha0 : 0 < a) (ha : a < H127) (hb : b < H127) (I : PH) (hT : TabI I) : FnSpec Tryz.prog 215 [wideV (a : Int), wideV (b : Int)] I [] (fun v R' => v = wideV ((Nat.gcd a b : Nat) : Int) ∧ R' = []) := by
  have ha' : a < W128 := by unfold W128; unfold H127 at ha; omega
  have hb' : b < W128 := by unfold W128; unfold H127 at hb; omega
  have hwb : InW (b : Int) := by unfold InW; unfold H127 at hb; omega
  obtain ⟨u, hu, hz⟩ := zerN_spec (by omega : a ≠ 0) ha'
  have hua : a / 2 ^ zerN a = 2 * u + 1 := by
    conv => lhs; arg 1; rw [hu]
    exact Nat.mul_div_cancel_left _ (Nat.two_pow_pos _)
  have hule : 2 * u + 1 ≤ a := by rw [← hua]; exact Nat.div_le_self _ _
  have hzb : b ≠ 0 → zerN b < 128 := fun h => (zerN_spec h hb').choose_spec.2
  refine FnSpec.enterP Tryz.func215 rfl Tryz.ntmps215 rfl fun w F => ?_
  repeat' first
    | ((with_reducible refine Nx.is_wp ?_); first | refine Nx.wo ?_ | refine Nx.p_drawF (id := 3) rfl [0, 2, 1] [1] [3, 4, 5] _ rfl rfl (by kernel_rfl) (by kernel_rfl) rfl PanicOk.auto (Ent.refl _) ?_ | refine Nx.p_drawF (id := 4) rfl [0, 1, 2] [2] [3, 4] _ rfl rfl (by kernel_rfl) (by kernel_rfl) rfl PanicOk.auto (Ent.refl _) ?_ | refine Nx.p_drawF (id := 6) rfl [0, 1, 2] [2] [3, 4] _ rfl rfl (by kernel_rfl) (by kernel_rfl) rfl PanicOk.auto (Ent.refl _) ?_ | refine Nx.zp (fun hc => ?_) (fun hc => ?_))
    | (refine Nx.zo ?_; first | refine Nx.opr rfl rfl ?_ | refine Nx.callv rfl rfl rfl (by kernel_rfl) rfl (zeros_spec _ ha' I hT) ?_ | refine Nx.callv rfl rfl rfl (by kernel_rfl) rfl (zeros_spec _ hb' I hT) ?_ | refine Nx.binr rfl rfl (eql_wide _ _ _ _) rfl ?_ | refine Nx.callv rfl rfl rfl (by kernel_rfl) rfl (frright_spec a (zerN a) hz ha' I) ?_ | refine Nx.so ?_ | refine Nx.sb (fun bx => ?_) | refine Nx.sa (fun A2 c2 => ?_))
    | refine Nx.za ?_ | refine Nx.zr (fun hc => ?_) (fun hc => ?_)
    | refine Nx.zq ?_ | refine Nx.zu (fun hc => ?_) (fun hc => ?_)
    | refine Nx.zx ?_ | fail
  · rw [zero_bool hwb, decide_eq_true_eq] at hc
    obtain rfl : b = 0 := by omega
    rw [Nat.gcd_zero_right]
    refine Nx.ret_cell 0 rfl rfl rfl rfl rfl rfl [] ⟨rfl, rfl⟩ ?_
    (exact Ent.auto)
  · rw [zero_bool hwb, decide_eq_false_iff_not] at hc
    rename_i ba bb
    have hb0 : b ≠ 0 := by omega
    have hzb := hzb hb0
    obtain ⟨v, hv, _⟩ := zerN_spec hb0 hb'
    have hgcd : Nat.gcd a b = 2 ^ (min (zerN a) (zerN b)) * Nat.gcd (2 * u + 1) b := by
      have h1 : Nat.gcd a b = 2 ^ (min (zerN a) (zerN b)) * Nat.gcd (2 * u + 1) (2 * v + 1) := by
        conv => lhs; rw [hu, hv]
        exact gcd_twos (by omega) (by omega)
      have h2 : Nat.gcd (2 * u + 1) b = Nat.gcd (2 * u + 1) (2 * v + 1) := by
        conv => lhs; rw [hv]
        exact gcd_odd (by omega)
      rw [h1, h2]
    have hgle : Nat.gcd a b ≤ a := Nat.le_of_dvd ha0 (Nat.gcd_dvd_left a b)
    rw [hua]
    refine Nx.p_loop (σ := Nat × Nat) (fun _ => [(5, .int .i64 (min (zerN a : Int) (zerN b : Int))), (4, .pointer (some ⟨bx, 0, none⟩)), (3, .pointer (some ⟨bb, 0, none⟩)), (2, .pointer (some ⟨ba, 0, none⟩))])
      (fun s => [Blk ba 200 (wideL (s.1 : Int)), Blk bb 200 (wideL (s.2 : Int)), Blk bx 200 [.int .u64 0, .int .u64 0], F])
      (fun s => s.1 < H127 ∧ s.2 < H127 ∧ s.1 % 2 = 1 ∧ Nat.gcd s.1 s.2 = Nat.gcd (2 * u + 1) b) (fun s => s.1 + s.2) (2 * u + 1, b) rfl ⟨by omega, hb, by omega, rfl⟩ ⟨rfl, rfl, rfl, rfl, trivial⟩ (by (exact Ent.auto)) ?_
    rintro ⟨x, y⟩ ⟨hx, hy, ho, hg⟩
    simp only at hx hy ho hg ⊢
    have hx' : x < 170141183460469231731687303715884105728 := hx
    have hy' : y < 170141183460469231731687303715884105728 := hy
    have hwy : InW (y : Int) := by unfold InW; omega
    by_cases h0 : y = 0
    · subst h0
      rw [Nat.gcd_zero_right] at hg
      subst hg
      rw [show min (zerN a : Int) (zerN b : Int) = ((min (zerN a) (zerN b) : Nat) : Int) by omega]
      have hlt : Nat.gcd (2 * u + 1) b * 2 ^ (min (zerN a) (zerN b)) < W128 := by rw [Nat.mul_comm, ← hgcd]; omega
      repeat' first
        | ((with_reducible refine Nx.is_wp ?_); first | refine Nx.wo ?_ | refine Nx.zp (fun hc => ?_) (fun hc => ?_))
        | (refine Nx.zo ?_; first | refine Nx.opr rfl rfl ?_ | refine Nx.binr rfl rfl (neq0 _ hwy) rfl ?_ | refine Nx.callv rfl rfl rfl (by kernel_rfl) rfl (left_spec _ _ (by omega) hlt I) ?_ | refine Nx.so ?_ | refine Nx.sb (fun bx => ?_) | refine Nx.sa (fun A2 c2 => ?_))
        | refine Nx.za ?_ | refine Nx.zr (fun hc => ?_) (fun hc => ?_)
        | refine Nx.zq ?_ | refine Nx.zu (fun hc => ?_) (fun hc => ?_)
        | refine Nx.zx ?_ | fail
      refine Nx.ret_cell 0 rfl rfl rfl rfl rfl rfl [] ⟨congrArg wideV ?_, rfl⟩ ?_
      · rw [hgcd, Nat.mul_comm]
      · (exact Ent.auto)
    · obtain ⟨m, hm1, hm2, hm3, hzy⟩ := gcd_mul_odd ho h0 (by unfold W128; omega)
      have hml : 2 * m + 1 ≤ y := by rw [← hm1]; exact Nat.div_le_self _ _
      have hr := frright_spec y (zerN y) hzy (by unfold W128; omega) I
      rw [hm1] at hr
      repeat' first
        | ((with_reducible refine Nx.is_wp ?_); first | refine Nx.wo ?_ | refine Nx.p_drawF (id := 3) rfl [0, 2, 1] [1] [3, 4, 5] _ rfl rfl (by kernel_rfl) (by kernel_rfl) rfl PanicOk.auto (Ent.refl _) ?_ | refine Nx.p_drawF (id := 4) rfl [0, 1, 2] [2] [3, 4] _ rfl rfl (by kernel_rfl) (by kernel_rfl) rfl PanicOk.auto (Ent.refl _) ?_ | refine Nx.p_drawF (id := 6) rfl [0, 1, 2] [2] [3, 4] _ rfl rfl (by kernel_rfl) (by kernel_rfl) rfl PanicOk.auto (Ent.refl _) ?_ | refine Nx.zp (fun hc => ?_) (fun hc => ?_))
        | (refine Nx.zo ?_; first | refine Nx.opr rfl rfl ?_ | refine Nx.callv rfl rfl rfl (by kernel_rfl) rfl (zeros_spec y (by unfold W128; omega) I hT) ?_ | refine Nx.binr rfl rfl (neq0 _ hwy) rfl ?_ | refine Nx.callv rfl rfl rfl (by kernel_rfl) rfl hr ?_ | refine Nx.callv rfl rfl rfl (by kernel_rfl) rfl (minus_spec _ _ I) ?_ | refine Nx.callv rfl rfl rfl (by kernel_rfl) rfl (sign_spec _ (by unfold InW; omega) I) ?_ | refine Nx.so ?_ | refine Nx.sb (fun bx => ?_) | refine Nx.sa (fun A2 c2 => ?_))
        | refine Nx.za ?_ | refine Nx.zr (fun hc => ?_) (fun hc => ?_)
        | refine Nx.zq ?_ | refine Nx.zu (fun hc => ?_) (fun hc => ?_)
        | refine Nx.zx ?_ | fail
      · have hlt : 2 * m + 1 < x := by
          have := Int.sign_neg_iff.1 hc
          omega
        refine Nx.again (2 * m + 1, x - (2 * m + 1)) ⟨by omega, by show x - (2 * m + 1) < H127; omega, by show (2 * m + 1) % 2 = 1; omega, ?_⟩ (by show 2 * m + 1 + (x - (2 * m + 1)) < x + y; omega) ⟨rfl, rfl, rfl, rfl, trivial⟩ ?_
        · show Nat.gcd (2 * m + 1) (x - (2 * m + 1)) = _
          rw [gcd_sub (by omega), Nat.gcd_comm, ← hm2, hg]
        · show Ent _ [Blk ba _ _, Blk bb _ (wideL ((x - (2 * m + 1) : Nat) : Int)), _, _]
          rw [show ((x - (2 * m + 1) : Nat) : Int) = (x : Int) - ((2 * m + 1 : Nat) : Int) by omega]
          exact Ent.pickE 1 rfl rfl (Ent.pickE 0 rfl rfl (by (exact Ent.auto)))
      · have hle : x ≤ 2 * m + 1 := by
          have : ¬ ((2 * m + 1 : Nat) : Int) - (x : Int) < 0 := fun h => hc (Int.sign_neg_iff.2 h)
          omega
        refine Nx.again (x, 2 * m + 1 - x) ⟨hx, by show 2 * m + 1 - x < H127; omega, ho, ?_⟩ (by show x + (2 * m + 1 - x) < x + y; omega) ⟨rfl, rfl, rfl, rfl, trivial⟩ ?_
        · show Nat.gcd x (2 * m + 1 - x) = _
          rw [gcd_sub hle, ← hm2, hg]
        · show Ent _ [Blk ba _ _, Blk bb _ (wideL ((2 * m + 1 - x : Nat) : Int)), _, _]
          rw [show ((2 * m + 1 - x : Nat) : Int) = ((2 * m + 1 : Nat) : Int) - (x : Int) by omega]
          exact Ent.pickE 1 rfl rfl (Ent.pickE 0 rfl rfl (by (exact Ent.auto)))
end Go.Proofs.YtpcnapidlhpbkaaGreatDoor
namespace Go.Proofs.YtpcnapidlhpbkaaGreatDoor
open Go.Eng
attribute [local irreducible] opK wpList Code.wp Exit.then Exit.inBlock fnPost bodyPost Nx Calls Oper.wp Rd Rds Wr Ent Stars Blk Again Vec FnSpec wpMix QRun Stop Upto wpAt
set_option maxRecDepth 10000 in
theorem gcd_spec (a b : Int) (ha : a.natAbs ≤ 9223372036854775807) (hb : b.natAbs ≤ 9223372036854775807) (I : PH) : FnSpec Tryz.prog 100 [.int .i64 a, .int .i64 b] I [] (fun v R' => v = .int .i64 (Nat.gcd a.natAbs b.natAbs : Nat) ∧ R' = []) := by
  refine FnSpec.enterP Tryz.func100 rfl Tryz.ntmps100 rfl fun w F => ?_
  repeat' first
    | ((with_reducible refine Nx.is_wp ?_); first | refine Nx.wo ?_ | refine Nx.zp (fun hc => ?_) (fun hc => ?_))
    | (refine Nx.zo ?_; first | refine Nx.opr rfl rfl ?_ | refine Nx.so ?_ | refine Nx.sb (fun bx => ?_) | refine Nx.sa (fun A2 c2 => ?_))
    | refine Nx.za ?_ | refine Nx.zr (fun hc => ?_) (fun hc => ?_)
    | refine Nx.zq ?_ | refine Nx.zu (fun hc => ?_) (fun hc => ?_)
    | refine Nx.zx ?_ | fail
  refine Nx.p_loop (σ := Int × Int) (fun s => [(0, .int .i64 s.1), (1, .int .i64 s.2)]) (fun _ => [F]) (fun s => s.1.natAbs ≤ 9223372036854775807 ∧ s.2.natAbs ≤ 9223372036854775807 ∧ Nat.gcd s.1.natAbs s.2.natAbs = Nat.gcd a.natAbs b.natAbs) (fun s => s.2.natAbs) (a, b) rfl ⟨ha, hb, rfl⟩ ⟨rfl, rfl, trivial⟩ (Ent.refl _) ?_
  rintro ⟨x, y⟩ ⟨hx, hy, hg⟩
  simp only at hx hy hg ⊢
  by_cases h0 : y = 0
  · subst h0
    rw [Int.natAbs_zero, Nat.gcd_zero_right] at hg
    repeat' first
      | ((with_reducible refine Nx.is_wp ?_); first | refine Nx.wo ?_ | refine Nx.zp (fun hc => ?_) (fun hc => ?_))
      | (refine Nx.zo ?_; first | refine Nx.opr rfl rfl ?_ | refine Nx.so ?_ | refine Nx.sb (fun bx => ?_) | refine Nx.sa (fun A2 c2 => ?_))
      | refine Nx.za ?_ | refine Nx.zr (fun hc => ?_) (fun hc => ?_)
      | refine Nx.zq ?_ | refine Nx.zu (fun hc => ?_) (fun hc => ?_)
      | refine Nx.zx ?_ | fail
    exact Nx.ret_fn rfl [] ⟨by rw [← hg]; exact congrArg (Value.int .i64) (by omega), rfl⟩ (Ent.refl _)
  · have hm : (x.tmod y).natAbs = x.natAbs % y.natAbs := Int.natAbs_tmod x y
    have hlt : x.natAbs % y.natAbs < y.natAbs := Nat.mod_lt _ (by omega)
    repeat' first
      | ((with_reducible refine Nx.is_wp ?_); first | refine Nx.wo ?_ | refine Nx.p_drawF (id := 2) rfl [0, 1, 2, 3, 4, 5] [] [] _ rfl rfl (by kernel_rfl) (by kernel_rfl) rfl PanicOk.auto (Ent.refl _) ?_ | refine Nx.zp (fun hc => ?_) (fun hc => ?_))
      | (refine Nx.zo ?_; first | refine Nx.opr rfl rfl ?_ | refine Nx.so ?_ | refine Nx.sb (fun bx => ?_) | refine Nx.sa (fun A2 c2 => ?_))
      | refine Nx.za ?_ | refine Nx.zr (fun hc => ?_) (fun hc => ?_)
      | ((with_reducible refine Nx.is_mix ?_); first | refine Nx.m_quiet rfl rfl rfl rfl rfl (by first | exact QRun.opr rfl | exact QRun.bin rfl rfl (run_remT h0)) ?_ | refine Nx.m_quiet_do rfl rfl rfl rfl rfl rfl rfl (by first | exact QRun.opr rfl | exact QRun.bin rfl rfl (run_remT h0)) ?_ | refine Nx.m ?_ | refine Nx.zm ?_ | refine Nx.zt (fun hc => ?_) (fun hc => ?_))
      | refine Nx.zx ?_ | fail
    refine Nx.again (y, x.tmod y) ⟨hy, by show (x.tmod y).natAbs ≤ _; omega, ?_⟩ (by show (x.tmod y).natAbs < y.natAbs; omega) ⟨rfl, rfl, trivial⟩ (Ent.refl _)
    show Nat.gcd y.natAbs (x.tmod y).natAbs = _
    rw [hm, Nat.gcd_comm, ← Nat.gcd_rec, Nat.gcd_comm]
    exact hg
set_option maxRecDepth 10000 in
theorem divisor_spec (a b : Nat) (ha : a ≤ 9223372036854775807) (hb : b ≤ 9223372036854775807) (I : PH) : FnSpec Tryz.prog 107 [.int .i64 (a : Int), .int .i64 (b : Int)] I [] (fun v R' => v = .int .i64 (Nat.gcd a b : Nat) ∧ R' = []) := by
  refine FnSpec.enterP Tryz.func107 rfl Tryz.ntmps107 rfl fun w F => ?_
  repeat' first
    | ((with_reducible refine Nx.is_wp ?_); first | refine Nx.wo ?_ | refine Nx.zp (fun hc => ?_) (fun hc => ?_))
    | (refine Nx.zo ?_; first | refine Nx.opr rfl rfl ?_ | refine Nx.so ?_ | refine Nx.sb (fun bx => ?_) | refine Nx.sa (fun A2 c2 => ?_))
    | refine Nx.za ?_ | refine Nx.zr (fun hc => ?_) (fun hc => ?_)
    | refine Nx.zq ?_ | refine Nx.zu (fun hc => ?_) (fun hc => ?_)
    | refine Nx.zx ?_ | fail
  refine Nx.p_loop (σ := Nat × Nat) (fun s => [(0, .int .i64 (s.1 : Int)), (1, .int .i64 (s.2 : Int))]) (fun _ => [F]) (fun s => s.1 ≤ 9223372036854775807 ∧ s.2 ≤ 9223372036854775807 ∧ Nat.gcd s.1 s.2 = Nat.gcd a b) (fun s => s.2) (a, b) rfl ⟨ha, hb, rfl⟩ ⟨rfl, rfl, trivial⟩ (Ent.refl _) ?_
  rintro ⟨x, y⟩ ⟨hx, hy, hg⟩
  simp only at hx hy hg ⊢
  by_cases h0 : y = 0
  · subst h0
    rw [Nat.gcd_zero_right] at hg
    repeat' first
      | ((with_reducible refine Nx.is_wp ?_); first | refine Nx.wo ?_ | refine Nx.zp (fun hc => ?_) (fun hc => ?_))
      | (refine Nx.zo ?_; first | refine Nx.opr rfl rfl ?_ | refine Nx.so ?_ | refine Nx.sb (fun bx => ?_) | refine Nx.sa (fun A2 c2 => ?_))
      | refine Nx.za ?_ | refine Nx.zr (fun hc => ?_) (fun hc => ?_)
      | refine Nx.zq ?_ | refine Nx.zu (fun hc => ?_) (fun hc => ?_)
      | refine Nx.zx ?_ | fail
    exact Nx.ret_fn rfl [] ⟨by rw [← hg], rfl⟩ (Ent.refl _)
  · have hlt : x % y < y := Nat.mod_lt _ (by omega)
    repeat' first
      | ((with_reducible refine Nx.is_wp ?_); first | refine Nx.wo ?_ | refine Nx.p_drawF (id := 2) rfl [0, 1, 2, 3, 4, 5] [] [] _ rfl rfl (by kernel_rfl) (by kernel_rfl) rfl PanicOk.auto (Ent.refl _) ?_ | refine Nx.zp (fun hc => ?_) (fun hc => ?_))
      | (refine Nx.zo ?_; first | refine Nx.opr rfl rfl ?_ | refine Nx.so ?_ | refine Nx.sb (fun bx => ?_) | refine Nx.sa (fun A2 c2 => ?_))
      | refine Nx.za ?_ | refine Nx.zr (fun hc => ?_) (fun hc => ?_)
      | ((with_reducible refine Nx.is_mix ?_); first | refine Nx.m_quiet rfl rfl rfl rfl rfl (by first | exact QRun.opr rfl | exact QRun.bin rfl rfl (run_remT (by omega))) ?_ | refine Nx.m_quiet_do rfl rfl rfl rfl rfl rfl rfl (by first | exact QRun.opr rfl | exact QRun.bin rfl rfl (run_remT (by omega))) ?_ | refine Nx.m ?_ | refine Nx.zm ?_ | refine Nx.zt (fun hc => ?_) (fun hc => ?_))
      | refine Nx.zx ?_ | fail
    refine Nx.again (y, x % y) ⟨hy, by show x % y ≤ _; omega, ?_⟩ hlt ⟨rfl, by rw [Int.tmod_eq_emod_of_nonneg (by omega), ← Int.natCast_emod]; rfl, trivial⟩ (Ent.refl _)
    show Nat.gcd y (x % y) = _
    rw [Nat.gcd_comm, ← Nat.gcd_rec, Nat.gcd_comm]
    exact hg
set_option maxRecDepth 10000 in
theorem frValid_spec (n d : Int) (hn : I64 n) (hd : I64 d) (I : PH) : FnSpec Tryz.prog 43 [fracV n d] I [] (fun v R' => v = .bool (decide (FOk n d)) ∧ R' = []) := by
  unfold I64 at hn hd
  refine FnSpec.enterP Tryz.func43 rfl Tryz.ntmps43 rfl fun w F => ?_
  by_cases h : 1 ≤ d ∧ d ≤ 1152921504606846976 ∧ -1152921504606846976 ≤ n ∧ n ≤ 1152921504606846976
  · obtain ⟨h1, h2, h3, h4⟩ := h
    repeat' first
      | ((with_reducible refine Nx.is_wp ?_); first | refine Nx.wo ?_ | refine Nx.zp (fun hc => ?_) (fun hc => ?_))
      | (refine Nx.zo ?_; first | refine Nx.opr rfl rfl ?_ | refine Nx.callv rfl rfl rfl (by kernel_rfl) rfl (gcd_spec n d (by omega) (by omega) I) ?_ | refine Nx.so ?_ | refine Nx.sb (fun bx => ?_) | refine Nx.sa (fun A2 c2 => ?_))
      | refine Nx.za ?_ | refine Nx.zr (fun hc => ?_) (fun hc => ?_)
      | refine Nx.zq ?_ | refine Nx.zu (fun hc => ?_) (fun hc => ?_)
      | refine Nx.zx ?_ | fail
    refine Nx.ret_fn rfl [] ⟨bool_congr ?_, rfl⟩ (by (exact Ent.auto))
    unfold FOk
    constructor
    · intro h; exact ⟨h1, h2, h3, h4, by omega⟩
    · rintro ⟨_, _, _, _, h⟩; omega
  · have hno : decide (FOk n d) = false := decide_eq_false fun h' => h ⟨h'.1, h'.2.1, h'.2.2.1, h'.2.2.2.1⟩
    rw [hno]
    repeat' first
      | ((with_reducible refine Nx.is_wp ?_); first | refine Nx.wo ?_ | refine Nx.zp (fun hc => ?_) (fun hc => ?_))
      | (refine Nx.zo ?_; first | refine Nx.opr rfl rfl ?_ | refine Nx.so ?_ | refine Nx.sb (fun bx => ?_) | refine Nx.sa (fun A2 c2 => ?_))
      | refine Nx.za ?_ | refine Nx.zr (fun hc => ?_) (fun hc => ?_)
      | refine Nx.zq ?_ | refine Nx.zu (fun hc => ?_) (fun hc => ?_)
      | refine Nx.zx ?_ | fail
    all_goals first
      | exact Nx.ret_fn rfl [] ⟨rfl, rfl⟩ (by (exact Ent.auto))
      | skip
    all_goals trace_state
set_option maxRecDepth 10000 in
theorem rValid_spec (n d : Int) (hn : I64 n) (hd : I64 d) (I : PH) : FnSpec Tryz.prog 50 [fracV n d] I [] (fun v R' => v = .bool (decide (FOk n d)) ∧ R' = []) := by
  unfold I64 at hn hd
  refine FnSpec.enterP Tryz.func50 rfl Tryz.ntmps50 rfl fun w F => ?_
  by_cases h : 1 ≤ d ∧ d ≤ 1152921504606846976 ∧ -1152921504606846976 ≤ n ∧ n ≤ 1152921504606846976
  · obtain ⟨h1, h2, h3, h4⟩ := h
    repeat' first
      | ((with_reducible refine Nx.is_wp ?_); first | refine Nx.wo ?_ | refine Nx.zp (fun hc => ?_) (fun hc => ?_))
      | (refine Nx.zo ?_; first | refine Nx.opr rfl rfl ?_ | refine Nx.call (al := [.int .i64 ((d.natAbs : Nat) : Int), .int .i64 ((n.natAbs : Nat) : Int)]) (Rpre := []) rfl rfl (by rw [show ((d.natAbs : Nat) : Int) = d by omega, show ((n.natAbs : Nat) : Int) = max n (-n) by omega]; rfl) (by kernel_rfl) rfl (divisor_spec d.natAbs n.natAbs (by omega) (by omega) I) (Ent.refl _) ?_; rintro _ _ ⟨rfl, rfl⟩ | refine Nx.so ?_ | refine Nx.sb (fun bx => ?_) | refine Nx.sa (fun A2 c2 => ?_))
      | refine Nx.za ?_ | refine Nx.zr (fun hc => ?_) (fun hc => ?_)
      | refine Nx.zq ?_ | refine Nx.zu (fun hc => ?_) (fun hc => ?_)
      | refine Nx.zx ?_ | fail
    refine Nx.ret_fn rfl [] ⟨bool_congr ?_, rfl⟩ (by (exact Ent.auto))
    unfold FOk
    rw [Nat.gcd_comm n.natAbs]
    constructor
    · intro h; exact ⟨h1, h2, h3, h4, by omega⟩
    · rintro ⟨_, _, _, _, h⟩; omega
  · have hno : decide (FOk n d) = false := decide_eq_false fun h' => h ⟨h'.1, h'.2.1, h'.2.2.1, h'.2.2.2.1⟩
    rw [hno]
    repeat' first
      | ((with_reducible refine Nx.is_wp ?_); first | refine Nx.wo ?_ | refine Nx.zp (fun hc => ?_) (fun hc => ?_))
      | (refine Nx.zo ?_; first | refine Nx.opr rfl rfl ?_ | refine Nx.so ?_ | refine Nx.sb (fun bx => ?_) | refine Nx.sa (fun A2 c2 => ?_))
      | refine Nx.za ?_ | refine Nx.zr (fun hc => ?_) (fun hc => ?_)
      | refine Nx.zq ?_ | refine Nx.zu (fun hc => ?_) (fun hc => ?_)
      | refine Nx.zx ?_ | fail
    all_goals first
      | exact Nx.ret_fn rfl [] ⟨rfl, rfl⟩ (by (exact Ent.auto))
      | skip
    all_goals trace_state
end Go.Proofs.YtpcnapidlhpbkaaGreatDoor
namespace Go.Proofs.YtpcnapidlhpbkaaGreatDoor
open Go.Eng
attribute [local irreducible] opK wpList Code.wp Exit.then Exit.inBlock fnPost bodyPost Nx Calls Oper.wp Rd Rds Wr Ent Stars Blk Again Vec FnSpec wpMix QRun Stop Upto wpAt
theorem opp2 (z : Int) (I : PH) : FnSpec Tryz.prog 214 [wideV (-z)] I [] (fun v R' => v = wideV z ∧ R' = []) := by
  have := opposite_spec (-z) I
  rw [Int.neg_neg] at this
  exact this
theorem redV_ok {z : Int} {D : Nat} (hD : 0 < D) (h1 : z.natAbs / Nat.gcd D z.natAbs ≤ 1152921504606846976) (h2 : D / Nat.gcd D z.natAbs ≤ 1152921504606846976) :
    redV (Rat.divInt z D) = .tuple #[.agg #[.int .i64 (((z.natAbs / Nat.gcd D z.natAbs : Nat) : Int) * z.sign), .int .i64 ((D / Nat.gcd D z.natAbs : Nat) : Int)], .int .i64 0] := by
  obtain ⟨e1, e2, e3⟩ := div_parts z hD
  rw [redV_pos (by unfold RB; rw [e1, e2]; exact ⟨h1, h2⟩)]
  unfold ratV fracV
  rw [e1, e3]
theorem redV_no {z : Int} {D : Nat} (hD : 0 < D) (h : ¬ (z.natAbs / Nat.gcd D z.natAbs ≤ 1152921504606846976 ∧ D / Nat.gcd D z.natAbs ≤ 1152921504606846976)) :
    redV (Rat.divInt z D) = .tuple #[.agg #[.int .i64 0, .int .i64 0], .int .i64 14] := by
  obtain ⟨e1, e2, e3⟩ := div_parts z hD
  rw [redV_neg (by unfold RB; rw [e1, e2]; exact h)]
  rfl
attribute [local irreducible] wH wL
set_option maxRecDepth 10000 in
theorem Reduced_spec (n d : Int) (hn : n.natAbs < H127) (hd0 : d ≠ 0) (hd : d.natAbs < H127) (I : PH) (hT : TabI I) : FnSpec Tryz.prog 164 [wideV n, wideV d] I [] (fun v R' => v = redV (Rat.divInt n d) ∧ R' = []) := by
  have hn' : n.natAbs < 170141183460469231731687303715884105728 := hn
  have hd' : d.natAbs < 170141183460469231731687303715884105728 := hd
  by_cases hneg : d < 0
  · obtain ⟨D, rfl⟩ : ∃ D : Nat, d = -(D : Int) := ⟨d.natAbs, by omega⟩
    obtain ⟨z, rfl⟩ : ∃ z : Int, n = -z := ⟨-n, by omega⟩
    rw [Rat.neg_divInt_neg]
    have hD : 0 < D := by omega
    have hs : (-(D : Int)).sign < 0 := Int.sign_neg_iff.2 hneg
    have hg0 : 0 < Nat.gcd D z.natAbs := Nat.gcd_pos_of_pos_left _ hD
    have hgD : Nat.gcd D z.natAbs ≤ D := Nat.gcd_le_left _ hD
    refine FnSpec.enterP Tryz.func164 rfl Tryz.ntmps164 rfl fun w F => ?_
    repeat' first
      | ((with_reducible refine Nx.is_wp ?_); first | refine Nx.wo ?_ | refine Nx.p_drawF (id := 2) rfl [0, 2, 1] [1] [3, 4, 5] _ rfl rfl (by kernel_rfl) (by kernel_rfl) rfl PanicOk.auto (Ent.refl _) ?_ | refine Nx.p_poolF (id := 3) rfl [0, 1, 2, 3] [2, 3] [] [5] [5] [⟨4, 6, 200, _⟩] rfl rfl (by kernel_rfl) (by kernel_rfl) (by decide) (PoolFit.cons ⟨⟨_, _, _, rfl⟩, rfl, rfl⟩ PoolFit.nil) PanicOk.auto (Ent.refl _) ?_ | refine Nx.p_drawF (id := 4) rfl [0, 2, 1, 3, 4, 5, 6, 7, 8] [1, 3] [] _ rfl rfl (by kernel_rfl) (by kernel_rfl) rfl PanicOk.auto (Ent.refl _) ?_ | refine Nx.zp (fun hc => ?_) (fun hc => ?_))
      | ((first | refine Nx.at_op rfl rfl ?_ | refine Nx.m_loud rfl rfl rfl ?_ | refine Nx.at_do rfl rfl rfl rfl ?_ | refine Nx.m_loud_do rfl rfl rfl rfl rfl ?_ | refine GoodF.loud_ rfl rfl rfl rfl (fun ex X => ?_)); first | refine Nx.opr rfl rfl ?_ | refine Nx.callv rfl rfl rfl (by kernel_rfl) rfl (sign_spec (-(D : Int)) (by unfold InW; omega) I) ?_ | refine Nx.callv rfl rfl rfl (by kernel_rfl) rfl (opp2 _ I) ?_ | refine Nx.callv rfl rfl rfl (by kernel_rfl) rfl (size_spec z (by unfold InW; omega) I) ?_ | refine Nx.callv rfl rfl rfl (by kernel_rfl) rfl (common_spec D z.natAbs hD (by unfold H127; omega) (by unfold H127; omega) I hT) ?_ | refine Nx.call (Rpre := []) rfl rfl rfl (by kernel_rfl) rfl (over_spec z.natAbs _ (by unfold H127; omega) hg0 (by unfold H127; omega) I) (Ent.refl _) ?_; rintro _ _ ⟨q1, rfl, rfl, hq1, hb1, hb2⟩ | refine Nx.call (Rpre := []) rfl rfl rfl (by kernel_rfl) rfl (over_spec D _ (by unfold H127; omega) hg0 (by unfold H127; omega) I) (Ent.refl _) ?_; rintro _ _ ⟨q2, rfl, rfl, hq2, hb3, hb4⟩ | refine Nx.callv rfl rfl rfl (by kernel_rfl) rfl (sign_spec z (by unfold InW; omega) I) ?_ | refine Nx.mul rfl rfl (by rcases Int.sign_trichotomy z with h | h | h <;> rw [h] <;> unfold I64 <;> omega) rfl ?_ | refine Nx.so ?_ | refine Nx.sb (fun bx => ?_) | refine Nx.sa (fun A2 c2 => ?_))
      | refine Nx.za ?_ | refine Nx.zr (fun hc => ?_) (fun hc => ?_)
      | refine Nx.zq ?_ | refine Nx.zu (fun hc => ?_) (fun hc => ?_)
      | ((with_reducible refine GoodF.is ?_); first | refine GoodF.quiet rfl rfl rfl rfl rfl rfl (by first | exact QRun.opr rfl |  exact QRun.std) ?_ | refine GoodF.done1 rfl (fun bx => ?_) | refine GoodF.done2 rfl (fun bx by_ => ?_) | refine GoodF.done3 rfl (fun bx by_ bz => ?_))
      | ((fail_if_success (with_reducible refine Nx.is_at ?_)); (fail_if_success (with_reducible refine Nx.is_wp ?_)); (fail_if_success (with_reducible refine Nx.is_mix ?_)); first | refine Nx.ex ?_ | refine Nx.pool_nextF 0 rfl (by exact Ent.auto) ?_ | refine Nx.pool_nextF 1 rfl (by exact Ent.auto) ?_ | refine Nx.pool_nextF 2 rfl (by exact Ent.auto) ?_ | refine Nx.pool_nextF 3 rfl (by exact Ent.auto) ?_)
    · have hc : ¬ z.natAbs / Nat.gcd D z.natAbs ≤ 1152921504606846976 := by simpa using hc
      refine Nx.ret2 rfl (ROne.cell 0 rfl rfl rfl rfl rfl) (ROne.tmp rfl) [] ⟨?_, rfl⟩ (by (exact Ent.auto))
      rw [redV_no hD (fun h => hc h.1)]
    · have hc : ¬ D / Nat.gcd D z.natAbs ≤ 1152921504606846976 := by simpa using hc
      refine Nx.ret2 rfl (ROne.cell 0 rfl rfl rfl rfl rfl) (ROne.tmp rfl) [] ⟨?_, rfl⟩ (by (exact Ent.auto))
      rw [redV_no hD (fun h => hc h.2)]
    · rename_i hc0
      have hc0 : z.natAbs / Nat.gcd D z.natAbs ≤ 1152921504606846976 := by simpa using hc0
      have hc : D / Nat.gcd D z.natAbs ≤ 1152921504606846976 := by simpa using hc
      refine Nx.ret2 rfl (ROne.cell 0 rfl rfl rfl rfl rfl) (ROne.tmp rfl) [] ⟨?_, rfl⟩ (by (exact Ent.auto))
      rw [redV_ok hD hc0 hc, hq1 hc0, hq2 hc]
  · obtain ⟨D, rfl⟩ : ∃ D : Nat, d = (D : Int) := ⟨d.natAbs, by omega⟩
    obtain ⟨z, rfl⟩ : ∃ z : Int, z = n := ⟨n, rfl⟩
    have hD : 0 < D := by omega
    have hs : ¬ (D : Int).sign < 0 := fun h => hneg (Int.sign_neg_iff.1 h)
    have hg0 : 0 < Nat.gcd D z.natAbs := Nat.gcd_pos_of_pos_left _ hD
    have hgD : Nat.gcd D z.natAbs ≤ D := Nat.gcd_le_left _ hD
    refine FnSpec.enterP Tryz.func164 rfl Tryz.ntmps164 rfl fun w F => ?_
    repeat' first
      | ((with_reducible refine Nx.is_wp ?_); first | refine Nx.wo ?_ | refine Nx.p_drawF (id := 2) rfl [0, 2, 1] [1] [3, 4, 5] _ rfl rfl (by kernel_rfl) (by kernel_rfl) rfl PanicOk.auto (Ent.refl _) ?_ | refine Nx.p_poolF (id := 3) rfl [0, 1, 2, 3] [2, 3] [] [5] [5] [⟨4, 6, 200, _⟩] rfl rfl (by kernel_rfl) (by kernel_rfl) (by decide) (PoolFit.cons ⟨⟨_, _, _, rfl⟩, rfl, rfl⟩ PoolFit.nil) PanicOk.auto (Ent.refl _) ?_ | refine Nx.p_drawF (id := 4) rfl [0, 2, 1, 3, 4, 5, 6, 7, 8] [1, 3] [] _ rfl rfl (by kernel_rfl) (by kernel_rfl) rfl PanicOk.auto (Ent.refl _) ?_ | refine Nx.zp (fun hc => ?_) (fun hc => ?_))
      | ((first | refine Nx.at_op rfl rfl ?_ | refine Nx.m_loud rfl rfl rfl ?_ | refine Nx.at_do rfl rfl rfl rfl ?_ | refine Nx.m_loud_do rfl rfl rfl rfl rfl ?_ | refine GoodF.loud_ rfl rfl rfl rfl (fun ex X => ?_)); first | refine Nx.opr rfl rfl ?_ | refine Nx.callv rfl rfl rfl (by kernel_rfl) rfl (sign_spec (D : Int) (by unfold InW; omega) I) ?_ | refine Nx.callv rfl rfl rfl (by kernel_rfl) rfl (size_spec z (by unfold InW; omega) I) ?_ | refine Nx.callv rfl rfl rfl (by kernel_rfl) rfl (common_spec D z.natAbs hD (by unfold H127; omega) (by unfold H127; omega) I hT) ?_ | refine Nx.call (Rpre := []) rfl rfl rfl (by kernel_rfl) rfl (over_spec z.natAbs _ (by unfold H127; omega) hg0 (by unfold H127; omega) I) (Ent.refl _) ?_; rintro _ _ ⟨q1, rfl, rfl, hq1, hb1, hb2⟩ | refine Nx.call (Rpre := []) rfl rfl rfl (by kernel_rfl) rfl (over_spec D _ (by unfold H127; omega) hg0 (by unfold H127; omega) I) (Ent.refl _) ?_; rintro _ _ ⟨q2, rfl, rfl, hq2, hb3, hb4⟩ | refine Nx.callv rfl rfl rfl (by kernel_rfl) rfl (sign_spec z (by unfold InW; omega) I) ?_ | refine Nx.mul rfl rfl (by rcases Int.sign_trichotomy z with h | h | h <;> rw [h] <;> unfold I64 <;> omega) rfl ?_ | refine Nx.so ?_ | refine Nx.sb (fun bx => ?_) | refine Nx.sa (fun A2 c2 => ?_))
      | refine Nx.za ?_ | refine Nx.zr (fun hc => ?_) (fun hc => ?_)
      | refine Nx.zq ?_ | refine Nx.zu (fun hc => ?_) (fun hc => ?_)
      | ((with_reducible refine GoodF.is ?_); first | refine GoodF.quiet rfl rfl rfl rfl rfl rfl (by first | exact QRun.opr rfl |  exact QRun.std) ?_ | refine GoodF.done1 rfl (fun bx => ?_) | refine GoodF.done2 rfl (fun bx by_ => ?_) | refine GoodF.done3 rfl (fun bx by_ bz => ?_))
      | ((fail_if_success (with_reducible refine Nx.is_at ?_)); (fail_if_success (with_reducible refine Nx.is_wp ?_)); (fail_if_success (with_reducible refine Nx.is_mix ?_)); first | refine Nx.ex ?_ | refine Nx.pool_nextF 0 rfl (by exact Ent.auto) ?_ | refine Nx.pool_nextF 1 rfl (by exact Ent.auto) ?_ | refine Nx.pool_nextF 2 rfl (by exact Ent.auto) ?_ | refine Nx.pool_nextF 3 rfl (by exact Ent.auto) ?_)
    · have hc : ¬ z.natAbs / Nat.gcd D z.natAbs ≤ 1152921504606846976 := by simpa using hc
      refine Nx.ret2 rfl (ROne.cell 0 rfl rfl rfl rfl rfl) (ROne.tmp rfl) [] ⟨?_, rfl⟩ (by (exact Ent.auto))
      rw [redV_no hD (fun h => hc h.1)]
    · have hc : ¬ D / Nat.gcd D z.natAbs ≤ 1152921504606846976 := by simpa using hc
      refine Nx.ret2 rfl (ROne.cell 0 rfl rfl rfl rfl rfl) (ROne.tmp rfl) [] ⟨?_, rfl⟩ (by (exact Ent.auto))
      rw [redV_no hD (fun h => hc h.2)]
    · rename_i hc0
      have hc0 : z.natAbs / Nat.gcd D z.natAbs ≤ 1152921504606846976 := by simpa using hc0
      have hc : D / Nat.gcd D z.natAbs ≤ 1152921504606846976 := by simpa using hc
      refine Nx.ret2 rfl (ROne.cell 0 rfl rfl rfl rfl rfl) (ROne.tmp rfl) [] ⟨?_, rfl⟩ (by (exact Ent.auto))
      rw [redV_ok hD hc0 hc, hq1 hc0, hq2 hc]
end Go.Proofs.YtpcnapidlhpbkaaGreatDoor
namespace Go.Proofs.YtpcnapidlhpbkaaGreatDoor
open Go.Eng
attribute [local irreducible] opK wpList Code.wp Exit.then Exit.inBlock fnPost bodyPost Nx Calls Oper.wp Rd Rds Wr Ent Stars Blk Again Vec FnSpec wpMix QRun Stop Upto wpAt
theorem Valid_t {n d : Int} (h : FOk n d) (I : PH) : FnSpec Tryz.prog 43 [fracV n d] I [] (fun v R' => v = .bool true ∧ R' = []) := by
  have := frValid_spec n d (by have := h.2.2.1; have := h.2.2.2.1; unfold I64; omega) (by have := h.1; have := h.2.1; unfold I64; omega) I
  rw [decide_eq_true h] at this; exact this
theorem Valid_f {n d : Int} (hn : I64 n) (hd : I64 d) (h : ¬FOk n d) (I : PH) : FnSpec Tryz.prog 43 [fracV n d] I [] (fun v R' => v = .bool false ∧ R' = []) := by
  have := frValid_spec n d hn hd I
  rw [decide_eq_false h] at this; exact this
theorem rValid_t {n d : Int} (h : FOk n d) (I : PH) : FnSpec Tryz.prog 50 [fracV n d] I [] (fun v R' => v = .bool true ∧ R' = []) := by
  have := rValid_spec n d (by have := h.2.2.1; have := h.2.2.2.1; unfold I64; omega) (by have := h.1; have := h.2.1; unfold I64; omega) I
  rw [decide_eq_true h] at this; exact this
theorem rValid_f {n d : Int} (hn : I64 n) (hd : I64 d) (h : ¬FOk n d) (I : PH) : FnSpec Tryz.prog 50 [fracV n d] I [] (fun v R' => v = .bool false ∧ R' = []) := by
  have := rValid_spec n d hn hd I
  rw [decide_eq_false h] at this; exact this
theorem prod_bd {a b : Int} (ha : a.natAbs ≤ 1152921504606846976) (hb : b.natAbs ≤ 1152921504606846976) : (a * b).natAbs ≤ 1329227995784915872903807060280344576 := by
  rw [Int.natAbs_mul]
  exact Nat.mul_le_mul ha hb
theorem fok_abs {n d : Int} (h : FOk n d) : n.natAbs ≤ 1152921504606846976 ∧ d.natAbs ≤ 1152921504606846976 ∧ 0 < d := by
  obtain ⟨h1, h2, h3, h4, _⟩ := h
  omega
theorem fok_i64 {n d : Int} (h : FOk n d) : I64 n ∧ I64 d := by
  obtain ⟨h1, h2, h3, h4, _⟩ := h
  unfold I64; omega
set_option maxRecDepth 10000 in
theorem crossed_spec (n d m e : Int) (hn : I64 n) (hd : I64 d) (hm : I64 m) (he : I64 e) (I : PH) : FnSpec Tryz.prog 168 [fracV n d, fracV m e] I [] (fun v R' => v = .tuple #[wideV (n * e), wideV (m * d)] ∧ R' = []) := by
  refine FnSpec.enterP Tryz.func168 rfl Tryz.ntmps168 rfl fun w F => ?_
  repeat' first
    | ((with_reducible refine Nx.is_wp ?_); first | refine Nx.wo ?_ | refine Nx.p_drawF (id := 1) rfl [0, 1, 3, 4, 7, 8, 10, 11, 2, 5, 6, 9] [2, 5, 6, 9] [12, 13, 14, 15] _ rfl rfl (by kernel_rfl) (by kernel_rfl) rfl PanicOk.auto (Ent.refl _) ?_ | refine Nx.zp (fun hc => ?_) (fun hc => ?_))
    | (refine Nx.zo ?_; first | refine Nx.opr rfl rfl ?_ | refine Nx.callv rfl rfl rfl (by kernel_rfl) rfl (whole_spec _ hn I) ?_ | refine Nx.callv rfl rfl rfl (by kernel_rfl) rfl (whole_spec _ hd I) ?_ | refine Nx.callv rfl rfl rfl (by kernel_rfl) rfl (whole_spec _ hm I) ?_ | refine Nx.callv rfl rfl rfl (by kernel_rfl) rfl (whole_spec _ he I) ?_ | refine Nx.callv rfl rfl rfl (by kernel_rfl) rfl (times_spec _ _ I) ?_ | refine Nx.so ?_ | refine Nx.sb (fun bx => ?_) | refine Nx.sa (fun A2 c2 => ?_))
    | refine Nx.za ?_ | refine Nx.zr (fun hc => ?_) (fun hc => ?_)
    | refine Nx.zq ?_ | refine Nx.zu (fun hc => ?_) (fun hc => ?_)
    | refine Nx.zx ?_ | fail
  exact Nx.ret2 rfl (ROne.cell 1 rfl rfl rfl rfl rfl) (ROne.cell 0 rfl rfl rfl rfl rfl) [] ⟨rfl, rfl⟩ (by (exact Ent.auto))
set_option maxRecDepth 10000 in
theorem combine_spec (n d m e : Int) (hn : I64 n) (hd : I64 d) (hm : I64 m) (he : I64 e) (I : PH) (hT : TabI I) (fo : FuncId) (f : Int → Int → Int) (hcal : callable Tryz.prog fo = true)
    (hf : ∀ a b, FnSpec Tryz.prog fo [wideV a, wideV b] I [] (fun v R' => v = wideV (f a b) ∧ R' = []))
    (hbd : ∀ a b : Int, a.natAbs ≤ 1329227995784915872903807060280344576 → b.natAbs ≤ 1329227995784915872903807060280344576 → (f a b).natAbs < H127) :
    FnSpec Tryz.prog 212 [fracV n d, fracV m e, .func (.func fo) #[] #[]] I [] (fun v R' => v = opV n d m e (Rat.divInt (f (n * e) (m * d)) (d * e)) ∧ R' = []) := by
  unfold opV
  by_cases h1 : FOk n d
  · by_cases h2 : FOk m e
    · obtain ⟨a1, a2, a3⟩ := fok_abs h1
      obtain ⟨b1, b2, b3⟩ := fok_abs h2
      rw [if_pos ⟨h1, h2⟩]
      have hde := prod_bd a2 b2
      have hpos : 0 < d * e := Int.mul_pos a3 b3
      refine FnSpec.enterP Tryz.func212 rfl Tryz.ntmps212 rfl fun w F => ?_
      repeat' first
        | ((with_reducible refine Nx.is_wp ?_); first | refine Nx.wo ?_ | refine Nx.p_drawF (id := 3) rfl [0, 1, 2, 7, 8, 10, 11, 3, 4, 5, 6, 9, 12, 13, 14, 15, 16] [3, 6, 9, 12, 13, 14] [17, 18] _ rfl rfl (by kernel_rfl) (by kernel_rfl) rfl PanicOk.auto (Ent.refl _) ?_ | refine Nx.zp (fun hc => ?_) (fun hc => ?_))
        | (refine Nx.zo ?_; first | refine Nx.opr rfl rfl ?_ | refine Nx.callv rfl rfl rfl (by kernel_rfl) rfl (Valid_t h1 I) ?_ | refine Nx.callv rfl rfl rfl (by kernel_rfl) rfl (Valid_t h2 I) ?_ | refine Nx.callv rfl rfl rfl (by kernel_rfl) rfl (crossed_spec n d m e hn hd hm he I) ?_ | refine Nx.callv rfl rfl rfl (by kernel_rfl) rfl (whole_spec _ hd I) ?_ | refine Nx.callv rfl rfl rfl (by kernel_rfl) rfl (whole_spec _ he I) ?_ | refine Nx.callv rfl rfl rfl (by kernel_rfl) rfl (times_spec _ _ I) ?_ | refine Nx.callv rfl rfl rfl (by kernel_rfl) rfl (Reduced_spec _ _ (hbd _ _ (prod_bd a1 b2) (prod_bd b1 a2)) (by omega) (by unfold H127; omega) I hT) ?_ | refine Nx.callv rfl rfl rfl hcal rfl (hf _ _) ?_ | refine Nx.so ?_ | refine Nx.sb (fun bx => ?_) | refine Nx.sa (fun A2 c2 => ?_))
        | refine Nx.za ?_ | refine Nx.zr (fun hc => ?_) (fun hc => ?_)
        | refine Nx.zq ?_ | refine Nx.zu (fun hc => ?_) (fun hc => ?_)
        | refine Nx.zx ?_ | fail
      exact Nx.ret2 rfl (ROne.cell 0 rfl rfl rfl rfl rfl) (ROne.tmp rfl) [] ⟨rfl, rfl⟩ (by (exact Ent.auto))
    · rw [if_neg (fun h => h2 h.2)]
      refine FnSpec.enterP Tryz.func212 rfl Tryz.ntmps212 rfl fun w F => ?_
      repeat' first
        | ((with_reducible refine Nx.is_wp ?_); first | refine Nx.wo ?_ | refine Nx.zp (fun hc => ?_) (fun hc => ?_))
        | (refine Nx.zo ?_; first | refine Nx.opr rfl rfl ?_ | refine Nx.callv rfl rfl rfl (by kernel_rfl) rfl (Valid_t h1 I) ?_ | refine Nx.callv rfl rfl rfl (by kernel_rfl) rfl (Valid_f hm he h2 I) ?_ | refine Nx.so ?_ | refine Nx.sb (fun bx => ?_) | refine Nx.sa (fun A2 c2 => ?_))
        | refine Nx.za ?_ | refine Nx.zr (fun hc => ?_) (fun hc => ?_)
        | refine Nx.zq ?_ | refine Nx.zu (fun hc => ?_) (fun hc => ?_)
        | refine Nx.zx ?_ | fail
      exact Nx.ret2 rfl (ROne.cell 0 rfl rfl rfl rfl rfl) (ROne.tmp rfl) [] ⟨rfl, rfl⟩ (by (exact Ent.auto))
  · rw [if_neg (fun h => h1 h.1)]
    refine FnSpec.enterP Tryz.func212 rfl Tryz.ntmps212 rfl fun w F => ?_
    repeat' first
      | ((with_reducible refine Nx.is_wp ?_); first | refine Nx.wo ?_ | refine Nx.zp (fun hc => ?_) (fun hc => ?_))
      | (refine Nx.zo ?_; first | refine Nx.opr rfl rfl ?_ | refine Nx.callv rfl rfl rfl (by kernel_rfl) rfl (Valid_f hn hd h1 I) ?_ | refine Nx.so ?_ | refine Nx.sb (fun bx => ?_) | refine Nx.sa (fun A2 c2 => ?_))
      | refine Nx.za ?_ | refine Nx.zr (fun hc => ?_) (fun hc => ?_)
      | refine Nx.zq ?_ | refine Nx.zu (fun hc => ?_) (fun hc => ?_)
      | refine Nx.zx ?_ | fail
    exact Nx.ret2 rfl (ROne.cell 0 rfl rfl rfl rfl rfl) (ROne.tmp rfl) [] ⟨rfl, rfl⟩ (by (exact Ent.auto))
end Go.Proofs.YtpcnapidlhpbkaaGreatDoor
namespace Go.Proofs.YtpcnapidlhpbkaaGreatDoor
open Go.Eng
attribute [local irreducible] opK wpList Code.wp Exit.then Exit.inBlock fnPost bodyPost Nx Calls Oper.wp Rd Rds Wr Ent Stars Blk Again Vec FnSpec wpMix QRun Stop Upto wpAt
theorem add_mul_bd {a b : Int} (ha : a.natAbs ≤ 1329227995784915872903807060280344576) (hb : b.natAbs ≤ 1329227995784915872903807060280344576) : (a + b).natAbs < H127 ∧ (a - b).natAbs < H127 := by
  unfold H127; omega
set_option maxRecDepth 10000 in
theorem Add_spec (n d m e : Int) (hn : I64 n) (hd : I64 d) (hm : I64 m) (he : I64 e) (I : PH) (hT : TabI I) : FnSpec Tryz.prog 163 [fracV n d, fracV m e] I [] (fun v R' => v = opV n d m e (Rat.divInt n d + Rat.divInt m e) ∧ R' = []) := by
  have hc := combine_spec n d m e hn hd hm he I hT 213 (fun a b => a + b) (by kernel_rfl) (fun a b => plus_spec a b I) (fun a b ha hb => (add_mul_bd ha hb).1)
  rw [show opV n d m e (Rat.divInt ((fun a b : Int => a + b) (n * e) (m * d)) (d * e)) = opV n d m e (Rat.divInt n d + Rat.divInt m e) from opV_congr fun h => by
    rw [Rat.divInt_add_divInt _ _ (by have := h.1.1; omega) (by have := h.2.1; omega)]] at hc
  refine FnSpec.enterP Tryz.func163 rfl Tryz.ntmps163 rfl fun w F => ?_
  by_cases h : FOk n d ∧ FOk m e
  · unfold opV at *
    rw [if_pos h] at *
    repeat' first
      | ((with_reducible refine Nx.is_wp ?_); first | refine Nx.wo ?_ | refine Nx.zp (fun hc => ?_) (fun hc => ?_))
      | (refine Nx.zo ?_; first | refine Nx.opr rfl rfl ?_ | refine Nx.callv rfl rfl rfl (by kernel_rfl) rfl (hc) ?_ | refine Nx.so ?_ | refine Nx.sb (fun bx => ?_) | refine Nx.sa (fun A2 c2 => ?_))
      | refine Nx.za ?_ | refine Nx.zr (fun hc => ?_) (fun hc => ?_)
      | refine Nx.zq ?_ | refine Nx.zu (fun hc => ?_) (fun hc => ?_)
      | refine Nx.zx ?_ | fail
    exact Nx.ret2 rfl (ROne.cell 0 rfl rfl rfl rfl rfl) (ROne.tmp rfl) [] ⟨rfl, rfl⟩ (by (exact Ent.auto))
  · unfold opV at *
    rw [if_neg h] at *
    repeat' first
      | ((with_reducible refine Nx.is_wp ?_); first | refine Nx.wo ?_ | refine Nx.zp (fun hc => ?_) (fun hc => ?_))
      | (refine Nx.zo ?_; first | refine Nx.opr rfl rfl ?_ | refine Nx.callv rfl rfl rfl (by kernel_rfl) rfl (hc) ?_ | refine Nx.so ?_ | refine Nx.sb (fun bx => ?_) | refine Nx.sa (fun A2 c2 => ?_))
      | refine Nx.za ?_ | refine Nx.zr (fun hc => ?_) (fun hc => ?_)
      | refine Nx.zq ?_ | refine Nx.zu (fun hc => ?_) (fun hc => ?_)
      | refine Nx.zx ?_ | fail
    exact Nx.ret2 rfl (ROne.cell 0 rfl rfl rfl rfl rfl) (ROne.tmp rfl) [] ⟨rfl, rfl⟩ (by (exact Ent.auto))
set_option maxRecDepth 10000 in
theorem Sub_spec (n d m e : Int) (hn : I64 n) (hd : I64 d) (hm : I64 m) (he : I64 e) (I : PH) (hT : TabI I) : FnSpec Tryz.prog 221 [fracV n d, fracV m e] I [] (fun v R' => v = opV n d m e (Rat.divInt n d - Rat.divInt m e) ∧ R' = []) := by
  have hc := combine_spec n d m e hn hd hm he I hT 169 (fun a b => a - b) (by kernel_rfl) (fun a b => minus_spec a b I) (fun a b ha hb => (add_mul_bd ha hb).2)
  rw [show opV n d m e (Rat.divInt ((fun a b : Int => a - b) (n * e) (m * d)) (d * e)) = opV n d m e (Rat.divInt n d - Rat.divInt m e) from opV_congr fun h => by
    rw [Rat.divInt_sub_divInt _ _ (by have := h.1.1; omega) (by have := h.2.1; omega)]] at hc
  refine FnSpec.enterP Tryz.func221 rfl Tryz.ntmps221 rfl fun w F => ?_
  by_cases h : FOk n d ∧ FOk m e
  · unfold opV at *
    rw [if_pos h] at *
    repeat' first
      | ((with_reducible refine Nx.is_wp ?_); first | refine Nx.wo ?_ | refine Nx.zp (fun hc => ?_) (fun hc => ?_))
      | (refine Nx.zo ?_; first | refine Nx.opr rfl rfl ?_ | refine Nx.callv rfl rfl rfl (by kernel_rfl) rfl (hc) ?_ | refine Nx.so ?_ | refine Nx.sb (fun bx => ?_) | refine Nx.sa (fun A2 c2 => ?_))
      | refine Nx.za ?_ | refine Nx.zr (fun hc => ?_) (fun hc => ?_)
      | refine Nx.zq ?_ | refine Nx.zu (fun hc => ?_) (fun hc => ?_)
      | refine Nx.zx ?_ | fail
    exact Nx.ret2 rfl (ROne.cell 0 rfl rfl rfl rfl rfl) (ROne.tmp rfl) [] ⟨rfl, rfl⟩ (by (exact Ent.auto))
  · unfold opV at *
    rw [if_neg h] at *
    repeat' first
      | ((with_reducible refine Nx.is_wp ?_); first | refine Nx.wo ?_ | refine Nx.zp (fun hc => ?_) (fun hc => ?_))
      | (refine Nx.zo ?_; first | refine Nx.opr rfl rfl ?_ | refine Nx.callv rfl rfl rfl (by kernel_rfl) rfl (hc) ?_ | refine Nx.so ?_ | refine Nx.sb (fun bx => ?_) | refine Nx.sa (fun A2 c2 => ?_))
      | refine Nx.za ?_ | refine Nx.zr (fun hc => ?_) (fun hc => ?_)
      | refine Nx.zq ?_ | refine Nx.zu (fun hc => ?_) (fun hc => ?_)
      | refine Nx.zx ?_ | fail
    exact Nx.ret2 rfl (ROne.cell 0 rfl rfl rfl rfl rfl) (ROne.tmp rfl) [] ⟨rfl, rfl⟩ (by (exact Ent.auto))
set_option maxRecDepth 10000 in
theorem Mul_spec (n d m e : Int) (hn : I64 n) (hd : I64 d) (hm : I64 m) (he : I64 e) (I : PH) (hT : TabI I) : FnSpec Tryz.prog 104 [fracV n d, fracV m e] I [] (fun v R' => v = opV n d m e (Rat.divInt n d * Rat.divInt m e) ∧ R' = []) := by
  unfold opV
  by_cases h1 : FOk n d
  · by_cases h2 : FOk m e
    · obtain ⟨a1, a2, a3⟩ := fok_abs h1
      obtain ⟨b1, b2, b3⟩ := fok_abs h2
      rw [if_pos ⟨h1, h2⟩, Rat.divInt_mul_divInt]
      have hde := prod_bd a2 b2
      have hnm := prod_bd a1 b1
      have hpos : 0 < d * e := Int.mul_pos a3 b3
      refine FnSpec.enterP Tryz.func104 rfl Tryz.ntmps104 rfl fun w F => ?_
      repeat' first
        | ((with_reducible refine Nx.is_wp ?_); first | refine Nx.wo ?_ | refine Nx.p_drawF (id := 3) rfl [0, 1, 3, 4, 7, 8, 10, 11, 2, 5, 6, 9, 12, 13, 14, 15, 16] [2, 5, 6, 9, 12, 13, 14] [17, 18] _ rfl rfl (by kernel_rfl) (by kernel_rfl) rfl PanicOk.auto (Ent.refl _) ?_ | refine Nx.zp (fun hc => ?_) (fun hc => ?_))
        | (refine Nx.zo ?_; first | refine Nx.opr rfl rfl ?_ | refine Nx.callv rfl rfl rfl (by kernel_rfl) rfl (Valid_t h1 I) ?_ | refine Nx.callv rfl rfl rfl (by kernel_rfl) rfl (Valid_t h2 I) ?_ | refine Nx.callv rfl rfl rfl (by kernel_rfl) rfl (whole_spec _ hn I) ?_ | refine Nx.callv rfl rfl rfl (by kernel_rfl) rfl (whole_spec _ hd I) ?_ | refine Nx.callv rfl rfl rfl (by kernel_rfl) rfl (whole_spec _ hm I) ?_ | refine Nx.callv rfl rfl rfl (by kernel_rfl) rfl (whole_spec _ he I) ?_ | refine Nx.callv rfl rfl rfl (by kernel_rfl) rfl (times_spec _ _ I) ?_ | refine Nx.callv rfl rfl rfl (by kernel_rfl) rfl (Reduced_spec _ _ (by unfold H127; omega) (by omega) (by unfold H127; omega) I hT) ?_ | refine Nx.so ?_ | refine Nx.sb (fun bx => ?_) | refine Nx.sa (fun A2 c2 => ?_))
        | refine Nx.za ?_ | refine Nx.zr (fun hc => ?_) (fun hc => ?_)
        | refine Nx.zq ?_ | refine Nx.zu (fun hc => ?_) (fun hc => ?_)
        | refine Nx.zx ?_ | fail
      exact Nx.ret2 rfl (ROne.cell 0 rfl rfl rfl rfl rfl) (ROne.tmp rfl) [] ⟨rfl, rfl⟩ (by (exact Ent.auto))
    · rw [if_neg (fun h => h2 h.2)]
      refine FnSpec.enterP Tryz.func104 rfl Tryz.ntmps104 rfl fun w F => ?_
      repeat' first
        | ((with_reducible refine Nx.is_wp ?_); first | refine Nx.wo ?_ | refine Nx.zp (fun hc => ?_) (fun hc => ?_))
        | (refine Nx.zo ?_; first | refine Nx.opr rfl rfl ?_ | refine Nx.callv rfl rfl rfl (by kernel_rfl) rfl (Valid_t h1 I) ?_ | refine Nx.callv rfl rfl rfl (by kernel_rfl) rfl (Valid_f hm he h2 I) ?_ | refine Nx.so ?_ | refine Nx.sb (fun bx => ?_) | refine Nx.sa (fun A2 c2 => ?_))
        | refine Nx.za ?_ | refine Nx.zr (fun hc => ?_) (fun hc => ?_)
        | refine Nx.zq ?_ | refine Nx.zu (fun hc => ?_) (fun hc => ?_)
        | refine Nx.zx ?_ | fail
      exact Nx.ret2 rfl (ROne.cell 0 rfl rfl rfl rfl rfl) (ROne.tmp rfl) [] ⟨rfl, rfl⟩ (by (exact Ent.auto))
  · rw [if_neg (fun h => h1 h.1)]
    refine FnSpec.enterP Tryz.func104 rfl Tryz.ntmps104 rfl fun w F => ?_
    repeat' first
      | ((with_reducible refine Nx.is_wp ?_); first | refine Nx.wo ?_ | refine Nx.zp (fun hc => ?_) (fun hc => ?_))
      | (refine Nx.zo ?_; first | refine Nx.opr rfl rfl ?_ | refine Nx.callv rfl rfl rfl (by kernel_rfl) rfl (Valid_f hn hd h1 I) ?_ | refine Nx.so ?_ | refine Nx.sb (fun bx => ?_) | refine Nx.sa (fun A2 c2 => ?_))
      | refine Nx.za ?_ | refine Nx.zr (fun hc => ?_) (fun hc => ?_)
      | refine Nx.zq ?_ | refine Nx.zu (fun hc => ?_) (fun hc => ?_)
      | refine Nx.zx ?_ | fail
    exact Nx.ret2 rfl (ROne.cell 0 rfl rfl rfl rfl rfl) (ROne.tmp rfl) [] ⟨rfl, rfl⟩ (by (exact Ent.auto))
set_option maxRecDepth 10000 in
theorem Div_spec (n d m e : Int) (hn : I64 n) (hd : I64 d) (hm : I64 m) (he : I64 e) (I : PH) (hT : TabI I) : FnSpec Tryz.prog 220 [fracV n d, fracV m e] I [] (fun v R' => v = divV n d m e ∧ R' = []) := by
  unfold divV
  by_cases h1 : FOk n d
  · by_cases h2 : FOk m e
    · obtain ⟨a1, a2, a3⟩ := fok_abs h1
      obtain ⟨b1, b2, b3⟩ := fok_abs h2
      rw [if_pos ⟨h1, h2⟩]
      by_cases h0 : m = 0
      · rw [if_pos h0]
        subst h0
        refine FnSpec.enterP Tryz.func220 rfl Tryz.ntmps220 rfl fun w F => ?_
        repeat' first
          | ((with_reducible refine Nx.is_wp ?_); first | refine Nx.wo ?_ | refine Nx.zp (fun hc => ?_) (fun hc => ?_))
          | (refine Nx.zo ?_; first | refine Nx.opr rfl rfl ?_ | refine Nx.callv rfl rfl rfl (by kernel_rfl) rfl (Valid_t h1 I) ?_ | refine Nx.callv rfl rfl rfl (by kernel_rfl) rfl (Valid_t h2 I) ?_ | refine Nx.so ?_ | refine Nx.sb (fun bx => ?_) | refine Nx.sa (fun A2 c2 => ?_))
          | refine Nx.za ?_ | refine Nx.zr (fun hc => ?_) (fun hc => ?_)
          | refine Nx.zq ?_ | refine Nx.zu (fun hc => ?_) (fun hc => ?_)
          | refine Nx.zx ?_ | fail
        exact Nx.ret2 rfl (ROne.cell 0 rfl rfl rfl rfl rfl) (ROne.tmp rfl) [] ⟨rfl, rfl⟩ (by (exact Ent.auto))
      · rw [if_neg h0, rat_div_eq, Int.mul_comm d m]
        have hmd := prod_bd b1 a2
        rw [Int.mul_comm] at hmd
        have hne := prod_bd a1 b2
        have hnz : m * d ≠ 0 := Int.mul_ne_zero (by omega) (by omega)
        refine FnSpec.enterP Tryz.func220 rfl Tryz.ntmps220 rfl fun w F => ?_
        repeat' first
          | ((with_reducible refine Nx.is_wp ?_); first | refine Nx.wo ?_ | refine Nx.zp (fun hc => ?_) (fun hc => ?_))
          | (refine Nx.zo ?_; first | refine Nx.opr rfl rfl ?_ | refine Nx.callv rfl rfl rfl (by kernel_rfl) rfl (Valid_t h1 I) ?_ | refine Nx.callv rfl rfl rfl (by kernel_rfl) rfl (Valid_t h2 I) ?_ | refine Nx.callv rfl rfl rfl (by kernel_rfl) rfl (crossed_spec n d m e hn hd hm he I) ?_ | refine Nx.callv rfl rfl rfl (by kernel_rfl) rfl (whole_spec _ hn I) ?_ | refine Nx.callv rfl rfl rfl (by kernel_rfl) rfl (whole_spec _ hd I) ?_ | refine Nx.callv rfl rfl rfl (by kernel_rfl) rfl (whole_spec _ hm I) ?_ | refine Nx.callv rfl rfl rfl (by kernel_rfl) rfl (whole_spec _ he I) ?_ | refine Nx.callv rfl rfl rfl (by kernel_rfl) rfl (times_spec _ _ I) ?_ | refine Nx.callv rfl rfl rfl (by kernel_rfl) rfl (Reduced_spec _ _ (by unfold H127; omega) hnz (by unfold H127; first | omega | (rw [Int.mul_comm]; omega)) I hT) ?_ | refine Nx.so ?_ | refine Nx.sb (fun bx => ?_) | refine Nx.sa (fun A2 c2 => ?_))
          | refine Nx.za ?_ | refine Nx.zr (fun hc => ?_) (fun hc => ?_)
          | refine Nx.zq ?_ | refine Nx.zu (fun hc => ?_) (fun hc => ?_)
          | refine Nx.zx ?_ | fail
        exact Nx.ret2 rfl (ROne.cell 0 rfl rfl rfl rfl rfl) (ROne.tmp rfl) [] ⟨rfl, rfl⟩ (by (exact Ent.auto))
    · rw [if_neg (fun h => h2 h.2)]
      refine FnSpec.enterP Tryz.func220 rfl Tryz.ntmps220 rfl fun w F => ?_
      repeat' first
        | ((with_reducible refine Nx.is_wp ?_); first | refine Nx.wo ?_ | refine Nx.zp (fun hc => ?_) (fun hc => ?_))
        | (refine Nx.zo ?_; first | refine Nx.opr rfl rfl ?_ | refine Nx.callv rfl rfl rfl (by kernel_rfl) rfl (Valid_t h1 I) ?_ | refine Nx.callv rfl rfl rfl (by kernel_rfl) rfl (Valid_f hm he h2 I) ?_ | refine Nx.so ?_ | refine Nx.sb (fun bx => ?_) | refine Nx.sa (fun A2 c2 => ?_))
        | refine Nx.za ?_ | refine Nx.zr (fun hc => ?_) (fun hc => ?_)
        | refine Nx.zq ?_ | refine Nx.zu (fun hc => ?_) (fun hc => ?_)
        | refine Nx.zx ?_ | fail
      exact Nx.ret2 rfl (ROne.cell 0 rfl rfl rfl rfl rfl) (ROne.tmp rfl) [] ⟨rfl, rfl⟩ (by (exact Ent.auto))
  · rw [if_neg (fun h => h1 h.1)]
    refine FnSpec.enterP Tryz.func220 rfl Tryz.ntmps220 rfl fun w F => ?_
    repeat' first
      | ((with_reducible refine Nx.is_wp ?_); first | refine Nx.wo ?_ | refine Nx.zp (fun hc => ?_) (fun hc => ?_))
      | (refine Nx.zo ?_; first | refine Nx.opr rfl rfl ?_ | refine Nx.callv rfl rfl rfl (by kernel_rfl) rfl (Valid_f hn hd h1 I) ?_ | refine Nx.so ?_ | refine Nx.sb (fun bx => ?_) | refine Nx.sa (fun A2 c2 => ?_))
      | refine Nx.za ?_ | refine Nx.zr (fun hc => ?_) (fun hc => ?_)
      | refine Nx.zq ?_ | refine Nx.zu (fun hc => ?_) (fun hc => ?_)
      | refine Nx.zx ?_ | fail
    exact Nx.ret2 rfl (ROne.cell 0 rfl rfl rfl rfl rfl) (ROne.tmp rfl) [] ⟨rfl, rfl⟩ (by (exact Ent.auto))
set_option maxRecDepth 10000 in
theorem Less_spec (n d m e : Int) (hn : I64 n) (hd : I64 d) (hm : I64 m) (he : I64 e) (I : PH) : FnSpec Tryz.prog 106 [fracV n d, fracV m e] I [] (fun v R' => v = .bool (decide (FOk n d ∧ FOk m e ∧ n * e < m * d)) ∧ R' = []) := by
  by_cases h1 : FOk n d
  · by_cases h2 : FOk m e
    · obtain ⟨a1, a2, a3⟩ := fok_abs h1
      obtain ⟨b1, b2, b3⟩ := fok_abs h2
      rw [show decide (FOk n d ∧ FOk m e ∧ n * e < m * d) = decide (n * e < m * d) from decide_eq_decide.2 ⟨fun h => h.2.2, fun h => ⟨h1, h2, h⟩⟩]
      have hmd := prod_bd b1 a2
      have hne := prod_bd a1 b2
      have hw : InW (n * e - m * d) := by unfold InW; omega
      refine FnSpec.enterP Tryz.func106 rfl Tryz.ntmps106 rfl fun w F => ?_
      repeat' first
        | ((with_reducible refine Nx.is_wp ?_); first | refine Nx.wo ?_ | refine Nx.zp (fun hc => ?_) (fun hc => ?_))
        | (refine Nx.zo ?_; first | refine Nx.opr rfl rfl ?_ | refine Nx.callv rfl rfl rfl (by kernel_rfl) rfl (Valid_t h1 I) ?_ | refine Nx.callv rfl rfl rfl (by kernel_rfl) rfl (Valid_t h2 I) ?_ | refine Nx.callv rfl rfl rfl (by kernel_rfl) rfl (crossed_spec n d m e hn hd hm he I) ?_ | refine Nx.callv rfl rfl rfl (by kernel_rfl) rfl (whole_spec _ hn I) ?_ | refine Nx.callv rfl rfl rfl (by kernel_rfl) rfl (whole_spec _ hd I) ?_ | refine Nx.callv rfl rfl rfl (by kernel_rfl) rfl (whole_spec _ hm I) ?_ | refine Nx.callv rfl rfl rfl (by kernel_rfl) rfl (whole_spec _ he I) ?_ | refine Nx.callv rfl rfl rfl (by kernel_rfl) rfl (times_spec _ _ I) ?_ | refine Nx.callv rfl rfl rfl (by kernel_rfl) rfl (minus_spec _ _ I) ?_ | refine Nx.callv rfl rfl rfl (by kernel_rfl) rfl (sign_spec _ hw I) ?_ | refine Nx.so ?_ | refine Nx.sb (fun bx => ?_) | refine Nx.sa (fun A2 c2 => ?_))
        | refine Nx.za ?_ | refine Nx.zr (fun hc => ?_) (fun hc => ?_)
        | refine Nx.zq ?_ | refine Nx.zu (fun hc => ?_) (fun hc => ?_)
        | refine Nx.zx ?_ | fail
      all_goals refine Nx.ret_fn rfl [] ⟨bool_congr ?_, rfl⟩ (by (exact Ent.auto))
      all_goals first
        | (rw [Int.sign_neg_iff]; omega)
        | omega
    · rw [decide_eq_false (fun h => h2 h.2.1)]
      refine FnSpec.enterP Tryz.func106 rfl Tryz.ntmps106 rfl fun w F => ?_
      repeat' first
        | ((with_reducible refine Nx.is_wp ?_); first | refine Nx.wo ?_ | refine Nx.zp (fun hc => ?_) (fun hc => ?_))
        | (refine Nx.zo ?_; first | refine Nx.opr rfl rfl ?_ | refine Nx.callv rfl rfl rfl (by kernel_rfl) rfl (crossed_spec n d m e hn hd hm he I) ?_ | refine Nx.callv rfl rfl rfl (by kernel_rfl) rfl (Valid_t h1 I) ?_ | refine Nx.callv rfl rfl rfl (by kernel_rfl) rfl (Valid_f hm he h2 I) ?_ | refine Nx.so ?_ | refine Nx.sb (fun bx => ?_) | refine Nx.sa (fun A2 c2 => ?_))
        | refine Nx.za ?_ | refine Nx.zr (fun hc => ?_) (fun hc => ?_)
        | refine Nx.zq ?_ | refine Nx.zu (fun hc => ?_) (fun hc => ?_)
        | refine Nx.zx ?_ | fail
      exact Nx.ret_fn rfl [] ⟨rfl, rfl⟩ (by (exact Ent.auto))
  · rw [decide_eq_false (fun h => h1 h.1)]
    refine FnSpec.enterP Tryz.func106 rfl Tryz.ntmps106 rfl fun w F => ?_
    repeat' first
      | ((with_reducible refine Nx.is_wp ?_); first | refine Nx.wo ?_ | refine Nx.zp (fun hc => ?_) (fun hc => ?_))
      | (refine Nx.zo ?_; first | refine Nx.opr rfl rfl ?_ | refine Nx.callv rfl rfl rfl (by kernel_rfl) rfl (crossed_spec n d m e hn hd hm he I) ?_ | refine Nx.callv rfl rfl rfl (by kernel_rfl) rfl (Valid_f hn hd h1 I) ?_ | refine Nx.so ?_ | refine Nx.sb (fun bx => ?_) | refine Nx.sa (fun A2 c2 => ?_))
      | refine Nx.za ?_ | refine Nx.zr (fun hc => ?_) (fun hc => ?_)
      | refine Nx.zq ?_ | refine Nx.zu (fun hc => ?_) (fun hc => ?_)
      | refine Nx.zx ?_ | fail
    exact Nx.ret_fn rfl [] ⟨rfl, rfl⟩ (by (exact Ent.auto))
end Go.Proofs.YtpcnapidlhpbkaaGreatDoor
namespace Go.Proofs.YtpcnapidlhpbkaaGreatDoor
open Go.Eng
theorem part_frac0 (a b : Int) (w : World) : (part 3 #[.int .i64 a, .int .i64 b] 0).run Tryz.prog w = .ok (.int .i64 a) w := run_of_pureRun (by kernel_rfl) w
theorem part_frac1 (a b : Int) (w : World) : (part 3 #[.int .i64 a, .int .i64 b] 1).run Tryz.prog w = .ok (.int .i64 b) w := run_of_pureRun (by kernel_rfl) w
theorem eqFields_frac (a b c d : Int) (w : World) (fs : List Field) (hf : fs.map (fun f => (f.name, f.type, f.offset)) = [("Num", 3, 0), ("Den", 3, 1)]) :
    (Op.eqFields 9999 #[.int .i64 a, .int .i64 b] #[.int .i64 c, .int .i64 d] fs).run Tryz.prog w = .ok (a == c && b == d) w := by
  obtain ⟨f, g, rfl⟩ : ∃ f g, fs = [f, g] := by
    rcases fs with _ | ⟨f, _ | ⟨g, _ | ⟨k, r⟩⟩⟩
    · simp at hf
    · simp at hf
    · exact ⟨f, g, rfl⟩
    · simp at hf
  · simp only [List.map_cons, List.map_nil, List.cons.injEq, Prod.mk.injEq, and_true] at hf
    obtain ⟨⟨h1, h2, h3⟩, h4, h5, h6⟩ := hf
    simp only [Op.eqFields, h1, h2, h3, h4, h5, h6]
    rw [if_pos (by decide), if_pos (by decide), Sem.run_bind, part_frac0, Result.andThen_ok, Sem.run_bind, part_frac0, Result.andThen_ok, Sem.run_bind, run_equalIn_int _ 9998 _ .i64 .i64 a c Tryz.underlying3, Result.andThen_ok]
    cases (a == c)
    · rfl
    · rw [if_neg (by decide), Sem.run_bind, part_frac1, Result.andThen_ok, Sem.run_bind, part_frac1, Result.andThen_ok, Sem.run_bind, run_equalIn_int _ 9998 _ .i64 .i64 b d Tryz.underlying3, Result.andThen_ok]
      cases (b == d) <;> rfl
theorem frac_bool (a b c d : Int) : (a == c && b == d) = decide (a = c ∧ b = d) := by
  rw [Bool.eq_iff_iff]
  simp
theorem eql_frac {x y : Operand} (a b c d : Int) (w : World) :
    (do eqGuard .eql 24 x y (.agg #[.int .i64 a, .int .i64 b]) (.agg #[.int .i64 c, .int .i64 d]); binOp .eql 24 (.agg #[.int .i64 a, .int .i64 b]) (.agg #[.int .i64 c, .int .i64 d])).run Tryz.prog w = .ok (.bool (decide (a = c ∧ b = d))) w := by
  rw [Sem.run_bind, run_eqGuard_agg _ _ _ _ _ _ _ Tryz.eqGuardType24, Result.andThen_ok, run_eql_struct, run_equalIn_struct _ 9999 24 _ _ (by kernel_rfl) Tryz.stoodInHeld24,
    eqFields_frac a b c d w _ (by kernel_rfl), frac_bool]
  rfl
end Go.Proofs.YtpcnapidlhpbkaaGreatDoor
namespace Go.Proofs.YtpcnapidlhpbkaaGreatDoor
open Go.Eng
attribute [local irreducible] opK wpList Code.wp Exit.then Exit.inBlock fnPost bodyPost Nx Calls Oper.wp Rd Rds Wr Ent Stars Blk Again Vec FnSpec wpMix QRun Stop Upto wpAt
end Go.Proofs.YtpcnapidlhpbkaaGreatDoor
namespace Go.Proofs.YtpcnapidlhpbkaaGreatDoor
open Go.Eng
attribute [local irreducible] opK wpList Code.wp Exit.then Exit.inBlock fnPost bodyPost Nx Calls Oper.wp Rd Rds Wr Ent Stars Blk Again Vec FnSpec wpMix QRun Stop Upto wpAt
set_option maxRecDepth 10000 in
theorem rLess_spec (n d m e : Int) (hn : I64 n) (hd : I64 d) (hm : I64 m) (he : I64 e) (I : PH) : FnSpec Tryz.prog 19 [fracV n d, fracV m e] I [] (fun v R' => v = .bool (decide (FOk n d ∧ FOk m e ∧ n * e < m * d)) ∧ R' = []) := by
  by_cases h1 : FOk n d
  · by_cases h2 : FOk m e
    · obtain ⟨a1, a2, a3⟩ := fok_abs h1
      obtain ⟨b1, b2, b3⟩ := fok_abs h2
      rw [show decide (FOk n d ∧ FOk m e ∧ n * e < m * d) = decide (n * e < m * d) from decide_eq_decide.2 ⟨fun h => h.2.2, fun h => ⟨h1, h2, h⟩⟩]
      have hmd := prod_bd b1 a2
      have hne := prod_bd a1 b2
      have hw : InW (n * e - m * d) := by unfold InW; omega
      refine FnSpec.enterP Tryz.func19 rfl Tryz.ntmps19 rfl fun w F => ?_
      repeat' first
        | ((with_reducible refine Nx.is_wp ?_); first | refine Nx.wo ?_ | refine Nx.p_drawF (id := 3) rfl [0, 1, 3, 4, 7, 8, 10, 11, 2, 5, 6, 9] [2, 5, 6, 9] [12, 13, 14, 15, 16] _ rfl rfl (by kernel_rfl) (by kernel_rfl) rfl PanicOk.auto (Ent.refl _) ?_ | refine Nx.zp (fun hc => ?_) (fun hc => ?_))
        | (refine Nx.zo ?_; first | refine Nx.opr rfl rfl ?_ | refine Nx.callv rfl rfl rfl (by kernel_rfl) rfl (rValid_t h1 I) ?_ | refine Nx.callv rfl rfl rfl (by kernel_rfl) rfl (rValid_t h2 I) ?_ | refine Nx.callv rfl rfl rfl (by kernel_rfl) rfl (from_spec _ hn I) ?_ | refine Nx.callv rfl rfl rfl (by kernel_rfl) rfl (from_spec _ hd I) ?_ | refine Nx.callv rfl rfl rfl (by kernel_rfl) rfl (from_spec _ hm I) ?_ | refine Nx.callv rfl rfl rfl (by kernel_rfl) rfl (from_spec _ he I) ?_ | refine Nx.callv rfl rfl rfl (by kernel_rfl) rfl (rtimes_spec _ _ I) ?_ | refine Nx.callv rfl rfl rfl (by kernel_rfl) rfl (rminus_spec _ _ I) ?_ | refine Nx.callv rfl rfl rfl (by kernel_rfl) rfl (negative_spec _ hw I) ?_ | refine Nx.so ?_ | refine Nx.sb (fun bx => ?_) | refine Nx.sa (fun A2 c2 => ?_))
        | refine Nx.za ?_ | refine Nx.zr (fun hc => ?_) (fun hc => ?_)
        | refine Nx.zq ?_ | refine Nx.zu (fun hc => ?_) (fun hc => ?_)
        | refine Nx.zx ?_ | fail
      all_goals refine Nx.ret_fn rfl [] ⟨bool_congr ?_, rfl⟩ (by (exact Ent.auto))
      all_goals first
        | (rw [Int.sign_neg_iff]; omega)
        | omega
    · rw [decide_eq_false (fun h => h2 h.2.1)]
      refine FnSpec.enterP Tryz.func19 rfl Tryz.ntmps19 rfl fun w F => ?_
      repeat' first
        | ((with_reducible refine Nx.is_wp ?_); first | refine Nx.wo ?_ | refine Nx.zp (fun hc => ?_) (fun hc => ?_))
        | (refine Nx.zo ?_; first | refine Nx.opr rfl rfl ?_ | refine Nx.callv rfl rfl rfl (by kernel_rfl) rfl (rValid_t h1 I) ?_ | refine Nx.callv rfl rfl rfl (by kernel_rfl) rfl (rValid_f hm he h2 I) ?_ | refine Nx.so ?_ | refine Nx.sb (fun bx => ?_) | refine Nx.sa (fun A2 c2 => ?_))
        | refine Nx.za ?_ | refine Nx.zr (fun hc => ?_) (fun hc => ?_)
        | refine Nx.zq ?_ | refine Nx.zu (fun hc => ?_) (fun hc => ?_)
        | refine Nx.zx ?_ | fail
      exact Nx.ret_fn rfl [] ⟨rfl, rfl⟩ (by (exact Ent.auto))
  · rw [decide_eq_false (fun h => h1 h.1)]
    refine FnSpec.enterP Tryz.func19 rfl Tryz.ntmps19 rfl fun w F => ?_
    repeat' first
      | ((with_reducible refine Nx.is_wp ?_); first | refine Nx.wo ?_ | refine Nx.zp (fun hc => ?_) (fun hc => ?_))
      | (refine Nx.zo ?_; first | refine Nx.opr rfl rfl ?_ | refine Nx.callv rfl rfl rfl (by kernel_rfl) rfl (rValid_f hn hd h1 I) ?_ | refine Nx.so ?_ | refine Nx.sb (fun bx => ?_) | refine Nx.sa (fun A2 c2 => ?_))
      | refine Nx.za ?_ | refine Nx.zr (fun hc => ?_) (fun hc => ?_)
      | refine Nx.zq ?_ | refine Nx.zu (fun hc => ?_) (fun hc => ?_)
      | refine Nx.zx ?_ | fail
    exact Nx.ret_fn rfl [] ⟨rfl, rfl⟩ (by (exact Ent.auto))
end Go.Proofs.YtpcnapidlhpbkaaGreatDoor
namespace Go.Proofs.YtpcnapidlhpbkaaGreatDoor
open Go.Eng
attribute [local irreducible] opK wpList Code.wp Exit.then Exit.inBlock fnPost bodyPost Nx Calls Oper.wp Rd Rds Wr Ent Stars Blk Again Vec FnSpec wpMix QRun Stop Upto wpAt
theorem rat_i64 {q : Rat} (h : RB q) : I64 q.num ∧ I64 q.den := fok_i64 h.fok
theorem opV_rat {p q : Rat} (hp : RB p) (hq : RB q) (r : Rat) : opV p.num p.den q.num q.den r = redV r := by
  unfold opV
  rw [if_pos ⟨hp.fok, hq.fok⟩]
theorem Sub_rat (p q : Rat) (hp : RB p) (hq : RB q) (I : PH) (hT : TabI I) : FnSpec Tryz.prog 221 [ratV p, ratV q] I [] (fun v R' => v = redV (p - q) ∧ R' = []) := by
  have := Sub_spec p.num p.den q.num q.den (rat_i64 hp).1 (rat_i64 hp).2 (rat_i64 hq).1 (rat_i64 hq).2 I hT
  rw [opV_rat hp hq, Rat.num_divInt_den, Rat.num_divInt_den] at this
  exact this
theorem Mul_rat (p q : Rat) (hp : RB p) (hq : RB q) (I : PH) (hT : TabI I) : FnSpec Tryz.prog 104 [ratV p, ratV q] I [] (fun v R' => v = redV (p * q) ∧ R' = []) := by
  have := Mul_spec p.num p.den q.num q.den (rat_i64 hp).1 (rat_i64 hp).2 (rat_i64 hq).1 (rat_i64 hq).2 I hT
  rw [opV_rat hp hq, Rat.num_divInt_den, Rat.num_divInt_den] at this
  exact this
theorem Div_rat (p q : Rat) (hp : RB p) (hq : RB q) (h0 : q.num ≠ 0) (I : PH) (hT : TabI I) : FnSpec Tryz.prog 220 [ratV p, ratV q] I [] (fun v R' => v = redV (p / q) ∧ R' = []) := by
  have := Div_spec p.num p.den q.num q.den (rat_i64 hp).1 (rat_i64 hp).2 (rat_i64 hq).1 (rat_i64 hq).2 I hT
  unfold divV at this
  rw [if_pos ⟨hp.fok, hq.fok⟩, if_neg h0, Rat.num_divInt_den, Rat.num_divInt_den] at this
  exact this
theorem Less_rat (p q : Rat) (hp : RB p) (hq : RB q) (I : PH) : FnSpec Tryz.prog 106 [ratV p, ratV q] I [] (fun v R' => v = .bool (decide (p < q)) ∧ R' = []) := by
  have := Less_spec p.num p.den q.num q.den (rat_i64 hp).1 (rat_i64 hp).2 (rat_i64 hq).1 (rat_i64 hq).2 I
  rw [show decide (FOk p.num p.den ∧ FOk q.num q.den ∧ p.num * q.den < q.num * p.den) = decide (p < q) from decide_eq_decide.2 ⟨fun h => (Rat.lt_iff p q).2 h.2.2, fun h => ⟨hp.fok, hq.fok, (Rat.lt_iff p q).1 h⟩⟩] at this
  exact this
attribute [local irreducible] redN redD redE
theorem unstop {C : Cx} {e : Env} {I : PH} {R : List Res} {K : Act → World → Prop} (h : Nx C e I R K) : Nx C e I R (Stop K) := by unfold Stop; exact h
end Go.Proofs.YtpcnapidlhpbkaaGreatDoor
