/- Contracts of functions of the given program, and lemmas. -/
import Derived.Test.YtpcnapidlhpbkaaGreatDoorRows
import Derived.Test.YtpcnapidlhpbkaaGreatDoorChecked
import Derived.WalkKit
import Derived.ProofKit
import Derived.OpenShut
import Derived.LaidHandle
import Derived.LaidLaws
import Derived.Lib.LaidTab
import Derived.Stop.LaidErr
import Derived.Test.YtpcnapidlhpbkaaGreatDoorBq11
set_option maxHeartbeats 32000000
namespace Go.Proofs.YtpcnapidlhpbkaaGreatDoor
open Go.Eng Go.Sol
def RawB (y : RawF) : Prop := -1152921504606846976 ≤ y.1 ∧ y.1 ≤ 1152921504606846976 ∧ 1 ≤ y.2 ∧ y.2 ≤ 1152921504606846976
theorem rawB_of {q : Rat} (h : RB q) : RawB (rawOf q) := by
  obtain ⟨h1, h2⟩ := h
  have h3 := q.den_pos
  show -1152921504606846976 ≤ q.num ∧ q.num ≤ 1152921504606846976 ∧ 1 ≤ (q.den : Int) ∧ (q.den : Int) ≤ 1152921504606846976
  omega
theorem RawB.i64 {y : RawF} (h : RawB y) : I64F y := by
  obtain ⟨h1, h2, h3, h4⟩ := h
  exact ⟨by unfold I64; omega, by unfold I64; omega⟩
theorem raw_at {P : List RawF} (h : ∀ y ∈ P, RawB y) {k : Nat} (hk : k < P.length) : ∃ pn pd : Int, P.getD k default = (pn, pd) ∧ -1152921504606846976 ≤ pn ∧ pn ≤ 1152921504606846976 ∧ 1 ≤ pd ∧ pd ≤ 1152921504606846976 := by
  have := h (P.getD k default) (by rw [List.getD_eq_getElem?_getD, List.getElem?_eq_getElem hk]; exact List.getElem_mem _)
  exact ⟨(P.getD k default).1, (P.getD k default).2, rfl, this⟩
theorem raws_set {P : List RawF} (h : ∀ y ∈ P, I64F y) {k : Nat} {z : RawF} (hz : I64F z) : ∀ y ∈ P.set k z, I64F y := fun y hy => by
  rcases List.mem_or_eq_of_mem_set hy with h1 | rfl
  · exact h y h1
  · exact hz
attribute [local irreducible] opK wpList Code.wp Exit.then Exit.inBlock fnPost bodyPost Nx Calls Oper.wp Rd Rds Wr Ent Stars Blk Again Vec FnSpec wpMix QRun Stop Upto wpAt
set_option maxRecDepth 10000 in
theorem BoundsProofs_spec (A : Option Addr) (c : Nat) (l : List Int) (raw : PrM) (what by_ : Int) (I : PH) (hraw : PrIn I raw) (hwhat : I64 what) (hby : I64 by_) (hl : Bytes I A c l) (hx : ∀ x ∈ l, 0 ≤ x ∧ x < 256) (hT : TabI I) :
    FnSpec Tryz.prog 3 [.slice A l.length c, raw.V, .int .i64 what, .int .i64 by_] I [] (fun v R' => v = .bool true ∧ R' = []) := by
  have hL := bytes_take hl hx
  have hrp := hraw.pts.len
  have hrw := hraw.wts.len
  refine FnSpec.enterP Tryz.func3 rfl Tryz.ntmps3 rfl fun w F => ?_
  by_cases h20 : raw.pts.length ≤ 20
  case neg =>
    repeat' first
      | ((with_reducible refine Nx.is_wp ?_); first | refine Nx.wo ?_ | refine Nx.zp (fun hc => ?_) (fun hc => ?_))
      | (refine Nx.zo ?_; first | refine Nx.opr rfl rfl ?_ | refine Nx.callv rfl rfl rfl (by kernel_rfl) rfl (awakeB_spec _ hT) ?_ | refine Nx.so ?_ | refine Nx.sb (fun bx => ?_) | refine Nx.sa (fun A2 c2 => ?_))
      | refine Nx.za ?_ | refine Nx.zr (fun hc => ?_) (fun hc => ?_)
      | refine Nx.zq ?_ | refine Nx.zu (fun hc => ?_) (fun hc => ?_)
      | refine Nx.zx ?_ | fail
    exact Nx.ret_fn rfl [] ⟨rfl, rfl⟩ (by (exact Ent.auto))
  by_cases h20w : raw.wts.length ≤ 20
  case neg =>
    repeat' first
      | ((with_reducible refine Nx.is_wp ?_); first | refine Nx.wo ?_ | refine Nx.zp (fun hc => ?_) (fun hc => ?_))
      | (refine Nx.zo ?_; first | refine Nx.opr rfl rfl ?_ | refine Nx.callv rfl rfl rfl (by kernel_rfl) rfl (awakeB_spec _ hT) ?_ | refine Nx.so ?_ | refine Nx.sb (fun bx => ?_) | refine Nx.sa (fun A2 c2 => ?_))
      | refine Nx.za ?_ | refine Nx.zr (fun hc => ?_) (fun hc => ?_)
      | refine Nx.zq ?_ | refine Nx.zu (fun hc => ?_) (fun hc => ?_)
      | refine Nx.zx ?_ | fail
    exact Nx.ret_fn rfl [] ⟨rfl, rfl⟩ (by (exact Ent.auto))
  repeat' first
    | ((with_reducible refine Nx.is_wp ?_); first | refine Nx.p_stopr 5 rfl ?_ | refine Nx.wo ?_ | refine Nx.zp (fun hc => ?_) (fun hc => ?_))
    | (refine Nx.zo ?_; first | refine Nx.opr rfl rfl ?_ | (refine Nx.call (Rpre := []) rfl rfl rfl (by kernel_rfl) rfl (New_codes A c l I hl) (Ent.refl _) ?_; rintro _ _ ⟨b, rfl, rfl⟩) | (refine Nx.call rfl rfl rfl (by kernel_rfl) rfl (Equations_made8 b A c _ 0 4 I hL (Nat.zero_le _) (by omega)) (by (exact Ent.auto)) ?_; rintro _ _ ⟨N, At, ct, t, Aq, cq, qs, k1, rfl, ⟨hE, hN8⟩, hk1, rfl⟩) | refine Nx.so ?_ | refine Nx.sb (fun bx => ?_) | refine Nx.sa (fun A2 c2 => ?_))
    | refine Nx.za ?_ | refine Nx.zr (fun hc => ?_) (fun hc => ?_)
    | refine Nx.zq ?_ | refine Nx.zu (fun hc => ?_) (fun hc => ?_)
    | refine Nx.zx ?_ | fail
  refine Nx.unstop ?_
  revert bx; intro b5
  refine Nx.giveEq30 (At := At) (ct := ct) (t := t) (A := Aq) (c := cq) (qs := qs) (RR := [CodesR b A c (l.take 400) k1, Blk b5 27 [.int .i64 raw.cell, .bool raw.up, .int .i64 raw.bnd.1, .int .i64 raw.bnd.2, .slice raw.Ap raw.pts.length raw.cp, .slice raw.Aw raw.wts.length raw.cw], F]) (by refine Ent.trans ?_ Ent.stars; unfold eqsR; (exact Ent.auto)) fun I1 hI1 ht hq => ?_
  have hN := hE.n
  have hfew := hE.few
  have hfeas := hE.feas
  have hbe := hE.beq hN8 (by omega) (by omega)
  have hvd := valid30 hN (by omega) hE.good
  have hT1 := tab_mono hI1 hT
  have hR1 := bCheck_spec (N : Int) Aq cq qs raw I1 hq (hraw.mono hI1) hT1
  have hR2 := R30Check_spec (N : Int) Aq cq qs raw I1 hq (hraw.mono hI1)
  generalize chkP (N : Int) qs raw = cb at hR1 hR2
  have hcb : (!(cb == cb)) = false := by cases cb <;> rfl
  have hBn := fun {p q : Operand} (w : World) => (run_boolne (t := 4) (x := p) (y := q) Tryz.underlying4 cb cb w).trans (show _ = Result.ok (Value.bool false) w by rw [hcb])
  repeat' first
    | ((with_reducible refine Nx.is_wp ?_); first | refine Nx.p_stop 10 rfl ?_ | refine Nx.wo ?_ | refine Nx.p_drawF (id := 6) rfl [0, 1, 2, 4, 5, 6, 3] [3] [7, 8] _ rfl rfl (by kernel_rfl) (by kernel_rfl) rfl PanicOk.auto (Ent.refl _) ?_ | refine Nx.p_drawF (id := 18) rfl [0, 1, 2, 3, 4, 5, 6, 7, 8] [4] [9] _ rfl rfl (by kernel_rfl) (by kernel_rfl) rfl PanicOk.auto (Ent.refl _) ?_ | refine Nx.p_drawF (id := 20) rfl [0, 1, 2, 3, 4, 5, 10, 6, 7, 8, 9, 11, 12, 13, 14, 15] [6, 11] [16] _ rfl rfl (by kernel_rfl) (by kernel_rfl) rfl PanicOk.auto (Ent.refl _) ?_ | refine Nx.p_drawF (id := 23) rfl [0, 1, 2, 3, 4, 5, 10, 6, 7, 8, 9, 11, 12, 13, 14, 15] [6, 11] [16] _ rfl rfl (by kernel_rfl) (by kernel_rfl) rfl PanicOk.auto (Ent.refl _) ?_ | refine Nx.p_drawF (id := 27) rfl [0, 1, 2, 3, 4, 5, 6, 7, 8, 9, 10, 11, 12, 13, 14, 15] [] [16] _ rfl rfl (by kernel_rfl) (by kernel_rfl) rfl PanicOk.auto (Ent.refl _) ?_ | refine Nx.p_drawF (id := 28) rfl [0, 1, 2, 4, 5, 6, 3] [3] [7, 8, 9, 10, 11, 12] _ rfl rfl (by kernel_rfl) (by kernel_rfl) rfl PanicOk.auto (Ent.refl _) ?_ | refine Nx.zp (fun hc => ?_) (fun hc => ?_))
    | (refine Nx.zo ?_; first | (refine Nx.binr rfl rfl (run_boolne Tryz.underlying4 cb cb) rfl ?_; rw [hcb]) | refine Nx.opr rfl rfl ?_ | (refine Nx.call rfl rfl rfl (by kernel_rfl) rfl (Next_any b A c _ _ (N : Int) I1 (hL.mono hI1) hk1 (by omega)) (by (exact Ent.auto)) ?_; rintro _ _ ⟨r, k2, rfl, hr, hk2, rfl⟩) | (refine Nx.call rfl rfl rfl (by kernel_rfl) rfl (Next_any b A c _ _ 2 I1 (hL.mono hI1) hk2 (by omega)) (by (exact Ent.auto)) ?_; rintro _ _ ⟨r2, k3, rfl, hr2, hk3, rfl⟩) | (refine Nx.call (Rpre := []) rfl rfl rfl (by kernel_rfl) rfl (RProve_made hbe hvd ⟨_, hfeas⟩ r hr _ Aq cq I1 hq) (Ent.refl _) ?_; rintro v R' (⟨rfl, rfl⟩ | ⟨kc, hkc, x, wt, D, b', A', c', g1, g2, g3, rfl, rfl⟩)) | refine Nx.callv rfl rfl rfl (by kernel_rfl) rfl hR1 ?_ | refine Nx.callv rfl rfl rfl (by kernel_rfl) rfl hR2 ?_ | refine Nx.callv rfl rfl rfl (by kernel_rfl) rfl (awakeB_spec _ hT1) ?_ | refine Nx.so ?_ | refine Nx.sb (fun bx => ?_) | refine Nx.sa (fun A2 c2 => ?_))
    | refine Nx.za ?_ | refine Nx.zr (fun hc => ?_) (fun hc => ?_)
    | ((with_reducible refine Nx.is_mix ?_); first | refine Nx.m_quiet rfl rfl rfl rfl rfl (by first | exact QRun.binr rfl rfl hBn | exact QRun.opr rfl | exact QRun.loads rfl rfl rfl (Rds.cut 0 6 rfl rfl) rfl | exact QRun.loads rfl rfl rfl (Rds.cut 1 6 rfl rfl) rfl | exact QRun.loads rfl rfl rfl (Rds.cut 2 6 rfl rfl) rfl | exact QRun.loads rfl rfl rfl (Rds.cut 3 6 rfl rfl) rfl) ?_ | refine Nx.m_quiet_do rfl rfl rfl rfl rfl rfl rfl (by first | exact QRun.binr rfl rfl hBn | exact QRun.opr rfl | exact QRun.loads rfl rfl rfl (Rds.cut 0 6 rfl rfl) rfl | exact QRun.loads rfl rfl rfl (Rds.cut 1 6 rfl rfl) rfl | exact QRun.loads rfl rfl rfl (Rds.cut 2 6 rfl rfl) rfl | exact QRun.loads rfl rfl rfl (Rds.cut 3 6 rfl rfl) rfl) ?_ | refine Nx.m ?_ | refine Nx.zm ?_ | refine Nx.zt (fun hc => ?_) (fun hc => ?_))
    | refine Nx.zx ?_ | fail
  · exact Nx.imm_le hI1 (Nx.ret_fn rfl [] ⟨rfl, rfl⟩ (by (exact Ent.auto)))
  refine Nx.unstop ?_
  revert bx; intro b13
  generalize hup : decide (r2 = 0) = up at g1 g3 ⊢
  have hle := g2.le
  have hxr : ∀ k, k < N → RB (x k) := fun k hk => by
    obtain ⟨p, h1, h2⟩ := g2.pnt k hk
    exact Bl.rb_of g2.ne h1 (by omega) (by omega)
  have hwr : ∀ j, j < qs.length → RB (wt j) := fun j hj => by
    obtain ⟨p, h1, h2⟩ := g2.wgt j hj
    exact Bl.rb_of g2.ne h1 (by omega) (by omega)
  have hC := fun (m I' : PH) (hle : PH.le I1 I') (hm : PH.le m I') (hv : Stars [ratsR (some ⟨b', 0, none⟩) N N (rl N x), ratsR A' qs.length c' (rl qs.length wt)] m) => (by
    obtain ⟨ma, hma, va⟩ := Stars.get 0 hv rfl
    obtain ⟨mb, hmb, vb⟩ := Stars.get 1 hv rfl
    exact bcheck_right hbe hvd hkc g1 g2 Aq cq I' (tab_mono hle hT1) (hq.mono hle) b' A' c' (Vec.sliceN (t := 24) (hma.trans hm) (by rw [rl_len]; exact va) fun _ _ => rfl) (Vec.sliceN (t := 24) (hmb.trans hm) (by rw [rl_len]; exact vb) fun _ _ => rfl) : FnSpec Tryz.prog 14 [.int .i64 (N : Int), .slice Aq qs.length cq, proofV kc up (x kc) (.slice (some ⟨b', 0, none⟩) N N) (.slice A' qs.length c')] I' [] (fun v R' => v = .bool true ∧ R' = []))
  refine Nx.weak (e' := [(2, .int .i64 what), (3, .int .i64 by_), (10, .int .i64 (N : Int)), (12, .slice Aq qs.length cq), (13, .pointer (some ⟨b13, 0, none⟩)), (14, .int .i64 0)]) (R' := [ratsR (some ⟨b', 0, none⟩) N N (rl N x), ratsR A' qs.length c' (rl qs.length wt), Blk b13 27 [.int .i64 (kc : Int), .bool up, .int .i64 (x kc).num, .int .i64 (x kc).den, .slice (some ⟨b', 0, none⟩) N N, .slice A' qs.length c'], F]) ⟨rfl, rfl, rfl, rfl, rfl, rfl, trivial⟩ (by (exact Ent.auto)) ?_
  have hM8 := Mod30_spec what 8 hwhat (by omega) I1
  have h8 : 0 ≤ what % 8 ∧ what % 8 < 8 := by omega
  generalize what % 8 = w8 at hM8 h8
  repeat' first
    | ((with_reducible refine Nx.is_wp ?_); first | refine Nx.p_stopr 13 rfl ?_ | refine Nx.wo ?_ | refine Nx.zp (fun hc => ?_) (fun hc => ?_))
    | (refine Nx.zo ?_; first | refine Nx.opr rfl rfl ?_ | (refine Nx.call rfl rfl rfl (by kernel_rfl) rfl (FnSpec.keep [ratsR (some ⟨b', 0, none⟩) N N (rl N x), ratsR A' qs.length c' (rl qs.length wt)] hC) (by (exact Ent.auto)) ?_; rintro _ _ ⟨_, ⟨rfl, rfl⟩, rfl⟩) | refine Nx.callv rfl rfl rfl (by kernel_rfl) rfl hM8 ?_ | refine Nx.so ?_ | refine Nx.sb (fun bx => ?_) | refine Nx.sa (fun A2 c2 => ?_))
    | refine Nx.za ?_ | refine Nx.zr (fun hc => ?_) (fun hc => ?_)
    | refine Nx.zq ?_ | refine Nx.zu (fun hc => ?_) (fun hc => ?_)
    | refine Nx.zx ?_ | fail
  refine Nx.unstop ?_
  refine Nx.ent (R' := [rawsR (some ⟨b', 0, none⟩) N N ((rl N x).map rawOf), rawsR A' qs.length c' ((rl qs.length wt).map rawOf), Blk b13 27 [.int .i64 (kc : Int), .bool up, .int .i64 (rawOf (x kc)).1, .int .i64 (rawOf (x kc)).2, .slice (some ⟨b', 0, none⟩) N N, .slice A' qs.length c'], F]) (by unfold rawsR; rw [flat_raw, flat_raw]; (exact Ent.auto)) ?_
  have hPl : ((rl N x).map rawOf).length = N := by rw [List.length_map, rl_len]
  have hWl : ((rl qs.length wt).map rawOf).length = qs.length := by rw [List.length_map, rl_len]
  have hPr : ∀ y ∈ (rl N x).map rawOf, RawB y := fun y hy => by
    obtain ⟨z, hz, rfl⟩ := List.mem_map.1 hy
    obtain ⟨j, hj, rfl⟩ := List.mem_map.1 hz
    exact rawB_of (hxr j (List.mem_range.1 hj))
  have hWr : ∀ y ∈ (rl qs.length wt).map rawOf, RawB y := fun y hy => by
    obtain ⟨z, hz, rfl⟩ := List.mem_map.1 hy
    obtain ⟨j, hj, rfl⟩ := List.mem_map.1 hz
    exact rawB_of (hwr j (List.mem_range.1 hj))
  have hbr := rawB_of (hxr kc hkc)
  generalize (rl N x).map rawOf = P at hPl hPr ⊢
  generalize (rl qs.length wt).map rawOf = W at hWl hWr ⊢
  generalize rawOf (x kc) = bd at hbr ⊢
  clear hC g1 g2 g3 hxr hwr
  obtain ⟨bn, bdn⟩ := bd
  have hbn : -1152921504606846976 ≤ bn ∧ bn ≤ 1152921504606846976 ∧ 1 ≤ bdn ∧ bdn ≤ 1152921504606846976 := hbr
  dsimp only
  have hbnd : I64F (bn, bdn) := hbr.i64
  have hPi : ∀ y ∈ P, I64F y := fun y hy => (hPr y hy).i64
  have hWi : ∀ y ∈ W, I64F y := fun y hy => (hWr y hy).i64
  obtain rfl | rfl | rfl | rfl | rfl | rfl | rfl | rfl : w8 = 0 ∨ w8 = 1 ∨ w8 = 2 ∨ w8 = 3 ∨ w8 = 4 ∨ w8 = 5 ∨ w8 = 6 ∨ w8 = 7 := by omega
  · repeat' first
      | ((with_reducible refine Nx.is_wp ?_); first | refine Nx.p_stopr 28 rfl ?_ | refine Nx.wo ?_ | refine Nx.zp (fun hc => ?_) (fun hc => ?_))
      | (refine Nx.zo ?_; first | refine Nx.opr rfl rfl ?_ | refine Nx.so ?_ | refine Nx.sb (fun bx => ?_) | refine Nx.sa (fun A2 c2 => ?_))
      | refine Nx.za ?_ | refine Nx.zr (fun hc => ?_) (fun hc => ?_)
      | refine Nx.zq ?_ | refine Nx.zu (fun hc => ?_) (fun hc => ?_)
      | refine Nx.zx ?_ | fail
    exact Nx.unstop (Nx.weak (by exact ⟨rfl, rfl, rfl, trivial⟩) (by (exact Ent.auto)) (proofs_end w F N Aq cq qs b13 kc (!up) (bn, bdn) (some ⟨b', 0, none⟩) N N P A' qs.length c' W I I1 hI1 hq hT1 hbnd hPi hWi hPl hWl))
  · have hM := Mod30_spec by_ 12 hby (by omega) I1
    have hm : 0 ≤ by_ % 12 ∧ by_ % 12 < 12 := by omega
    generalize by_ % 12 = m at hM hm
    repeat' first
      | ((with_reducible refine Nx.is_wp ?_); first | refine Nx.p_stopr 28 rfl ?_ | refine Nx.wo ?_ | refine Nx.zp (fun hc => ?_) (fun hc => ?_))
      | (refine Nx.zo ?_; first | refine Nx.opr rfl rfl ?_ | refine Nx.callv rfl rfl rfl (by kernel_rfl) rfl hM ?_ | refine Nx.so ?_ | refine Nx.sb (fun bx => ?_) | refine Nx.sa (fun A2 c2 => ?_))
      | refine Nx.za ?_ | refine Nx.zr (fun hc => ?_) (fun hc => ?_)
      | refine Nx.zq ?_ | refine Nx.zu (fun hc => ?_) (fun hc => ?_)
      | refine Nx.zx ?_ | fail
    exact Nx.unstop (Nx.weak (by exact ⟨rfl, rfl, rfl, trivial⟩) (by (exact Ent.auto)) (proofs_end w F N Aq cq qs b13 (m - 2) up (bn, bdn) (some ⟨b', 0, none⟩) N N P A' qs.length c' W I I1 hI1 hq hT1 hbnd hPi hWi hPl hWl))
  · have hM := Mod30_spec by_ 5 hby (by omega) I1
    have hm : 0 ≤ by_ % 5 ∧ by_ % 5 < 5 := by omega
    generalize by_ % 5 = m at hM hm
    repeat' first
      | ((with_reducible refine Nx.is_wp ?_); first | refine Nx.p_stopr 28 rfl ?_ | refine Nx.wo ?_ | refine Nx.p_drawF (id := 6) rfl [0, 1, 2, 4, 5, 6, 3] [3] [7, 8] _ rfl rfl (by kernel_rfl) (by kernel_rfl) rfl PanicOk.auto (Ent.refl _) ?_ | refine Nx.p_drawF (id := 18) rfl [0, 1, 2, 3, 4, 5, 6, 7, 8] [4] [9] _ rfl rfl (by kernel_rfl) (by kernel_rfl) rfl PanicOk.auto (Ent.refl _) ?_ | refine Nx.p_drawF (id := 20) rfl [0, 1, 2, 3, 4, 5, 10, 6, 7, 8, 9, 11, 12, 13, 14, 15] [6, 11] [16] _ rfl rfl (by kernel_rfl) (by kernel_rfl) rfl PanicOk.auto (Ent.refl _) ?_ | refine Nx.p_drawF (id := 23) rfl [0, 1, 2, 3, 4, 5, 10, 6, 7, 8, 9, 11, 12, 13, 14, 15] [6, 11] [16] _ rfl rfl (by kernel_rfl) (by kernel_rfl) rfl PanicOk.auto (Ent.refl _) ?_ | refine Nx.p_drawF (id := 27) rfl [0, 1, 2, 3, 4, 5, 6, 7, 8, 9, 10, 11, 12, 13, 14, 15] [] [16] _ rfl rfl (by kernel_rfl) (by kernel_rfl) rfl PanicOk.auto (Ent.refl _) ?_ | refine Nx.p_drawF (id := 28) rfl [0, 1, 2, 4, 5, 6, 3] [3] [7, 8, 9, 10, 11, 12] _ rfl rfl (by kernel_rfl) (by kernel_rfl) rfl PanicOk.auto (Ent.refl _) ?_ | refine Nx.zp (fun hc => ?_) (fun hc => ?_))
      | (refine Nx.zo ?_; first | refine Nx.opr rfl rfl ?_ | refine Nx.callv rfl rfl rfl (by kernel_rfl) rfl hM ?_ | refine Nx.so ?_ | refine Nx.sb (fun bx => ?_) | refine Nx.sa (fun A2 c2 => ?_))
      | refine Nx.za ?_ | refine Nx.zr (fun hc => ?_) (fun hc => ?_)
      | refine Nx.zq ?_ | refine Nx.zu (fun hc => ?_) (fun hc => ?_)
      | refine Nx.zx ?_ | fail
    exact Nx.unstop (Nx.weak (by exact ⟨rfl, rfl, rfl, trivial⟩) (by (exact Ent.auto)) (proofs_end w F N Aq cq qs b13 kc up (bn + (m - 2), bdn) (some ⟨b', 0, none⟩) N N P A' qs.length c' W I I1 hI1 hq hT1 ⟨by show I64 (bn + (m - 2)); unfold I64; omega, hbnd.2⟩ hPi hWi hPl hWl))
  · obtain ⟨kk, hkk, hkN⟩ : ∃ kk : Nat, by_ % (N : Int) = (kk : Int) ∧ kk < N := ⟨(by_ % (N : Int)).toNat, by have := Int.emod_nonneg by_ (show (N : Int) ≠ 0 by omega); omega, by have := Int.emod_lt_of_pos by_ (show (0 : Int) < N by omega); omega⟩
    have hM1 := Mod30_spec by_ (N : Int) hby (by omega) I1
    rw [hkk] at hM1
    have hM2 := Mod30_spec by_ 7 hby (by omega) I1
    have hm : 0 ≤ by_ % 7 ∧ by_ % 7 < 7 := by omega
    generalize by_ % 7 = m at hM2 hm
    have hkP : kk < P.length := by omega
    obtain ⟨pn, pd, hP0, hy1, hy2, hy3, hy4⟩ := raw_at hPr hkP
    have hst := flat_set (f := frC0) (sz := 2) (fun _ => rfl) (l := P) (k := kk) (j := 0) (v := .int .i64 (pn + (m - 3))) (x' := (pn + (m - 3), pd)) hkP (by decide) (by rw [hP0]; rfl)
    repeat' first
      | ((with_reducible refine Nx.is_wp ?_); first | refine Nx.p_stopr 28 rfl ?_ | refine Nx.wo ?_ | refine Nx.p_drawF (id := 6) rfl [0, 1, 2, 4, 5, 6, 3] [3] [7, 8] _ rfl rfl (by kernel_rfl) (by kernel_rfl) rfl PanicOk.auto (Ent.refl _) ?_ | refine Nx.p_drawF (id := 18) rfl [0, 1, 2, 3, 4, 5, 6, 7, 8] [4] [9] _ rfl rfl (by kernel_rfl) (by kernel_rfl) rfl PanicOk.auto (Ent.refl _) ?_ | refine Nx.p_drawF (id := 20) rfl [0, 1, 2, 3, 4, 5, 10, 6, 7, 8, 9, 11, 12, 13, 14, 15] [6, 11] [16] _ rfl rfl (by kernel_rfl) (by kernel_rfl) rfl PanicOk.auto (Ent.refl _) ?_ | refine Nx.p_drawF (id := 23) rfl [0, 1, 2, 3, 4, 5, 10, 6, 7, 8, 9, 11, 12, 13, 14, 15] [6, 11] [16] _ rfl rfl (by kernel_rfl) (by kernel_rfl) rfl PanicOk.auto (Ent.refl _) ?_ | refine Nx.p_drawF (id := 27) rfl [0, 1, 2, 3, 4, 5, 6, 7, 8, 9, 10, 11, 12, 13, 14, 15] [] [16] _ rfl rfl (by kernel_rfl) (by kernel_rfl) rfl PanicOk.auto (Ent.refl _) ?_ | refine Nx.p_drawF (id := 28) rfl [0, 1, 2, 4, 5, 6, 3] [3] [7, 8, 9, 10, 11, 12] _ rfl rfl (by kernel_rfl) (by kernel_rfl) rfl PanicOk.auto (Ent.refl _) ?_ | refine Nx.zp (fun hc => ?_) (fun hc => ?_))
      | (refine Nx.zo ?_; first | refine Nx.opr rfl rfl ?_ | refine Nx.callv rfl rfl rfl (by kernel_rfl) rfl hM1 ?_ | refine Nx.callv rfl rfl rfl (by kernel_rfl) rfl hM2 ?_ | (refine Nx.store_fld (A := some ⟨b', 0, none⟩) (sz := 2) (i := kk) (j := 0) 0 rfl rfl rfl rfl rfl rfl (by omega) ?_; rw [hst]) | refine Nx.so ?_ | refine Nx.sb (fun bx => ?_) | refine Nx.sa (fun A2 c2 => ?_))
      | refine Nx.za ?_ | refine Nx.zr (fun hc => ?_) (fun hc => ?_)
      | ((with_reducible refine Nx.is_mix ?_); first | refine Nx.m_quiet rfl rfl rfl rfl rfl (by first | exact QRun.fld (A := (ad (some ⟨b', 0, none⟩)).add (kk * 2)) rfl rfl | exact QRun.opr rfl | exact QRun.idx (A := some ⟨b', 0, none⟩) (i := kk) (sz := 2) rfl rfl rfl rfl hkN rfl | exact QRun.load rfl rfl (Rd.vecFld (f := frC0) (sz := 2) (i := kk) (v := .int .i64 pn) 0 (fun _ => rfl) rfl hkP 0 (by rw [hP0]; rfl))) ?_ | refine Nx.m_quiet_do rfl rfl rfl rfl rfl rfl rfl (by first | exact QRun.fld (A := (ad (some ⟨b', 0, none⟩)).add (kk * 2)) rfl rfl | exact QRun.opr rfl | exact QRun.idx (A := some ⟨b', 0, none⟩) (i := kk) (sz := 2) rfl rfl rfl rfl hkN rfl | exact QRun.load rfl rfl (Rd.vecFld (f := frC0) (sz := 2) (i := kk) (v := .int .i64 pn) 0 (fun _ => rfl) rfl hkP 0 (by rw [hP0]; rfl))) ?_ | refine Nx.m ?_ | refine Nx.zm ?_ | refine Nx.zt (fun hc => ?_) (fun hc => ?_))
      | refine Nx.zx ?_ | fail
    exact Nx.unstop (Nx.weak (by exact ⟨rfl, rfl, rfl, trivial⟩) (by (exact Ent.auto)) (proofs_end w F N Aq cq qs b13 kc up (bn, bdn) (some ⟨b', 0, none⟩) N N (P.set kk (pn + (m - 3), pd)) A' qs.length c' W I I1 hI1 hq hT1 hbnd (raws_set hPi ⟨by show I64 (pn + (m - 3)); unfold I64; omega, by show I64 pd; unfold I64; omega⟩) hWi (by rw [List.length_set]; exact hPl) hWl))
  · by_cases hq0 : 0 < qs.length
    case neg =>
      repeat' first
        | ((with_reducible refine Nx.is_wp ?_); first | refine Nx.p_stopr 28 rfl ?_ | refine Nx.wo ?_ | refine Nx.zp (fun hc => ?_) (fun hc => ?_))
        | (refine Nx.zo ?_; first | refine Nx.opr rfl rfl ?_ | refine Nx.so ?_ | refine Nx.sb (fun bx => ?_) | refine Nx.sa (fun A2 c2 => ?_))
        | refine Nx.za ?_ | refine Nx.zr (fun hc => ?_) (fun hc => ?_)
        | refine Nx.zq ?_ | refine Nx.zu (fun hc => ?_) (fun hc => ?_)
        | refine Nx.zx ?_ | fail
      exact Nx.unstop (Nx.weak (by exact ⟨rfl, rfl, rfl, trivial⟩) (by (exact Ent.auto)) (proofs_end w F N Aq cq qs b13 kc up (bn, bdn) (some ⟨b', 0, none⟩) N N P A' qs.length c' W I I1 hI1 hq hT1 hbnd hPi hWi hPl hWl))
    obtain ⟨kk, hkk, hkN⟩ : ∃ kk : Nat, by_ % (qs.length : Int) = (kk : Int) ∧ kk < qs.length := ⟨(by_ % (qs.length : Int)).toNat, by have := Int.emod_nonneg by_ (show (qs.length : Int) ≠ 0 by omega); omega, by have := Int.emod_lt_of_pos by_ (show (0 : Int) < qs.length by omega); omega⟩
    have hM1 := Mod30_spec by_ (qs.length : Int) hby (by omega) I1
    rw [hkk] at hM1
    have hM2 := Mod30_spec by_ 7 hby (by omega) I1
    have hm : 0 ≤ by_ % 7 ∧ by_ % 7 < 7 := by omega
    generalize by_ % 7 = m at hM2 hm
    have hkP : kk < W.length := by omega
    obtain ⟨pn, pd, hP0, hy1, hy2, hy3, hy4⟩ := raw_at hWr hkP
    have hst := flat_set (f := frC0) (sz := 2) (fun _ => rfl) (l := W) (k := kk) (j := 0) (v := .int .i64 (pn + (m - 3))) (x' := (pn + (m - 3), pd)) hkP (by decide) (by rw [hP0]; rfl)
    refine Nx.pull 1 rfl ?_
    refine Nx.vec_fact fun _ _ _ hAs => ?_
    have hA' := hAs hq0
    repeat' first
      | ((with_reducible refine Nx.is_wp ?_); first | refine Nx.p_stopr 28 rfl ?_ | refine Nx.wo ?_ | refine Nx.p_drawF (id := 6) rfl [0, 1, 2, 4, 5, 6, 3] [3] [7, 8] _ rfl rfl (by kernel_rfl) (by kernel_rfl) rfl PanicOk.auto (Ent.refl _) ?_ | refine Nx.p_drawF (id := 18) rfl [0, 1, 2, 3, 4, 5, 6, 7, 8] [4] [9] _ rfl rfl (by kernel_rfl) (by kernel_rfl) rfl PanicOk.auto (Ent.refl _) ?_ | refine Nx.p_drawF (id := 20) rfl [0, 1, 2, 3, 4, 5, 10, 6, 7, 8, 9, 11, 12, 13, 14, 15] [6, 11] [16] _ rfl rfl (by kernel_rfl) (by kernel_rfl) rfl PanicOk.auto (Ent.refl _) ?_ | refine Nx.p_drawF (id := 23) rfl [0, 1, 2, 3, 4, 5, 10, 6, 7, 8, 9, 11, 12, 13, 14, 15] [6, 11] [16] _ rfl rfl (by kernel_rfl) (by kernel_rfl) rfl PanicOk.auto (Ent.refl _) ?_ | refine Nx.p_drawF (id := 27) rfl [0, 1, 2, 3, 4, 5, 6, 7, 8, 9, 10, 11, 12, 13, 14, 15] [] [16] _ rfl rfl (by kernel_rfl) (by kernel_rfl) rfl PanicOk.auto (Ent.refl _) ?_ | refine Nx.p_drawF (id := 28) rfl [0, 1, 2, 4, 5, 6, 3] [3] [7, 8, 9, 10, 11, 12] _ rfl rfl (by kernel_rfl) (by kernel_rfl) rfl PanicOk.auto (Ent.refl _) ?_ | refine Nx.zp (fun hc => ?_) (fun hc => ?_))
      | (refine Nx.zo ?_; first | refine Nx.opr rfl rfl ?_ | refine Nx.callv rfl rfl rfl (by kernel_rfl) rfl hM1 ?_ | refine Nx.callv rfl rfl rfl (by kernel_rfl) rfl hM2 ?_ | (refine Nx.store_fld (A := A') (sz := 2) (i := kk) (j := 0) 0 rfl rfl rfl rfl rfl rfl (by omega) ?_; rw [hst]) | refine Nx.so ?_ | refine Nx.sb (fun bx => ?_) | refine Nx.sa (fun A2 c2 => ?_))
      | refine Nx.za ?_ | refine Nx.zr (fun hc => ?_) (fun hc => ?_)
      | ((with_reducible refine Nx.is_mix ?_); first | refine Nx.m_quiet rfl rfl rfl rfl rfl (by first | exact QRun.fld (A := (ad A').add (kk * 2)) rfl rfl | exact QRun.opr rfl | exact QRun.idx (A := A') (i := kk) (sz := 2) rfl rfl rfl rfl hkN hA' | exact QRun.load rfl rfl (Rd.vecFld (f := frC0) (sz := 2) (i := kk) (v := .int .i64 pn) 0 (fun _ => rfl) rfl hkP 0 (by rw [hP0]; rfl))) ?_ | refine Nx.m_quiet_do rfl rfl rfl rfl rfl rfl rfl (by first | exact QRun.fld (A := (ad A').add (kk * 2)) rfl rfl | exact QRun.opr rfl | exact QRun.idx (A := A') (i := kk) (sz := 2) rfl rfl rfl rfl hkN hA' | exact QRun.load rfl rfl (Rd.vecFld (f := frC0) (sz := 2) (i := kk) (v := .int .i64 pn) 0 (fun _ => rfl) rfl hkP 0 (by rw [hP0]; rfl))) ?_ | refine Nx.m ?_ | refine Nx.zm ?_ | refine Nx.zt (fun hc => ?_) (fun hc => ?_))
      | refine Nx.zx ?_ | fail
    exact Nx.unstop (Nx.weak (by exact ⟨rfl, rfl, rfl, trivial⟩) (by (exact Ent.auto)) (proofs_end w F N Aq cq qs b13 kc up (bn, bdn) (some ⟨b', 0, none⟩) N N P A' qs.length c' (W.set kk (pn + (m - 3), pd)) I I1 hI1 hq hT1 hbnd hPi (raws_set hWi ⟨by show I64 (pn + (m - 3)); unfold I64; omega, by show I64 pd; unfold I64; omega⟩) hPl (by rw [List.length_set]; exact hWl)))
  · have hfl : (W ++ [((0 : Int), (1 : Int))]).flatMap frC0 = W.flatMap frC0 ++ [.int .i64 0, .int .i64 1] := by rw [List.flatMap_append]; rfl
    repeat' first
      | ((with_reducible refine Nx.is_wp ?_); first | refine Nx.p_stopr 28 rfl ?_ | refine Nx.wo ?_ | refine Nx.zp (fun hc => ?_) (fun hc => ?_))
      | (refine Nx.zo ?_; first | refine Nx.opr rfl rfl ?_ | refine Nx.so ?_ | refine Nx.sb (fun bx => ?_) | refine Nx.sa (fun A2 c2 => ?_))
      | refine Nx.za ?_ | refine Nx.zr (fun hc => ?_) (fun hc => ?_)
      | refine Nx.zq ?_ | refine Nx.zu (fun hc => ?_) (fun hc => ?_)
      | refine Nx.zx ?_ | fail
    exact Nx.unstop (Nx.weak (by exact ⟨rfl, rfl, rfl, trivial⟩) (by unfold rawsR; rw [hfl]; (exact Ent.auto)) (proofs_end w F N Aq cq qs b13 kc up (bn, bdn) (some ⟨b', 0, none⟩) N N P _ (qs.length + 1) _ (W ++ [((0 : Int), (1 : Int))]) I I1 hI1 hq hT1 hbnd hPi (fun y hy => (List.mem_append.1 hy).elim (hWi y) fun h => by rw [List.mem_singleton.1 h]; exact ⟨by show I64 0; unfold I64; omega, by show I64 1; unfold I64; omega⟩) hPl (by rw [List.length_append, hWl]; rfl)))
  · have hkP : 0 < P.length := by omega
    obtain ⟨pn, pd, hP0, hy1, hy2, hy3, hy4⟩ := raw_at hPr hkP
    repeat' first
      | ((with_reducible refine Nx.is_wp ?_); first | refine Nx.p_stopr 28 rfl ?_ | refine Nx.wo ?_ | refine Nx.p_drawF (id := 6) rfl [0, 1, 2, 4, 5, 6, 3] [3] [7, 8] _ rfl rfl (by kernel_rfl) (by kernel_rfl) rfl PanicOk.auto (Ent.refl _) ?_ | refine Nx.p_drawF (id := 18) rfl [0, 1, 2, 3, 4, 5, 6, 7, 8] [4] [9] _ rfl rfl (by kernel_rfl) (by kernel_rfl) rfl PanicOk.auto (Ent.refl _) ?_ | refine Nx.p_drawF (id := 20) rfl [0, 1, 2, 3, 4, 5, 10, 6, 7, 8, 9, 11, 12, 13, 14, 15] [6, 11] [16] _ rfl rfl (by kernel_rfl) (by kernel_rfl) rfl PanicOk.auto (Ent.refl _) ?_ | refine Nx.p_drawF (id := 23) rfl [0, 1, 2, 3, 4, 5, 10, 6, 7, 8, 9, 11, 12, 13, 14, 15] [6, 11] [16] _ rfl rfl (by kernel_rfl) (by kernel_rfl) rfl PanicOk.auto (Ent.refl _) ?_ | refine Nx.p_drawF (id := 27) rfl [0, 1, 2, 3, 4, 5, 6, 7, 8, 9, 10, 11, 12, 13, 14, 15] [] [16] _ rfl rfl (by kernel_rfl) (by kernel_rfl) rfl PanicOk.auto (Ent.refl _) ?_ | refine Nx.p_drawF (id := 28) rfl [0, 1, 2, 4, 5, 6, 3] [3] [7, 8, 9, 10, 11, 12] _ rfl rfl (by kernel_rfl) (by kernel_rfl) rfl PanicOk.auto (Ent.refl _) ?_ | refine Nx.zp (fun hc => ?_) (fun hc => ?_))
      | (refine Nx.zo ?_; first | refine Nx.opr rfl rfl ?_ | refine Nx.store_el2 (A := some ⟨b', 0, none⟩) (f := frC0) (a := fun z : RawF => .int .i64 z.1) (b := fun z : RawF => .int .i64 z.2) (i := 0) (z := (2 * pn, 2 * pd)) 0 rfl rfl rfl (fun _ => rfl) rfl rfl rfl rfl hkP (by omega) ?_ | refine Nx.so ?_ | refine Nx.sb (fun bx => ?_) | refine Nx.sa (fun A2 c2 => ?_))
      | refine Nx.za ?_ | refine Nx.zr (fun hc => ?_) (fun hc => ?_)
      | ((with_reducible refine Nx.is_mix ?_); first | refine Nx.m_quiet rfl rfl rfl rfl rfl (by first | exact QRun.fld (A := (ad (some ⟨b', 0, none⟩)).add (0 * 2)) rfl rfl | exact QRun.opr rfl | exact QRun.idx (A := some ⟨b', 0, none⟩) (i := 0) (sz := 2) rfl rfl rfl rfl (by omega) rfl | exact QRun.load rfl rfl (Rd.vecFld (f := frC0) (sz := 2) (i := 0) (v := .int .i64 pn) 0 (fun _ => rfl) rfl hkP 0 (by rw [hP0]; rfl)) | exact QRun.load rfl rfl (Rd.vecFld (f := frC0) (sz := 2) (i := 0) (v := .int .i64 pd) 0 (fun _ => rfl) rfl hkP 1 (by rw [hP0]; rfl))) ?_ | refine Nx.m_quiet_do rfl rfl rfl rfl rfl rfl rfl (by first | exact QRun.fld (A := (ad (some ⟨b', 0, none⟩)).add (0 * 2)) rfl rfl | exact QRun.opr rfl | exact QRun.idx (A := some ⟨b', 0, none⟩) (i := 0) (sz := 2) rfl rfl rfl rfl (by omega) rfl | exact QRun.load rfl rfl (Rd.vecFld (f := frC0) (sz := 2) (i := 0) (v := .int .i64 pn) 0 (fun _ => rfl) rfl hkP 0 (by rw [hP0]; rfl)) | exact QRun.load rfl rfl (Rd.vecFld (f := frC0) (sz := 2) (i := 0) (v := .int .i64 pd) 0 (fun _ => rfl) rfl hkP 1 (by rw [hP0]; rfl))) ?_ | refine Nx.m ?_ | refine Nx.zm ?_ | refine Nx.zt (fun hc => ?_) (fun hc => ?_))
      | refine Nx.zx ?_ | fail
    exact Nx.unstop (Nx.weak (by exact ⟨rfl, rfl, rfl, trivial⟩) (by (exact Ent.auto)) (proofs_end w F N Aq cq qs b13 kc up (bn, bdn) (some ⟨b', 0, none⟩) N N (P.set 0 (2 * pn, 2 * pd)) A' qs.length c' W I I1 hI1 hq hT1 hbnd (raws_set hPi ⟨by show I64 (2 * pn); unfold I64; omega, by show I64 (2 * pd); unfold I64; omega⟩) hWi (by rw [List.length_set]; exact hPl) hWl))
  · repeat' first
      | ((with_reducible refine Nx.is_wp ?_); first | refine Nx.p_stopr 28 rfl ?_ | refine Nx.wo ?_ | refine Nx.zp (fun hc => ?_) (fun hc => ?_))
      | (refine Nx.zo ?_; first | refine Nx.opr rfl rfl ?_ | refine Nx.so ?_ | refine Nx.sb (fun bx => ?_) | refine Nx.sa (fun A2 c2 => ?_))
      | refine Nx.za ?_ | refine Nx.zr (fun hc => ?_) (fun hc => ?_)
      | refine Nx.zq ?_ | refine Nx.zu (fun hc => ?_) (fun hc => ?_)
      | refine Nx.zx ?_ | fail
    exact Nx.unstop (Nx.weak (by exact ⟨rfl, rfl, rfl, trivial⟩) (by (exact Ent.auto)) (proofs_end w F N Aq cq qs b13 kc up (bn, bdn) (some ⟨b', 0, none⟩) N N P A' qs.length c' W I I1 hI1 hq hT1 hbnd hPi hWi hPl hWl))
end Go.Proofs.YtpcnapidlhpbkaaGreatDoor
namespace Go.Proofs.YtpcnapidlhpbkaaGreatDoor
open Go.Eng
theorem g64 : Tryz.prog.globalNamed  "math/bits.deBruijn64tab" = some 1 := by kernel_rfl
theorem g64T : (Tryz.prog.globals[1]?).map (·.type) = some 291 := by kernel_rfl
theorem c5 : Tryz.prog.cellsOf 5 = 1 := by kernel_rfl
theorem c79 : Tryz.prog.cellsOf 291 = 64 := by kernel_rfl
abbrev laid1 : List (String × DataW Unit) := [("math/bits.deBruijn64tab", Rows.laid_math_bits_deBruijn64tab)]
def setBlk (cs : List Value) : Obj → Obj
  | .cells _ t frozen => .cells cs.toArray t frozen
  | o => o
noncomputable def laidWorld (os : Os) : World :=
  { World.holding Tryz.prog os ⟨#[], #[], []⟩ with heap := (World.holding Tryz.prog os ⟨#[], #[], []⟩).heap.modify 1 (setBlk (Lib.deBruijn64tab.map fun z : Nat => Value.int .u8 z)) }
theorem laidWorld_met (os : Os) (args : Array Value) : laidMetH Tryz.prog laid1 ((laidWorld os).forCall (fun _ _ => 0) ⟨#[], args, []⟩).memory :=
  laidMetH_of_parts (laidMet_of_run' 8 (by kernel_rfl) (by kernel_rfl)) (by kernel_rfl)
theorem heap_keep {W w0 w : World} {R : List Res} (h : St w0 (fun i => W.heap[i]?) R w) {i : Nat} {o : Obj} (ho : W.heap[i]? = some o) : w.heap[i]? = some o := by
  obtain ⟨m, _, hs⟩ := h.mem
  exact hs.imm i o ho
theorem var_keep {W w0 w : World} {R : List Res} (h : St w0 (fun i => W.heap[i]?) R w) {P : Program} {name : String} {k : IntKind} {zs : List Int} (ht : Lib.TabIs P W name k zs) : Lib.TabIs P w name k zs := by
  unfold Lib.TabIs World.var? at *
  cases hg : P.globalNamed name with
  | none => simp [hg] at ht
  | some g =>
    simp only [hg, Option.bind_some] at ht ⊢
    cases ho : W.heap[g]? with
    | none => rw [ho] at ht; simp at ht
    | some o => rw [heap_keep h ho]; rw [ho] at ht; exact ht
theorem tab_of {W : World} (h : laidMetH Tryz.prog laid1 W) : TabI (fun i => W.heap[i]?) := fun _ _ _ hst j hj => by
  have h1 : Lib.TabIs Tryz.prog W  "math/bits.deBruijn64tab" .u8 (Lib.deBruijn64tab.map fun z : Nat => (z : Int)) := Lib.tabIs_of_head g64 g64T Tryz.underlying291 Tryz.underlying5 c5 c79 (h : laidMet Tryz.prog laid1 W)
  have h2 := (var_keep hst h1).cell g64 j (by rw [List.length_map]; exact hj)
  rw [show (Lib.deBruijn64tab.map fun z : Nat => (z : Int)).getD j 0 = ((Lib.deBruijn64tab.getD j 0 : Nat) : Int) by
    rw [List.getD_eq_getElem?_getD, List.getD_eq_getElem?_getD, List.getElem?_map]
    cases Lib.deBruijn64tab[j]? <;> rfl] at h2
  exact h2
end Go.Proofs.YtpcnapidlhpbkaaGreatDoor
