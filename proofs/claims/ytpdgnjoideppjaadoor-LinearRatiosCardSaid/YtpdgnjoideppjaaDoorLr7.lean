/- Contracts of functions of the given program, and lemmas about plain lists and numbers: what the laws of this seat lean on. -/
import Derived.Test.YtpdgnjoideppjaaDoorRows
import Derived.Test.YtpdgnjoideppjaaDoorChecked
import Derived.WalkKit
import Derived.ProofKit
import Derived.OpenShut
import Derived.LaidHandle
import Derived.LaidLaws
import Derived.Lib.LaidTab
import Derived.Stop.LaidErr
import Derived.Test.YtpdgnjoideppjaaDoorLr6
namespace Go.Proofs.YtpdgnjoideppjaaDoor
open Go.Eng Go.Det
attribute [local irreducible] opK wpList Code.wp Exit.then Exit.inBlock fnPost bodyPost Nx Calls Oper.wp Rd Rds Wr Ent Stars Blk Again Vec FnSpec wpMix QRun Stop Upto wpAt
set_option maxRecDepth 10000 in
set_option maxHeartbeats 8000000 in
theorem LinearRatios_spec (A : Option Addr) (c : Nat) (l : List Int) (t : Int) (I : PH) (hl : SliceOf (fun x : Int => Value.int .u8 x) I A c l) (hx : ∀ x ∈ l, 0 ≤ x ∧ x < 256) (ht : -128 ≤ t ∧ t < 128) (hT : TabI I) :
    FnSpec Tryd.prog 4 [.slice A l.length c, .int .i8 t] I [] (fun v R' => v = .bool true ∧ R' = []) := by
  obtain ⟨hL, hNew⟩ := New_codes A c l I hl hx
  refine FnSpec.enterP Tryd.func4 rfl Tryd.ntmps4 rfl fun w F => ?_
  repeat' first
    | ((with_reducible refine Nx.is_wp ?_); first | refine Nx.p_stopr 3 rfl ?_ | refine Nx.wo ?_ | refine Nx.p_dec rfl rfl (fun hc => ?_) (fun hc => ?_) | refine Nx.p_bool rfl rfl (fun hc => ?_) (fun hc => ?_))
    | ((first | refine Nx.at_op rfl rfl ?_ | refine Nx.m_loud rfl rfl rfl ?_ | refine Nx.at_do rfl rfl rfl rfl ?_ | refine Nx.m_loud_do rfl rfl rfl rfl rfl ?_); first | refine Nx.opr rfl rfl ?_ | refine Nx.call rfl rfl rfl (by kernel_rfl) rfl hNew (Ent.refl _) ?_; rintro _ _ ⟨bc, rfl, rfl⟩ | (refine Nx.call rfl rfl rfl (by kernel_rfl) rfl (Range_codes bc A c _ _ 2 4 I hL (Nat.zero_le _) (by omega) (by omega)) (by (exact Ent.auto)) ?_; rintro _ _ ⟨r, k1, rfl, hr, hk1, rfl⟩) | refine Nx.so ?_ | refine Nx.sb (fun bx => ?_) | refine Nx.sa (fun A2 c2 => ?_))
    | ((with_reducible refine Nx.is_at ?_); first | refine Nx.a ?_ | ((fail_if_success refine Nx.at_do rfl rfl rfl rfl ?_); first | refine Nx.at_dec_t rfl rfl rfl rfl (by first | assumption | omega) ?_ | refine Nx.at_dec_f rfl rfl rfl rfl (by first | assumption | omega) ?_ | refine Nx.at_split rfl rfl rfl rfl (fun hc => ?_) (fun hc => ?_) | refine Nx.at_splitb rfl rfl rfl rfl (fun hc => ?_) (fun hc => ?_)))
    | ((with_reducible refine Nx.is_mix ?_); first | refine Nx.m ?_ | ((fail_if_success refine Nx.m_quiet_do rfl rfl rfl rfl rfl rfl rfl ?_ ?_); (fail_if_success refine Nx.m_loud_do rfl rfl rfl rfl rfl ?_); first | refine Nx.m_dec_t rfl rfl rfl rfl (by first | assumption | omega) ?_ | refine Nx.m_dec_f rfl rfl rfl rfl (by first | assumption | omega) ?_ | refine Nx.m_split rfl rfl rfl rfl (fun hc => ?_) (fun hc => ?_) | refine Nx.m_splitb rfl rfl rfl rfl (fun hc => ?_) (fun hc => ?_)))
    | ((fail_if_success (with_reducible refine Nx.is_at ?_)); (fail_if_success (with_reducible refine Nx.is_wp ?_)); (fail_if_success (with_reducible refine Nx.is_mix ?_)); first | refine Nx.ex ?_)
  obtain ⟨n, rfl⟩ := Int.eq_ofNat_of_zero_le (show 0 ≤ r by omega)
  have hM1 := matrix_spec bc A c _ k1 n I hL hk1 (by omega)
  refine Nx.p_go rfl ?_
  repeat' first
    | ((with_reducible refine Nx.is_wp ?_); first | refine Nx.p_stopr 4 rfl ?_ | refine Nx.wo ?_ | refine Nx.p_dec rfl rfl (fun hc => ?_) (fun hc => ?_) | refine Nx.p_bool rfl rfl (fun hc => ?_) (fun hc => ?_))
    | ((first | refine Nx.at_op rfl rfl ?_ | refine Nx.m_loud rfl rfl rfl ?_ | refine Nx.at_do rfl rfl rfl rfl ?_ | refine Nx.m_loud_do rfl rfl rfl rfl rfl ?_); first | refine Nx.opr rfl rfl ?_ | (refine Nx.call rfl rfl rfl (by kernel_rfl) rfl hM1 (by (exact Ent.auto)) ?_; rintro _ _ ⟨A5, c5, a, k2, rfl, ha, hk2, rfl⟩) | refine Nx.so ?_ | refine Nx.sb (fun bx => ?_) | refine Nx.sa (fun A2 c2 => ?_))
    | ((with_reducible refine Nx.is_at ?_); first | refine Nx.a ?_ | ((fail_if_success refine Nx.at_do rfl rfl rfl rfl ?_); first | refine Nx.at_dec_t rfl rfl rfl rfl (by first | assumption | omega) ?_ | refine Nx.at_dec_f rfl rfl rfl rfl (by first | assumption | omega) ?_ | refine Nx.at_split rfl rfl rfl rfl (fun hc => ?_) (fun hc => ?_) | refine Nx.at_splitb rfl rfl rfl rfl (fun hc => ?_) (fun hc => ?_)))
    | ((with_reducible refine Nx.is_mix ?_); first | refine Nx.m ?_ | ((fail_if_success refine Nx.m_quiet_do rfl rfl rfl rfl rfl rfl rfl ?_ ?_); (fail_if_success refine Nx.m_loud_do rfl rfl rfl rfl rfl ?_); first | refine Nx.m_dec_t rfl rfl rfl rfl (by first | assumption | omega) ?_ | refine Nx.m_dec_f rfl rfl rfl rfl (by first | assumption | omega) ?_ | refine Nx.m_split rfl rfl rfl rfl (fun hc => ?_) (fun hc => ?_) | refine Nx.m_splitb rfl rfl rfl rfl (fun hc => ?_) (fun hc => ?_)))
    | ((fail_if_success (with_reducible refine Nx.is_at ?_)); (fail_if_success (with_reducible refine Nx.is_wp ?_)); (fail_if_success (with_reducible refine Nx.is_mix ?_)); first | refine Nx.ex ?_)
  refine Nx.unstop (Nx.ent (R' := [Vec 28 1 A5 a.length c5 (a.map rowV), Stars (a.map rowR), F]) (by (exact Ent.auto)) ?_)
  refine Nx.freezeAt 0 rfl fun I1 m1 hI1 hm1 h1' => ?_
  refine Nx.freezeAt 0 rfl fun I2 m2 hI2 hm2 h2' => ?_
  have hle : PH.le I I2 := hI1.trans hI2
  have hMa : Mat I2 A5 c5 a := mat_given (hm1.trans hI2) h1' hm2 h2'
  have hT2 := TabI.mono hle hT
  have hAw := awake_spec I2 hT2
  have hal := ha.len
  have hmade := ha.made
  have hC := Check_spec A5 c5 a I2 hMa
  have hZ := Zero_spec A5 c5 a I2 hMa
  by_cases h0 : chkE (matL a) = 0
  case neg =>
    repeat' first
      | ((with_reducible refine Nx.is_wp ?_); first | refine Nx.wo ?_ | refine Nx.p_dec rfl rfl (fun hc => ?_) (fun hc => ?_) | refine Nx.p_bool rfl rfl (fun hc => ?_) (fun hc => ?_))
      | ((first | refine Nx.at_op rfl rfl ?_ | refine Nx.m_loud rfl rfl rfl ?_ | refine Nx.at_do rfl rfl rfl rfl ?_ | refine Nx.m_loud_do rfl rfl rfl rfl rfl ?_); first | refine Nx.opr rfl rfl ?_ | refine Nx.callv rfl rfl rfl (by kernel_rfl) rfl hC ?_ | refine Nx.callv rfl rfl rfl (by kernel_rfl) rfl hAw ?_ | refine Nx.so ?_ | refine Nx.sb (fun bx => ?_) | refine Nx.sa (fun A2 c2 => ?_))
      | ((with_reducible refine Nx.is_at ?_); first | refine Nx.a ?_ | ((fail_if_success refine Nx.at_do rfl rfl rfl rfl ?_); first | refine Nx.at_dec_t rfl rfl rfl rfl (by first | assumption | omega) ?_ | refine Nx.at_dec_f rfl rfl rfl rfl (by first | assumption | omega) ?_ | refine Nx.at_split rfl rfl rfl rfl (fun hc => ?_) (fun hc => ?_) | refine Nx.at_splitb rfl rfl rfl rfl (fun hc => ?_) (fun hc => ?_)))
      | ((with_reducible refine Nx.is_mix ?_); first | refine Nx.m ?_ | ((fail_if_success refine Nx.m_quiet_do rfl rfl rfl rfl rfl rfl rfl ?_ ?_); (fail_if_success refine Nx.m_loud_do rfl rfl rfl rfl rfl ?_); first | refine Nx.m_dec_t rfl rfl rfl rfl (by first | assumption | omega) ?_ | refine Nx.m_dec_f rfl rfl rfl rfl (by first | assumption | omega) ?_ | refine Nx.m_split rfl rfl rfl rfl (fun hc => ?_) (fun hc => ?_) | refine Nx.m_splitb rfl rfl rfl rfl (fun hc => ?_) (fun hc => ?_)))
      | ((fail_if_success (with_reducible refine Nx.is_at ?_)); (fail_if_success (with_reducible refine Nx.is_wp ?_)); (fail_if_success (with_reducible refine Nx.is_mix ?_)); first | refine Nx.ex ?_)
    exact Nx.imm_le hle (Nx.ret_fn rfl [] ⟨rfl, rfl⟩ (by (exact Ent.auto)))
  rw [h0] at hC
  by_cases hz : detM (matL a) = 0
  case pos =>
    rw [show zeroB (matL a) = true from decide_eq_true ⟨h0, hz⟩] at hZ
    repeat' first
      | ((with_reducible refine Nx.is_wp ?_); first | refine Nx.wo ?_ | refine Nx.p_dec rfl rfl (fun hc => ?_) (fun hc => ?_) | refine Nx.p_bool rfl rfl (fun hc => ?_) (fun hc => ?_))
      | ((first | refine Nx.at_op rfl rfl ?_ | refine Nx.m_loud rfl rfl rfl ?_ | refine Nx.at_do rfl rfl rfl rfl ?_ | refine Nx.m_loud_do rfl rfl rfl rfl rfl ?_); first | refine Nx.opr rfl rfl ?_ | refine Nx.callv rfl rfl rfl (by kernel_rfl) rfl hC ?_ | refine Nx.callv rfl rfl rfl (by kernel_rfl) rfl hZ ?_ | refine Nx.callv rfl rfl rfl (by kernel_rfl) rfl hAw ?_ | refine Nx.so ?_ | refine Nx.sb (fun bx => ?_) | refine Nx.sa (fun A2 c2 => ?_))
      | ((with_reducible refine Nx.is_at ?_); first | refine Nx.a ?_ | ((fail_if_success refine Nx.at_do rfl rfl rfl rfl ?_); first | refine Nx.at_dec_t rfl rfl rfl rfl (by first | assumption | omega) ?_ | refine Nx.at_dec_f rfl rfl rfl rfl (by first | assumption | omega) ?_ | refine Nx.at_split rfl rfl rfl rfl (fun hc => ?_) (fun hc => ?_) | refine Nx.at_splitb rfl rfl rfl rfl (fun hc => ?_) (fun hc => ?_)))
      | ((with_reducible refine Nx.is_mix ?_); first | refine Nx.m ?_ | ((fail_if_success refine Nx.m_quiet_do rfl rfl rfl rfl rfl rfl rfl ?_ ?_); (fail_if_success refine Nx.m_loud_do rfl rfl rfl rfl rfl ?_); first | refine Nx.m_dec_t rfl rfl rfl rfl (by first | assumption | omega) ?_ | refine Nx.m_dec_f rfl rfl rfl rfl (by first | assumption | omega) ?_ | refine Nx.m_split rfl rfl rfl rfl (fun hc => ?_) (fun hc => ?_) | refine Nx.m_splitb rfl rfl rfl rfl (fun hc => ?_) (fun hc => ?_)))
      | ((fail_if_success (with_reducible refine Nx.is_at ?_)); (fail_if_success (with_reducible refine Nx.is_wp ?_)); (fail_if_success (with_reducible refine Nx.is_mix ?_)); first | refine Nx.ex ?_)
    exact Nx.imm_le hle (Nx.ret_fn rfl [] ⟨rfl, rfl⟩ (by (exact Ent.auto)))
  rw [show zeroB (matL a) = false from decide_eq_false fun h => hz h.2] at hZ
  obtain ⟨x0, x1, rest, rfl⟩ : ∃ x0 x1 rest, a = x0 :: x1 :: rest := by
    match a, hal with
    | [], h => simp at h; omega
    | [_], h => simp at h; omega
    | x0 :: x1 :: rest, _ => exact ⟨x0, x1, rest, rfl⟩
  have hmL : matL (x0 :: x1 :: rest) = x0.2.2 :: x1.2.2 :: matL rest := rfl
  rw [hmL] at hmade h0 hz
  have hR1 := Ratio_spec A5 A5 c5 c5 _ _ I2 hT2 hMa hMa
  rw [hmL, ratio_self h0 hz] at hR1
  repeat' first
    | ((with_reducible refine Nx.is_wp ?_); first | refine Nx.p_stopr 8 rfl ?_ | refine Nx.wo ?_ | refine Nx.p_dec rfl rfl (fun hc => ?_) (fun hc => ?_) | refine Nx.p_bool rfl rfl (fun hc => ?_) (fun hc => ?_))
    | ((first | refine Nx.at_op rfl rfl ?_ | refine Nx.m_loud rfl rfl rfl ?_ | refine Nx.at_do rfl rfl rfl rfl ?_ | refine Nx.m_loud_do rfl rfl rfl rfl rfl ?_); first | refine Nx.opr rfl rfl ?_ | refine Nx.callv rfl rfl rfl (by kernel_rfl) rfl hC ?_ | refine Nx.callv rfl rfl rfl (by kernel_rfl) rfl hZ ?_ | refine Nx.callv rfl rfl rfl (by kernel_rfl) rfl hR1 ?_ | (refine Nx.ent (Ent.vec_nil 28 1 _) ?_; refine Nx.append rfl rfl rfl rfl (by kernel_rfl) rfl (Src.arr hMa.outer.arr (by simp) (by omega) (fun u hu => by obtain ⟨z, _, rfl⟩ := List.mem_map.1 hu; rfl)) (by omega) fun A8 c8 => ?_) | refine Nx.so ?_ | refine Nx.sb (fun bx => ?_) | refine Nx.sa (fun A2 c2 => ?_))
    | ((with_reducible refine Nx.is_at ?_); first | refine Nx.a ?_ | ((fail_if_success refine Nx.at_do rfl rfl rfl rfl ?_); first | refine Nx.at_dec_t rfl rfl rfl rfl (by first | assumption | omega) ?_ | refine Nx.at_dec_f rfl rfl rfl rfl (by first | assumption | omega) ?_ | refine Nx.at_split rfl rfl rfl rfl (fun hc => ?_) (fun hc => ?_) | refine Nx.at_splitb rfl rfl rfl rfl (fun hc => ?_) (fun hc => ?_)))
    | ((with_reducible refine Nx.is_mix ?_); first | refine Nx.m ?_ | ((fail_if_success refine Nx.m_quiet_do rfl rfl rfl rfl rfl rfl rfl ?_ ?_); (fail_if_success refine Nx.m_loud_do rfl rfl rfl rfl rfl ?_); first | refine Nx.m_dec_t rfl rfl rfl rfl (by first | assumption | omega) ?_ | refine Nx.m_dec_f rfl rfl rfl rfl (by first | assumption | omega) ?_ | refine Nx.m_split rfl rfl rfl rfl (fun hc => ?_) (fun hc => ?_) | refine Nx.m_splitb rfl rfl rfl rfl (fun hc => ?_) (fun hc => ?_)))
    | ((fail_if_success (with_reducible refine Nx.is_at ?_)); (fail_if_success (with_reducible refine Nx.is_wp ?_)); (fail_if_success (with_reducible refine Nx.is_mix ?_)); first | refine Nx.ex ?_)
  rename_i A7 c7
  revert bx; intro b8
  have e7 : Value.slice A5 (x0 :: x1 :: rest).length c5 = .slice A5 n c5 := by rw [hal]
  have e10 : Value.slice A7 (0 + (x0 :: x1 :: rest).length) c7 = .slice A7 n c7 := by rw [hal, Nat.zero_add]
  have e11 : Value.slice A8 (0 + (x0 :: x1 :: rest).length) c8 = .slice A8 n c8 := by rw [hal, Nat.zero_add]
  refine Nx.p_go rfl (Nx.weak (e' := [(1, .int .i8 t), (7, .slice A5 n c5), (8, .pointer (some ⟨b8, 0, none⟩)), (9, .int .i64 0), (10, .slice A7 n c7), (11, .slice A8 n c8)]) (R' := [Vec 28 1 A7 n c7 ((x0 :: x1 :: rest).map rowV), Vec 28 1 A8 n c8 ((x0 :: x1 :: rest).map rowV), Blk b8 37 [.int .i64 1, .int .i64 1], F]) ⟨rfl, by rw [← e7]; rfl, rfl, rfl, by rw [← e10]; rfl, by rw [← e11]; rfl, trivial⟩ (by rw [hal, Nat.zero_add]; (exact Ent.auto)) ?_)
  refine Nx.vec_fact fun hv1 hv2 hv3 hA7 => ?_
  have hlen2 : 2 ≤ n := by omega
  have hrd0 : ∀ (W : World) (R : List Res), Rd W I2 R ((ad A5).add (0 * 1)) (rowV x0) := fun W R => hMa.outer.rd (k := 0) (by omega)
  have hrd1 : ∀ (W : World) (R : List Res), Rd W I2 R ((ad A5).add (1 * 1)) (rowV x1) := fun W R => hMa.outer.rd (k := 1) (by omega)
  have hA5 := hMa.outer.isSome (by omega : 0 < (x0 :: x1 :: rest).length)
  repeat' first
    | ((with_reducible refine Nx.is_wp ?_); first | refine Nx.p_stopr 9 rfl ?_ | refine Nx.wo ?_ | refine Nx.p_drawF (id := 8) rfl [0, 1, 2, 3, 4, 5, 6, 7, 8, 9, 10] [9] [11] _ rfl rfl (by kernel_rfl) (by kernel_rfl) rfl (by repeat first | exact PanicOk.fn | refine PanicOk.then_ ?_ | refine PanicOk.inB ?_) (Ent.eraseK 0 _) ?_ | refine Nx.p_dec rfl rfl (fun hc => ?_) (fun hc => ?_) | refine Nx.p_bool rfl rfl (fun hc => ?_) (fun hc => ?_))
    | ((first | refine Nx.at_op rfl rfl ?_ | refine Nx.m_loud rfl rfl rfl ?_ | refine Nx.at_do rfl rfl rfl rfl ?_ | refine Nx.m_loud_do rfl rfl rfl rfl rfl ?_); first | refine Nx.opr rfl rfl ?_ | refine Nx.store_of 0 rowV rfl rfl rfl rfl rfl rfl (by omega) ?_ | refine Nx.so ?_ | refine Nx.sb (fun bx => ?_) | refine Nx.sa (fun A2 c2 => ?_))
    | ((with_reducible refine Nx.is_at ?_); first | refine Nx.a ?_ | ((fail_if_success refine Nx.at_do rfl rfl rfl rfl ?_); first | refine Nx.at_dec_t rfl rfl rfl rfl (by first | assumption | omega) ?_ | refine Nx.at_dec_f rfl rfl rfl rfl (by first | assumption | omega) ?_ | refine Nx.at_split rfl rfl rfl rfl (fun hc => ?_) (fun hc => ?_) | refine Nx.at_splitb rfl rfl rfl rfl (fun hc => ?_) (fun hc => ?_)))
    | ((with_reducible refine Nx.is_mix ?_); first | refine Nx.m_quiet rfl rfl rfl rfl rfl (by first | exact QRun.opr rfl | exact QRun.idx (A := A5) (i := 1) (sz := 1) rfl rfl rfl rfl (by omega) hA5 | exact QRun.idx (A := A5) (i := 0) (sz := 1) rfl rfl rfl rfl (by omega) hA5 | exact QRun.load rfl rfl (hrd0 _ _) | exact QRun.load rfl rfl (hrd1 _ _) | exact QRun.idx (A := A7) (i := 0) (sz := 1) rfl rfl rfl rfl (by omega) (hA7 (by omega)) | exact QRun.idx (A := A7) (i := 1) (sz := 1) rfl rfl rfl rfl (by omega) (hA7 (by omega))) ?_ | refine Nx.m_quiet_do rfl rfl rfl rfl rfl rfl rfl (by first | exact QRun.opr rfl | exact QRun.idx (A := A5) (i := 1) (sz := 1) rfl rfl rfl rfl (by omega) hA5 | exact QRun.idx (A := A5) (i := 0) (sz := 1) rfl rfl rfl rfl (by omega) hA5 | exact QRun.load rfl rfl (hrd0 _ _) | exact QRun.load rfl rfl (hrd1 _ _) | exact QRun.idx (A := A7) (i := 0) (sz := 1) rfl rfl rfl rfl (by omega) (hA7 (by omega)) | exact QRun.idx (A := A7) (i := 1) (sz := 1) rfl rfl rfl rfl (by omega) (hA7 (by omega))) ?_ | refine Nx.m ?_ | ((fail_if_success refine Nx.m_quiet_do rfl rfl rfl rfl rfl rfl rfl ?_ ?_); (fail_if_success refine Nx.m_loud_do rfl rfl rfl rfl rfl ?_); first | refine Nx.m_dec_t rfl rfl rfl rfl (by first | assumption | omega) ?_ | refine Nx.m_dec_f rfl rfl rfl rfl (by first | assumption | omega) ?_ | refine Nx.m_split rfl rfl rfl rfl (fun hc => ?_) (fun hc => ?_) | refine Nx.m_splitb rfl rfl rfl rfl (fun hc => ?_) (fun hc => ?_)))
    | ((fail_if_success (with_reducible refine Nx.is_at ?_)); (fail_if_success (with_reducible refine Nx.is_wp ?_)); (fail_if_success (with_reducible refine Nx.is_mix ?_)); first | refine Nx.ex ?_)
  refine Nx.p_go rfl (Nx.ent (R' := [Vec 28 1 A7 n c7 ((x1 :: x0 :: rest).map rowV), Vec 28 1 A8 n c8 ((x0 :: x1 :: rest).map rowV), Blk b8 37 [.int .i64 1, .int .i64 1], F]) (by (exact Ent.auto)) ?_)
  refine Nx.freezeAt 0 rfl fun I3 m3 hI3 hm3 h3' => ?_
  have hMa3 := hMa.mono hI3
  have hx0 := hMa3.rows x0 (by simp)
  have hx1 := hMa3.rows x1 (by simp)
  have hl0 : x0.2.2.length = n := hmade.row _ (by simp)
  have hrd3 : ∀ (W : World) (R : List Res), Rd W I3 R ((ad A5).add (0 * 1)) (.slice x0.1 n x0.2.1) := fun W R => by
    have := hMa3.outer.rd (W := W) (R := R) (k := 0) (by omega)
    rw [show rowV ((x0 :: x1 :: rest).getD 0 default) = .slice x0.1 n x0.2.1 by rw [← hl0]; rfl] at this
    exact this
  have hbig : ∀ k, k < n → -12884901888 ≤ x0.2.2.getD k default ∧ x0.2.2.getD k default ≤ 12884901888 := fun k hk => (ha.ent 0 k (by omega) hk).1
  have hcv : I64 t := by unfold I64; omega
  repeat' first
    | ((with_reducible refine Nx.is_wp ?_); first | refine Nx.wo ?_ | refine Nx.p_dec rfl rfl (fun hc => ?_) (fun hc => ?_) | refine Nx.p_bool rfl rfl (fun hc => ?_) (fun hc => ?_))
    | ((first | refine Nx.at_op rfl rfl ?_ | refine Nx.m_loud rfl rfl rfl ?_ | refine Nx.at_do rfl rfl rfl rfl ?_ | refine Nx.m_loud_do rfl rfl rfl rfl rfl ?_); first | refine Nx.opr rfl rfl ?_ | refine Nx.indexAddr_nat (A := A5) (i := 0) (sz := 1) rfl rfl rfl rfl rfl (by omega) hA5 ?_ | refine Nx.load rfl rfl rfl (hrd3 _ _) ?_ | refine Nx.so ?_ | refine Nx.sb (fun bx => ?_) | refine Nx.sa (fun A2 c2 => ?_))
    | ((with_reducible refine Nx.is_at ?_); first | refine Nx.a ?_ | ((fail_if_success refine Nx.at_do rfl rfl rfl rfl ?_); first | refine Nx.at_dec_t rfl rfl rfl rfl (by first | assumption | omega) ?_ | refine Nx.at_dec_f rfl rfl rfl rfl (by first | assumption | omega) ?_ | refine Nx.at_split rfl rfl rfl rfl (fun hc => ?_) (fun hc => ?_) | refine Nx.at_splitb rfl rfl rfl rfl (fun hc => ?_) (fun hc => ?_)))
    | ((with_reducible refine Nx.is_mix ?_); first | refine Nx.m ?_ | ((fail_if_success refine Nx.m_quiet_do rfl rfl rfl rfl rfl rfl rfl ?_ ?_); (fail_if_success refine Nx.m_loud_do rfl rfl rfl rfl rfl ?_); first | refine Nx.m_dec_t rfl rfl rfl rfl (by first | assumption | omega) ?_ | refine Nx.m_dec_f rfl rfl rfl rfl (by first | assumption | omega) ?_ | refine Nx.m_split rfl rfl rfl rfl (fun hc => ?_) (fun hc => ?_) | refine Nx.m_splitb rfl rfl rfl rfl (fun hc => ?_) (fun hc => ?_)))
    | ((fail_if_success (with_reducible refine Nx.is_at ?_)); (fail_if_success (with_reducible refine Nx.is_wp ?_)); (fail_if_success (with_reducible refine Nx.is_mix ?_)); first | refine Nx.ex ?_)
  refine Nx.blk_vec 0 0 1 rfl rfl (by omega) ?_
  obtain ⟨rl, hrl⟩ : ∃ rl : Nat → List Int, rl = fun k => (x0.2.2.take k).map (· * t) := ⟨_, rfl⟩
  have hrll : ∀ k, k ≤ n → (rl k).length = k := fun k hk => by rw [hrl]; dsimp only; rw [List.length_map, List.length_take]; omega
  have hrls : ∀ k, k < n → rl (k + 1) = rl k ++ [x0.2.2.getD k default * t] := fun k hk => by rw [hrl]; dsimp only; rw [take_snocI (by omega), List.map_append]; rfl
  have hrl0 : rl 0 = [] := by rw [hrl]; rfl
  have hrln : rl n = x0.2.2.map (· * t) := by rw [hrl]; dsimp only; rw [← hl0, List.take_length]
  refine Nx.p_loop (σ := Nat × Option Addr × Nat) (fun x => [(1, .int .i8 t), (7, .slice A5 n c5), (8, .pointer (some ⟨b8, 0, none⟩)), (9, .int .i64 0), (10, .slice A7 n c7), (11, .slice A8 n c8), (12, .slice x.2.1 (rl x.1).length x.2.2), (57, .int .i64 (n : Int)), (58, .int .i64 (x.1 : Int))])
    (fun x => [intsR x.2.1 x.2.2 (rl x.1), Vec 28 1 A8 n c8 ((x0 :: x1 :: rest).map rowV), Blk b8 37 [.int .i64 1, .int .i64 1], F]) (fun x => x.1 ≤ n) (fun x => n - x.1) (0, some ⟨bx, 0, none⟩, 0) rfl (Nat.zero_le _) ⟨rfl, rfl, rfl, rfl, rfl, rfl, by dsimp only; rw [hrl0]; rfl, rfl, rfl, trivial⟩ (by dsimp only; rw [hrl0]; (exact Ent.auto)) ?_
  rintro ⟨k, Ar, cr'⟩ hk
  have hk : k ≤ n := hk
  dsimp only
  have hlk := hrll k hk
  by_cases hkn : k < n
  · have hb := hbig k hkn
    have hxk : ∀ (W : World) (R : List Res), Rd W I3 R ((ad x0.1).add (k * 1)) (.int .i64 (x0.2.2.getD k default)) := fun W R => hx0.rd (by omega)
    have hsn := hrls k hkn
    have hss := hrll (k + 1) (by omega)
    generalize x0.2.2.getD k default = y at hb hxk hsn
    have hp : -1649267441664 ≤ y * t ∧ y * t ≤ 1649267441664 := by
      have h1 : (y * t).natAbs ≤ 12884901888 * 128 := by rw [Int.natAbs_mul]; exact Nat.mul_le_mul (by omega) (by omega)
      omega
    repeat' first
      | ((with_reducible refine Nx.is_wp ?_); first | refine Nx.wo ?_ | refine Nx.p_dec rfl rfl (fun hc => ?_) (fun hc => ?_) | refine Nx.p_bool rfl rfl (fun hc => ?_) (fun hc => ?_))
      | ((first | refine Nx.at_op rfl rfl ?_ | refine Nx.m_loud rfl rfl rfl ?_ | refine Nx.at_do rfl rfl rfl rfl ?_ | refine Nx.m_loud_do rfl rfl rfl rfl rfl ?_); first | refine Nx.opr rfl rfl ?_ | refine Nx.indexAddr_nat (A := A5) (i := 0) (sz := 1) rfl rfl rfl rfl rfl (by omega) hA5 ?_ | refine Nx.load rfl rfl rfl (hrd3 _ _) ?_ | refine Nx.indexAddr_nat (A := x0.1) (i := k) (sz := 1) rfl rfl rfl rfl rfl (by omega) (hx0.isSome (by omega)) ?_ | refine Nx.load rfl rfl rfl (hxk _ _) ?_ | refine Nx.so ?_ | refine Nx.sb (fun bx => ?_) | refine Nx.sa (fun A2 c2 => ?_))
      | ((with_reducible refine Nx.is_at ?_); first | refine Nx.a ?_ | ((fail_if_success refine Nx.at_do rfl rfl rfl rfl ?_); first | refine Nx.at_dec_t rfl rfl rfl rfl (by first | assumption | omega) ?_ | refine Nx.at_dec_f rfl rfl rfl rfl (by first | assumption | omega) ?_ | refine Nx.at_split rfl rfl rfl rfl (fun hc => ?_) (fun hc => ?_) | refine Nx.at_splitb rfl rfl rfl rfl (fun hc => ?_) (fun hc => ?_)))
      | ((with_reducible refine Nx.is_mix ?_); first | refine Nx.m ?_ | ((fail_if_success refine Nx.m_quiet_do rfl rfl rfl rfl rfl rfl rfl ?_ ?_); (fail_if_success refine Nx.m_loud_do rfl rfl rfl rfl rfl ?_); first | refine Nx.m_dec_t rfl rfl rfl rfl (by first | assumption | omega) ?_ | refine Nx.m_dec_f rfl rfl rfl rfl (by first | assumption | omega) ?_ | refine Nx.m_split rfl rfl rfl rfl (fun hc => ?_) (fun hc => ?_) | refine Nx.m_splitb rfl rfl rfl rfl (fun hc => ?_) (fun hc => ?_)))
      | ((fail_if_success (with_reducible refine Nx.is_at ?_)); (fail_if_success (with_reducible refine Nx.is_wp ?_)); (fail_if_success (with_reducible refine Nx.is_mix ?_)); first | refine Nx.ex ?_)
    have ev : Value.slice A2 ((rl k).length + 1) c2 = .slice A2 (rl (k + 1)).length c2 := by rw [hss, hlk]
    have er : intsR A2 c2 (rl (k + 1)) = Vec 3 1 A2 ((rl k).length + 1) c2 ((rl k).map (Value.int .i64) ++ [.int .i64 (y * t)]) := by
      unfold intsR
      rw [hss, hsn, List.map_append, hlk]
      rfl
    exact Nx.again (k + 1, A2, c2) hkn (by dsimp only; omega) ⟨rfl, rfl, rfl, rfl, rfl, rfl, by dsimp only; rw [← ev]; rfl, rfl, rfl, trivial⟩ (by dsimp only; rw [er]; (exact Ent.auto))
  have hk' : k = n := by omega
  subst hk'
  rw [hrln]
  have hrl9 : (x0.2.2.map (· * t)).length = k := by rw [List.length_map]; exact hl0
  have hMt : Mat I3 A7 c7 (x1 :: x0 :: rest) := ⟨Vec.sliceOf (t := 28) hm3 (by rw [show (x1 :: x0 :: rest).length = k from hal]; exact h3'), fun r hr => hMa3.rows r (by simp at hr ⊢; rcases hr with h | h | h <;> simp [h])⟩
  refine Nx.ent (R' := [Vec 28 1 A8 k c8 ((x0 :: x1 :: rest).map rowV), intsR Ar cr' (x0.2.2.map (· * t)), Blk b8 37 [.int .i64 1, .int .i64 1], F]) (by (exact Ent.auto)) ?_
  refine Nx.vec_fact fun hw1 hw2 hw3 hA8 => ?_
  repeat' first
    | ((with_reducible refine Nx.is_wp ?_); first | refine Nx.p_stopr 16 rfl ?_ | refine Nx.wo ?_ | refine Nx.p_dec rfl rfl (fun hc => ?_) (fun hc => ?_) | refine Nx.p_bool rfl rfl (fun hc => ?_) (fun hc => ?_))
    | ((first | refine Nx.at_op rfl rfl ?_ | refine Nx.m_loud rfl rfl rfl ?_ | refine Nx.at_do rfl rfl rfl rfl ?_ | refine Nx.m_loud_do rfl rfl rfl rfl rfl ?_); first | refine Nx.opr rfl rfl ?_ | refine Nx.indexAddr_nat (A := A8) (i := 0) (sz := 1) rfl rfl rfl rfl rfl (by omega) (hA8 (by omega)) ?_ | refine Nx.store_of 0 rowV (z := (Ar, cr', x0.2.2.map (· * t))) rfl rfl rfl rfl rfl rfl (by omega) ?_ | refine Nx.so ?_ | refine Nx.sb (fun bx => ?_) | refine Nx.sa (fun A2 c2 => ?_))
    | ((with_reducible refine Nx.is_at ?_); first | refine Nx.a ?_ | ((fail_if_success refine Nx.at_do rfl rfl rfl rfl ?_); first | refine Nx.at_dec_t rfl rfl rfl rfl (by first | assumption | omega) ?_ | refine Nx.at_dec_f rfl rfl rfl rfl (by first | assumption | omega) ?_ | refine Nx.at_split rfl rfl rfl rfl (fun hc => ?_) (fun hc => ?_) | refine Nx.at_splitb rfl rfl rfl rfl (fun hc => ?_) (fun hc => ?_)))
    | ((with_reducible refine Nx.is_mix ?_); first | refine Nx.m ?_ | ((fail_if_success refine Nx.m_quiet_do rfl rfl rfl rfl rfl rfl rfl ?_ ?_); (fail_if_success refine Nx.m_loud_do rfl rfl rfl rfl rfl ?_); first | refine Nx.m_dec_t rfl rfl rfl rfl (by first | assumption | omega) ?_ | refine Nx.m_dec_f rfl rfl rfl rfl (by first | assumption | omega) ?_ | refine Nx.m_split rfl rfl rfl rfl (fun hc => ?_) (fun hc => ?_) | refine Nx.m_splitb rfl rfl rfl rfl (fun hc => ?_) (fun hc => ?_)))
    | ((fail_if_success (with_reducible refine Nx.is_at ?_)); (fail_if_success (with_reducible refine Nx.is_wp ?_)); (fail_if_success (with_reducible refine Nx.is_mix ?_)); first | refine Nx.ex ?_)
  refine Nx.p_go rfl (Nx.ent (R' := [Vec 28 1 A8 k c8 (((Ar, cr', x0.2.2.map (· * t)) :: x1 :: rest).map rowV), intsR Ar cr' (x0.2.2.map (· * t)), Blk b8 37 [.int .i64 1, .int .i64 1], F]) (by (exact Ent.auto)) ?_)
  refine Nx.freezeAt 0 rfl fun I4 m4 hI4 hm4 h4' => ?_
  refine Nx.freezeAt 0 rfl fun I5 m5 hI5 hm5 h5' => ?_
  have hle5 : PH.le I3 I5 := hI4.trans hI5
  have hle0 : PH.le I I5 := (hle.trans hI3).trans hle5
  have hT5 := TabI.mono hle0 hT
  have hMa5 := hMa3.mono hle5
  have hMt5 := hMt.mono hle5
  have hMs : Mat I5 A8 c8 ((Ar, cr', x0.2.2.map (· * t)) :: x1 :: rest) := ⟨Vec.sliceOf (t := 28) (hm4.trans hI5) (by rw [show ((Ar, cr', x0.2.2.map (· * t)) :: x1 :: rest).length = k from hal]; exact h4'), fun r hr => by
    rcases List.mem_cons.1 hr with rfl | hr
    · exact Vec.sliceOf (t := 3) hm5 h5'
    · exact hMa5.rows r (by simp [hr])⟩
  have hAw5 := awake_spec I5 hT5
  have hR2 := Ratio_spec A7 A5 c7 c5 _ _ I5 hT5 hMt5 hMa5
  rw [hmL, show matL (x1 :: x0 :: rest) = x1.2.2 :: x0.2.2 :: matL rest from rfl, ratio_turn h0 hz, hal, show (x1 :: x0 :: rest).length = k from hal] at hR2
  have hR3 := Ratio_spec A8 A5 c8 c5 _ _ I5 hT5 hMs hMa5
  rw [hmL, show matL ((Ar, cr', x0.2.2.map (· * t)) :: x1 :: rest) = x0.2.2.map (· * t) :: x1.2.2 :: matL rest from rfl, hal, show ((Ar, cr', x0.2.2.map (· * t)) :: x1 :: rest).length = k from hal] at hR3
  rcases ratio_scale hmade (by omega) h0 hz ht with hs | hs <;> rw [hs] at hR3
  · repeat' first
      | ((with_reducible refine Nx.is_wp ?_); first | refine Nx.wo ?_ | refine Nx.p_dec rfl rfl (fun hc => ?_) (fun hc => ?_) | refine Nx.p_bool rfl rfl (fun hc => ?_) (fun hc => ?_))
      | ((first | refine Nx.at_op rfl rfl ?_ | refine Nx.m_loud rfl rfl rfl ?_ | refine Nx.at_do rfl rfl rfl rfl ?_ | refine Nx.m_loud_do rfl rfl rfl rfl rfl ?_); first | refine Nx.opr rfl rfl ?_ | refine Nx.callv rfl rfl rfl (by kernel_rfl) rfl hR2 ?_ | refine Nx.callv rfl rfl rfl (by kernel_rfl) rfl hR3 ?_ | refine Nx.binr rfl rfl (neq_same _ _) rfl ?_ | refine Nx.binr rfl rfl (eql_same _ _) rfl ?_ | refine Nx.callv rfl rfl rfl (by kernel_rfl) rfl hAw5 ?_ | refine Nx.so ?_ | refine Nx.sb (fun bx => ?_) | refine Nx.sa (fun A2 c2 => ?_))
      | ((with_reducible refine Nx.is_at ?_); first | refine Nx.a ?_ | ((fail_if_success refine Nx.at_do rfl rfl rfl rfl ?_); first | refine Nx.at_dec_t rfl rfl rfl rfl (by first | assumption | omega) ?_ | refine Nx.at_dec_f rfl rfl rfl rfl (by first | assumption | omega) ?_ | refine Nx.at_split rfl rfl rfl rfl (fun hc => ?_) (fun hc => ?_) | refine Nx.at_splitb rfl rfl rfl rfl (fun hc => ?_) (fun hc => ?_)))
      | ((with_reducible refine Nx.is_mix ?_); first | refine Nx.m ?_ | ((fail_if_success refine Nx.m_quiet_do rfl rfl rfl rfl rfl rfl rfl ?_ ?_); (fail_if_success refine Nx.m_loud_do rfl rfl rfl rfl rfl ?_); first | refine Nx.m_dec_t rfl rfl rfl rfl (by first | assumption | omega) ?_ | refine Nx.m_dec_f rfl rfl rfl rfl (by first | assumption | omega) ?_ | refine Nx.m_split rfl rfl rfl rfl (fun hc => ?_) (fun hc => ?_) | refine Nx.m_splitb rfl rfl rfl rfl (fun hc => ?_) (fun hc => ?_)))
      | ((fail_if_success (with_reducible refine Nx.is_at ?_)); (fail_if_success (with_reducible refine Nx.is_wp ?_)); (fail_if_success (with_reducible refine Nx.is_mix ?_)); first | refine Nx.ex ?_)
    exact Nx.imm_le hle0 (Nx.ret_fn rfl [] ⟨rfl, rfl⟩ (by (exact Ent.auto)))
  · repeat' first
      | ((with_reducible refine Nx.is_wp ?_); first | refine Nx.wo ?_ | refine Nx.p_dec rfl rfl (fun hc => ?_) (fun hc => ?_) | refine Nx.p_bool rfl rfl (fun hc => ?_) (fun hc => ?_))
      | ((first | refine Nx.at_op rfl rfl ?_ | refine Nx.m_loud rfl rfl rfl ?_ | refine Nx.at_do rfl rfl rfl rfl ?_ | refine Nx.m_loud_do rfl rfl rfl rfl rfl ?_); first | refine Nx.opr rfl rfl ?_ | refine Nx.callv rfl rfl rfl (by kernel_rfl) rfl hR2 ?_ | refine Nx.callv rfl rfl rfl (by kernel_rfl) rfl hR3 ?_ | refine Nx.binr rfl rfl (neq_same _ _) rfl ?_ | refine Nx.binr rfl rfl (eql_same _ _) rfl ?_ | refine Nx.callv rfl rfl rfl (by kernel_rfl) rfl hAw5 ?_ | refine Nx.so ?_ | refine Nx.sb (fun bx => ?_) | refine Nx.sa (fun A2 c2 => ?_))
      | ((with_reducible refine Nx.is_at ?_); first | refine Nx.a ?_ | ((fail_if_success refine Nx.at_do rfl rfl rfl rfl ?_); first | refine Nx.at_dec_t rfl rfl rfl rfl (by first | assumption | omega) ?_ | refine Nx.at_dec_f rfl rfl rfl rfl (by first | assumption | omega) ?_ | refine Nx.at_split rfl rfl rfl rfl (fun hc => ?_) (fun hc => ?_) | refine Nx.at_splitb rfl rfl rfl rfl (fun hc => ?_) (fun hc => ?_)))
      | ((with_reducible refine Nx.is_mix ?_); first | refine Nx.m ?_ | ((fail_if_success refine Nx.m_quiet_do rfl rfl rfl rfl rfl rfl rfl ?_ ?_); (fail_if_success refine Nx.m_loud_do rfl rfl rfl rfl rfl ?_); first | refine Nx.m_dec_t rfl rfl rfl rfl (by first | assumption | omega) ?_ | refine Nx.m_dec_f rfl rfl rfl rfl (by first | assumption | omega) ?_ | refine Nx.m_split rfl rfl rfl rfl (fun hc => ?_) (fun hc => ?_) | refine Nx.m_splitb rfl rfl rfl rfl (fun hc => ?_) (fun hc => ?_)))
      | ((fail_if_success (with_reducible refine Nx.is_at ?_)); (fail_if_success (with_reducible refine Nx.is_wp ?_)); (fail_if_success (with_reducible refine Nx.is_mix ?_)); first | refine Nx.ex ?_)
    exact Nx.imm_le hle0 (Nx.ret_fn rfl [] ⟨rfl, rfl⟩ (by (exact Ent.auto)))
end Go.Proofs.YtpdgnjoideppjaaDoor
/- Contracts of functions of the given program, and lemmas about plain lists and numbers: what the laws of this seat lean on. -/
namespace Go.Proofs.YtpdgnjoideppjaaDoor
open Go.Eng
/-! The table that the program reads, and a matrix that comes in -/
theorem g64 : Tryd.prog.globalNamed  "math/bits.deBruijn64tab" = some 0 := by kernel_rfl
theorem g64T : (Tryd.prog.globals[0]?).map (·.type) = some 100 := by kernel_rfl
theorem c5 : Tryd.prog.cellsOf 5 = 1 := by kernel_rfl
theorem c79 : Tryd.prog.cellsOf 100 = 64 := by kernel_rfl
abbrev laid1 : List (String × DataW Unit) := [("math/bits.deBruijn64tab", Rows.laid_math_bits_deBruijn64tab)]
def setBlk (cs : List Value) : Obj → Obj
  | .cells _ t frozen => .cells cs.toArray t frozen
  | o => o
/-- The settled world, the table holding what its initialiser lays: the witness. -/
noncomputable def laidWorld (os : Os) : World :=
  { World.holding Tryd.prog os ⟨#[], #[], []⟩ with heap := (World.holding Tryd.prog os ⟨#[], #[], []⟩).heap.modify 0 (setBlk (Lib.deBruijn64tab.map fun z : Nat => Value.int .u8 z)) }
theorem laidWorld_met (os : Os) (args : Array Value) : laidMetH Tryd.prog laid1 ((laidWorld os).forCall (fun _ _ => 0) ⟨#[], args, []⟩).memory :=
  laidMetH_of_parts (laidMet_of_run' 8 (by kernel_rfl) (by kernel_rfl)) (by kernel_rfl)
theorem heap_keep {W w0 w : World} {R : List Res} (h : St w0 (fun i => W.heap[i]?) R w) {i : Nat} {o : Obj} (ho : W.heap[i]? = some o) : w.heap[i]? = some o := by
  obtain ⟨m, _, hs⟩ := h.mem
  exact hs.imm i o ho
theorem var_keep {W w0 w : World} {R : List Res} (h : St w0 (fun i => W.heap[i]?) R w) {P : Program} {name : String} {k : IntKind} {zs : List Int} (ht : Lib.TabIs P W name k zs) : Lib.TabIs P w name k zs := by
  unfold Lib.TabIs World.var? at *
  cases hg : P.globalNamed name with
  | none => simp [hg] at ht
  | some g =>
    simp only [hg, Option.bind_some] at ht ⊢
    cases ho : W.heap[g]? with
    | none => rw [ho] at ht; simp at ht
    | some o => rw [heap_keep h ho]; rw [ho] at ht; exact ht
theorem tab_of {W : World} (h : laidMetH Tryd.prog laid1 W) : TabI (fun i => W.heap[i]?) := fun _ _ _ hst j hj => by
  have h1 : Lib.TabIs Tryd.prog W  "math/bits.deBruijn64tab" .u8 (Lib.deBruijn64tab.map fun z : Nat => (z : Int)) := Lib.tabIs_of_head g64 g64T Tryd.underlying100 Tryd.underlying5 c5 c79 (h : laidMet Tryd.prog laid1 W)
  have h2 := (var_keep hst h1).cell g64 j (by rw [List.length_map]; exact hj)
  rw [show (Lib.deBruijn64tab.map fun z : Nat => (z : Int)).getD j 0 = ((Lib.deBruijn64tab.getD j 0 : Nat) : Int) by
    rw [List.getD_eq_getElem?_getD, List.getD_eq_getElem?_getD, List.getElem?_map]
    cases Lib.deBruijn64tab[j]? <;> rfl] at h2
  exact h2
end Go.Proofs.YtpdgnjoideppjaaDoor
