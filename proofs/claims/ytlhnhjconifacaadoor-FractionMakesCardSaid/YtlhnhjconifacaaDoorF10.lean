/- Contracts of functions of the given program, and lemmas about plain lists and numbers: what the laws of this seat lean on. -/
import Derived.Test.YtlhnhjconifacaaDoorF9
namespace Go.Proofs.YtlhnhjconifacaaDoor
open Go.Eng
attribute [local irreducible] opK wpList Code.wp Exit.then Exit.inBlock fnPost bodyPost Nx Calls Oper.wp Rd Rds Wr Ent Stars Blk Again Vec FnSpec wpMix QRun Stop Upto wpAt
/-- Less than 2^127. -/
abbrev H127 : Nat := 170141183460469231731687303715884105728
theorem cells_bit (r v : Nat) (hr : r < H127) (hv : v < 2) : ([.int .u64 (wH ((2 * r : Nat) : Int)), .int .u64 ((wL ((2 * r : Nat) : Int) : Int) + (v : Int))] : List Value) = wideL ((2 * r + v : Nat) : Int) := by
  have h1 : wH ((2 * r : Nat) : Int) = wH ((2 * r + v : Nat) : Int) := by unfold H127 at hr; unfold wH B128 B64; omega
  have h2 : (wL ((2 * r : Nat) : Int) : Int) + (v : Int) = wL ((2 * r + v : Nat) : Int) := by unfold wL B64; omega
  unfold wideL
  rw [h1, h2]
theorem or_bit {P : Program} {t : TypeId} {x y : Operand} (r v : Nat) (hv : v < 2) : pureRun P (do eqGuard .or t x y (.int .u64 (wL ((2 * r : Nat) : Int))) (.int .u64 (v : Int)); binOp .or t (.int .u64 (wL ((2 * r : Nat) : Int))) (.int .u64 (v : Int))) = some (.int .u64 ((wL ((2 * r : Nat) : Int) : Int) + (v : Int))) := by
  refine run_orD 1 (wL ((2 * r : Nat) : Int) / 2) v ?_ rfl ?_ hv (by omega)
  · have : wL ((2 * r : Nat) : Int) = (2 * r) % 18446744073709551616 := wL_nat _
    omega
  · have := wL_lt ((2 * r : Nat) : Int)
    omega
theorem natDiv_pow (x y : Nat) : (x : Int) / 2 ^ y = ((x / 2 ^ y : Nat) : Int) := by rw [Int.natCast_ediv, natPow_int]
theorem bitN_lt (a i : Nat) : bitN a i < 2 := Nat.mod_lt _ (by decide)
theorem twiceN (r : Nat) (h : r < H127) (I : PH) : FnSpec Tryd.prog 66 [wideV (r : Int)] I [] (fun v R' => v = wideV ((2 * r : Nat) : Int) ∧ R' = []) := by
  have := twice_spec r (by unfold H127 at h; omega) I
  rw [show (2 * (r : Int)) = ((2 * r : Nat) : Int) by omega] at this
  exact this
theorem belowN (a b : Nat) (ha : a < W128) (hb : b < W128) (I : PH) : FnSpec Tryd.prog 53 [wideV (a : Int), wideV (b : Int)] I [] (fun v R' => v = .bool (decide (a < b)) ∧ R' = []) := by
  have := below_spec a b ⟨by omega, by unfold W128 at ha; omega⟩ ⟨by omega, by unfold W128 at hb; omega⟩ I
  rw [show decide ((a : Int) < b) = decide (a < b) from decide_eq_decide.2 (by omega)] at this
  exact this
attribute [local irreducible] wH wL bitN
set_option maxHeartbeats 2000000 in
theorem Over_spec (a b : Nat) (ha : a < H127) (hb0 : 0 < b) (hb : b < H127) (I : PH) : FnSpec Tryd.prog 52 [wideV (a : Int), wideV (b : Int)] I [] (fun v R' => v = .tuple #[wideV ((a / b : Nat) : Int), wideV ((a % b : Nat) : Int)] ∧ R' = []) := by
  have eH := wH_nat (a := a) (by unfold H127 at ha; omega)
  have eL := wL_nat a
  have hb' : b < 170141183460469231731687303715884105728 := hb
  have lH := wH_lt (a : Int)
  have lL := wL_lt (a : Int)
  refine FnSpec.enterP Tryd.func52 rfl Tryd.ntmps52 rfl fun w F => ?_
  repeat' first
    | ((with_reducible refine Nx.is_wp ?_); first | refine Nx.wo ?_ | refine Nx.p_dec rfl rfl (fun hc => ?_) (fun hc => ?_) | refine Nx.p_bool rfl rfl (fun hc => ?_) (fun hc => ?_))
    | ((first | refine Nx.at_op rfl rfl ?_ | refine Nx.m_loud rfl rfl rfl ?_ | refine Nx.at_do rfl rfl rfl rfl ?_ | refine Nx.m_loud_do rfl rfl rfl rfl rfl ?_); first | refine Nx.opr rfl rfl ?_ | refine Nx.so ?_ | refine Nx.sb (fun bx => ?_) | refine Nx.sa (fun A2 c2 => ?_))
    | ((with_reducible refine Nx.is_at ?_); first | refine Nx.a ?_ | ((fail_if_success refine Nx.at_do rfl rfl rfl rfl ?_); first | refine Nx.at_dec_t rfl rfl rfl rfl (by first | assumption | omega) ?_ | refine Nx.at_dec_f rfl rfl rfl rfl (by first | assumption | omega) ?_ | refine Nx.at_split rfl rfl rfl rfl (fun hc => ?_) (fun hc => ?_) | refine Nx.at_splitb rfl rfl rfl rfl (fun hc => ?_) (fun hc => ?_)))
    | ((with_reducible refine Nx.is_mix ?_); first | refine Nx.m ?_ | ((fail_if_success refine Nx.m_quiet_do rfl rfl rfl rfl rfl rfl rfl ?_ ?_); (fail_if_success refine Nx.m_loud_do rfl rfl rfl rfl rfl ?_); first | refine Nx.m_dec_t rfl rfl rfl rfl (by first | assumption | omega) ?_ | refine Nx.m_dec_f rfl rfl rfl rfl (by first | assumption | omega) ?_ | refine Nx.m_split rfl rfl rfl rfl (fun hc => ?_) (fun hc => ?_) | refine Nx.m_splitb rfl rfl rfl rfl (fun hc => ?_) (fun hc => ?_)))
    | ((fail_if_success (with_reducible refine Nx.is_at ?_)); (fail_if_success (with_reducible refine Nx.is_wp ?_)); (fail_if_success (with_reducible refine Nx.is_mix ?_)); first | refine Nx.ex ?_)
  rename_i ba bb b4 b5 b6
  refine Nx.p_loop (σ := Nat) (fun s => [(8, .int .i64 ((s : Int) - 1)), (7, .pointer (some ⟨bx, 0, none⟩)), (6, .pointer (some ⟨b6, 0, none⟩)), (5, .pointer (some ⟨b5, 0, none⟩)), (4, .pointer (some ⟨b4, 0, none⟩)), (3, .pointer (some ⟨bb, 0, none⟩)), (2, .pointer (some ⟨ba, 0, none⟩))])
    (fun s => [Blk bx 50 (wideL ((a / 2 ^ s % b : Nat) : Int)), Blk b6 50 (wideL ((a / 2 ^ s / b : Nat) : Int)), Blk b5 50 [.int .u64 0, .int .u64 0], Blk b4 50 [.int .u64 0, .int .u64 0], Blk bb 50 (wideL (b : Int)), Blk ba 50 (wideL (a : Int)), F])
    (fun s => s ≤ 128) (fun s => s) 128 rfl (Nat.le_refl _) ⟨rfl, rfl, rfl, rfl, rfl, rfl, rfl, trivial⟩ ?_ ?_
  · have e0 : a / 2 ^ 128 = 0 := Nat.div_eq_of_lt (by unfold H127 at ha; omega)
    rw [e0, Nat.zero_mod, Nat.zero_div]
    refine Ent.pickE 0 rfl ?_ (Ent.pickE 0 rfl ?_ (by (first | done | (repeat first | exact Ent.refl _ | exact Ent.nil _ | refine Ent.pick 0 rfl ?_ | refine Ent.pick 1 rfl ?_ | refine Ent.pick 2 rfl ?_ | refine Ent.pick 3 rfl ?_ | refine Ent.pick 4 rfl ?_ | refine Ent.pick 5 rfl ?_ | refine Ent.pick 6 rfl ?_ | refine Ent.pick 7 rfl ?_ | refine Ent.pick 8 rfl ?_ | refine Ent.pick 9 rfl ?_ | refine Ent.pick 10 rfl ?_ | refine Ent.pick 11 rfl ?_ | refine Ent.pick 12 rfl ?_ | refine Ent.pick 13 rfl ?_ | refine Ent.pick 14 rfl ?_))))
    · unfold wideL; rw [show wH ((0 : Nat) : Int) = 0 by unfold wH; rfl, show wL ((0 : Nat) : Int) = 0 by unfold wL; rfl]; rfl
    · unfold wideL; rw [show wH ((0 : Nat) : Int) = 0 by unfold wH; rfl, show wL ((0 : Nat) : Int) = 0 by unfold wL; rfl]; rfl
  · rintro (_ | i) hi
    · repeat' first
        | ((with_reducible refine Nx.is_wp ?_); first | refine Nx.wo ?_ | refine Nx.p_drawF (id := 14) rfl [0, 1, 2] [2] [3] _ rfl rfl (by kernel_rfl) (by kernel_rfl) rfl (by repeat first | exact PanicOk.fn | refine PanicOk.then_ ?_ | refine PanicOk.inB ?_) (Ent.eraseK 3 _) ?_ | refine Nx.p_dec rfl rfl (fun hc => ?_) (fun hc => ?_) | refine Nx.p_bool rfl rfl (fun hc => ?_) (fun hc => ?_))
        | ((first | refine Nx.at_op rfl rfl ?_ | refine Nx.m_loud rfl rfl rfl ?_ | refine Nx.at_do rfl rfl rfl rfl ?_ | refine Nx.m_loud_do rfl rfl rfl rfl rfl ?_); first | refine Nx.opr rfl rfl ?_ | refine Nx.so ?_ | refine Nx.sb (fun bx => ?_) | refine Nx.sa (fun A2 c2 => ?_))
        | ((with_reducible refine Nx.is_at ?_); first | refine Nx.a ?_ | ((fail_if_success refine Nx.at_do rfl rfl rfl rfl ?_); first | refine Nx.at_dec_t rfl rfl rfl rfl (by first | assumption | omega) ?_ | refine Nx.at_dec_f rfl rfl rfl rfl (by first | assumption | omega) ?_ | refine Nx.at_split rfl rfl rfl rfl (fun hc => ?_) (fun hc => ?_) | refine Nx.at_splitb rfl rfl rfl rfl (fun hc => ?_) (fun hc => ?_)))
        | ((with_reducible refine Nx.is_mix ?_); first | refine Nx.m ?_ | ((fail_if_success refine Nx.m_quiet_do rfl rfl rfl rfl rfl rfl rfl ?_ ?_); (fail_if_success refine Nx.m_loud_do rfl rfl rfl rfl rfl ?_); first | refine Nx.m_dec_t rfl rfl rfl rfl (by first | assumption | omega) ?_ | refine Nx.m_dec_f rfl rfl rfl rfl (by first | assumption | omega) ?_ | refine Nx.m_split rfl rfl rfl rfl (fun hc => ?_) (fun hc => ?_) | refine Nx.m_splitb rfl rfl rfl rfl (fun hc => ?_) (fun hc => ?_)))
        | ((fail_if_success (with_reducible refine Nx.is_at ?_)); (fail_if_success (with_reducible refine Nx.is_wp ?_)); (fail_if_success (with_reducible refine Nx.is_mix ?_)); first | refine Nx.ex ?_)
      refine Nx.ret2 rfl (ROne.cell 1 rfl rfl rfl rfl rfl) (ROne.cell 0 rfl rfl rfl rfl rfl) [] ⟨?_, rfl⟩ (by (first | done | (repeat first | exact Ent.refl _ | exact Ent.nil _ | refine Ent.pick 0 rfl ?_ | refine Ent.pick 1 rfl ?_ | refine Ent.pick 2 rfl ?_ | refine Ent.pick 3 rfl ?_ | refine Ent.pick 4 rfl ?_ | refine Ent.pick 5 rfl ?_ | refine Ent.pick 6 rfl ?_ | refine Ent.pick 7 rfl ?_ | refine Ent.pick 8 rfl ?_ | refine Ent.pick 9 rfl ?_ | refine Ent.pick 10 rfl ?_ | refine Ent.pick 11 rfl ?_ | refine Ent.pick 12 rfl ?_ | refine Ent.pick 13 rfl ?_ | refine Ent.pick 14 rfl ?_)))
      simp only [Nat.pow_zero, Nat.div_one]
      rfl
    · rw [show ((i + 1 : Nat) : Int) - 1 = (i : Int) by omega]
      obtain ⟨s1, s2⟩ := div_step (a := a) (i := i) hb0
      have hq : a / 2 ^ (i + 1) / b ≤ a := Nat.le_trans (Nat.div_le_self _ _) (Nat.div_le_self _ _)
      have hr : a / 2 ^ (i + 1) % b < b := Nat.mod_lt _ hb0
      generalize a / 2 ^ (i + 1) % b = r at *
      generalize a / 2 ^ (i + 1) / b = q at *
      have hbit := bitN_lt a i
      have kH : wH (a : Int) / 2 ^ (i % 64) % 2 < 2 := Nat.mod_lt _ (by decide)
      have kL : wL (a : Int) / 2 ^ (i % 64) % 2 < 2 := Nat.mod_lt _ (by decide)
      have jH : wH (a : Int) / 2 ^ (i % 64) < 18446744073709551616 := Nat.lt_of_le_of_lt (Nat.div_le_self _ _) lH
      have jL : wL (a : Int) / 2 ^ (i % 64) < 18446744073709551616 := Nat.lt_of_le_of_lt (Nat.div_le_self _ _) lL
      have bH := fun h => bit_high (a := a) (i := i) h (by omega)
      have bL : i < 64 → a % 18446744073709551616 / 2 ^ (i % 64) % 2 = bitN a i := fun h => by rw [Nat.mod_eq_of_lt h]; exact bit_low h
      rw [← eH] at bH
      rw [← eL] at bL
      have hrH : r < H127 := by omega
      have hqH : q < H127 := by omega
      repeat' first
        | ((with_reducible refine Nx.is_wp ?_); first | refine Nx.wo ?_ | refine Nx.p_dec rfl rfl (fun hc => ?_) (fun hc => ?_) | refine Nx.p_bool rfl rfl (fun hc => ?_) (fun hc => ?_))
        | ((first | refine Nx.at_op rfl rfl ?_ | refine Nx.m_loud rfl rfl rfl ?_ | refine Nx.at_do rfl rfl rfl rfl ?_ | refine Nx.m_loud_do rfl rfl rfl rfl rfl ?_); first | refine Nx.opr rfl rfl ?_ | refine Nx.callv rfl rfl rfl (by kernel_rfl) rfl (twiceN r hrH I) ?_ | refine Nx.callv rfl rfl rfl (by kernel_rfl) rfl (twiceN q hqH I) ?_ | refine Nx.conv_u64 rfl rfl rfl rfl ?_ | refine Nx.bin rfl rfl (run_shrN (i % 64) (by unfold B64; omega) (by omega)) rfl ?_ | refine Nx.bin rfl rfl (run_and1 (wH (a : Int) / 2 ^ (i % 64)) (natDiv_pow _ _) jH) rfl ?_ | refine Nx.bin rfl rfl (run_and1 (wL (a : Int) / 2 ^ (i % 64)) (natDiv_pow _ _) jL) rfl ?_ | refine Nx.bin rfl rfl (or_bit _ _ (Nat.mod_lt _ (by decide))) rfl ?_ | refine Nx.bin rfl rfl (or_bit _ 1 (by omega)) rfl ?_ | refine Nx.store_as 0 _ rfl rfl rfl rfl rfl rfl rfl (cells_bit r _ hrH (Nat.mod_lt _ (by decide))) ?_ | refine Nx.store_as 1 _ rfl rfl rfl rfl rfl rfl rfl (cells_bit q 1 hqH (by omega)) ?_ | refine Nx.callv rfl rfl rfl (by kernel_rfl) rfl (belowN _ b (by unfold W128; omega) (by unfold W128; omega) I) ?_ | refine Nx.callv rfl rfl rfl (by kernel_rfl) rfl (rminus_spec _ _ I) ?_ | refine Nx.so ?_ | refine Nx.sb (fun bx => ?_) | refine Nx.sa (fun A2 c2 => ?_))
        | ((with_reducible refine Nx.is_at ?_); first | refine Nx.a ?_ | ((fail_if_success refine Nx.at_do rfl rfl rfl rfl ?_); first | refine Nx.at_dec_t rfl rfl rfl rfl (by first | assumption | omega) ?_ | refine Nx.at_dec_f rfl rfl rfl rfl (by first | assumption | omega) ?_ | refine Nx.at_split rfl rfl rfl rfl (fun hc => ?_) (fun hc => ?_) | refine Nx.at_splitb rfl rfl rfl rfl (fun hc => ?_) (fun hc => ?_)))
        | ((with_reducible refine Nx.is_mix ?_); first | refine Nx.m ?_ | ((fail_if_success refine Nx.m_quiet_do rfl rfl rfl rfl rfl rfl rfl ?_ ?_); (fail_if_success refine Nx.m_loud_do rfl rfl rfl rfl rfl ?_); first | refine Nx.m_dec_t rfl rfl rfl rfl (by first | assumption | omega) ?_ | refine Nx.m_dec_f rfl rfl rfl rfl (by first | assumption | omega) ?_ | refine Nx.m_split rfl rfl rfl rfl (fun hc => ?_) (fun hc => ?_) | refine Nx.m_splitb rfl rfl rfl rfl (fun hc => ?_) (fun hc => ?_)))
        | ((fail_if_success (with_reducible refine Nx.is_at ?_)); (fail_if_success (with_reducible refine Nx.is_wp ?_)); (fail_if_success (with_reducible refine Nx.is_mix ?_)); first | refine Nx.ex ?_)
      all_goals (refine Nx.again i (by omega) (by omega) ⟨rfl, rfl, rfl, rfl, rfl, rfl, rfl, trivial⟩ ?_)
      · have hv := bL (by omega)
        have hge : ¬ 2 * r + wL (a : Int) / 2 ^ (i % 64) % 2 < b := by simpa using hc
        obtain ⟨e1, e2⟩ := s2 (by rw [← hv]; exact hge)
        rw [e1, e2, ← hv, show ((2 * r + wL (a : Int) / 2 ^ (i % 64) % 2 - b : Nat) : Int) = ((2 * r + wL (a : Int) / 2 ^ (i % 64) % 2 : Nat) : Int) - (b : Int) by omega]
        refine Ent.pickE 1 rfl rfl (Ent.pickE 0 rfl rfl (by (first | done | (repeat first | exact Ent.refl _ | exact Ent.nil _ | refine Ent.pick 0 rfl ?_ | refine Ent.pick 1 rfl ?_ | refine Ent.pick 2 rfl ?_ | refine Ent.pick 3 rfl ?_ | refine Ent.pick 4 rfl ?_ | refine Ent.pick 5 rfl ?_ | refine Ent.pick 6 rfl ?_ | refine Ent.pick 7 rfl ?_ | refine Ent.pick 8 rfl ?_ | refine Ent.pick 9 rfl ?_ | refine Ent.pick 10 rfl ?_ | refine Ent.pick 11 rfl ?_ | refine Ent.pick 12 rfl ?_ | refine Ent.pick 13 rfl ?_ | refine Ent.pick 14 rfl ?_))))
      · have hv := bL (by omega)
        have hge : 2 * r + wL (a : Int) / 2 ^ (i % 64) % 2 < b := by simpa using hc
        obtain ⟨e1, e2⟩ := s1 (by rw [← hv]; exact hge)
        rw [e1, e2, ← hv]
        refine Ent.pickE 1 rfl rfl (Ent.pickE 0 rfl rfl (by (first | done | (repeat first | exact Ent.refl _ | exact Ent.nil _ | refine Ent.pick 0 rfl ?_ | refine Ent.pick 1 rfl ?_ | refine Ent.pick 2 rfl ?_ | refine Ent.pick 3 rfl ?_ | refine Ent.pick 4 rfl ?_ | refine Ent.pick 5 rfl ?_ | refine Ent.pick 6 rfl ?_ | refine Ent.pick 7 rfl ?_ | refine Ent.pick 8 rfl ?_ | refine Ent.pick 9 rfl ?_ | refine Ent.pick 10 rfl ?_ | refine Ent.pick 11 rfl ?_ | refine Ent.pick 12 rfl ?_ | refine Ent.pick 13 rfl ?_ | refine Ent.pick 14 rfl ?_))))
      · have hv := bH (by omega)
        have hge : ¬ 2 * r + wH (a : Int) / 2 ^ (i % 64) % 2 < b := by simpa using hc
        obtain ⟨e1, e2⟩ := s2 (by rw [← hv]; exact hge)
        rw [e1, e2, ← hv, show ((2 * r + wH (a : Int) / 2 ^ (i % 64) % 2 - b : Nat) : Int) = ((2 * r + wH (a : Int) / 2 ^ (i % 64) % 2 : Nat) : Int) - (b : Int) by omega]
        refine Ent.pickE 1 rfl rfl (Ent.pickE 0 rfl rfl (by (first | done | (repeat first | exact Ent.refl _ | exact Ent.nil _ | refine Ent.pick 0 rfl ?_ | refine Ent.pick 1 rfl ?_ | refine Ent.pick 2 rfl ?_ | refine Ent.pick 3 rfl ?_ | refine Ent.pick 4 rfl ?_ | refine Ent.pick 5 rfl ?_ | refine Ent.pick 6 rfl ?_ | refine Ent.pick 7 rfl ?_ | refine Ent.pick 8 rfl ?_ | refine Ent.pick 9 rfl ?_ | refine Ent.pick 10 rfl ?_ | refine Ent.pick 11 rfl ?_ | refine Ent.pick 12 rfl ?_ | refine Ent.pick 13 rfl ?_ | refine Ent.pick 14 rfl ?_))))
      · have hv := bH (by omega)
        have hge : 2 * r + wH (a : Int) / 2 ^ (i % 64) % 2 < b := by simpa using hc
        obtain ⟨e1, e2⟩ := s1 (by rw [← hv]; exact hge)
        rw [e1, e2, ← hv]
        refine Ent.pickE 1 rfl rfl (Ent.pickE 0 rfl rfl (by (first | done | (repeat first | exact Ent.refl _ | exact Ent.nil _ | refine Ent.pick 0 rfl ?_ | refine Ent.pick 1 rfl ?_ | refine Ent.pick 2 rfl ?_ | refine Ent.pick 3 rfl ?_ | refine Ent.pick 4 rfl ?_ | refine Ent.pick 5 rfl ?_ | refine Ent.pick 6 rfl ?_ | refine Ent.pick 7 rfl ?_ | refine Ent.pick 8 rfl ?_ | refine Ent.pick 9 rfl ?_ | refine Ent.pick 10 rfl ?_ | refine Ent.pick 11 rfl ?_ | refine Ent.pick 12 rfl ?_ | refine Ent.pick 13 rfl ?_ | refine Ent.pick 14 rfl ?_))))
end Go.Proofs.YtlhnhjconifacaaDoor
