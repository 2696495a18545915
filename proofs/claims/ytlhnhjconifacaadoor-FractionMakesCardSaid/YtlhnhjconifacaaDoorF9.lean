/- Contracts of functions of the given program, and lemmas about plain lists and numbers: what the laws of this seat lean on. -/
import Derived.Test.YtlhnhjconifacaaDoorF8
import Derived.Test.YtlhnhjconifacaaDoorEngW
namespace Go.Proofs.YtlhnhjconifacaaDoor
open Go.Eng
attribute [local irreducible] opK wpList Code.wp Exit.then Exit.inBlock fnPost bodyPost Nx Calls Oper.wp Rd Rds Wr Ent Stars Blk Again Vec FnSpec wpMix QRun Stop Upto wpAt
abbrev W128 : Nat := 340282366920938463463374607431768211456
theorem length_spec (a : Nat) (ha : a < W128) (I : PH) : FnSpec Tryd.prog 63 [wideV (a : Int)] I [] (fun v R' => v = .int .i64 (lenN a : Nat) ∧ R' = []) := by
  have e1 := wH_nat ha
  have e2 := wL_nat a
  have hq : a / 18446744073709551616 < 18446744073709551616 := by unfold W128 at ha; omega
  have hl : Lib.bitLen (a / 18446744073709551616) ≤ 64 := Lib.bitLen_le _ 64 (Nat.le_refl _) hq
  refine FnSpec.enterP Tryd.func63 rfl Tryd.ntmps63 rfl fun w F => ?_
  repeat' first
    | ((with_reducible refine Nx.is_wp ?_); first | refine Nx.wo ?_ | refine Nx.p_dec rfl rfl (fun hc => ?_) (fun hc => ?_) | refine Nx.p_bool rfl rfl (fun hc => ?_) (fun hc => ?_))
    | ((first | refine Nx.at_op rfl rfl ?_ | refine Nx.m_loud rfl rfl rfl ?_ | refine Nx.at_do rfl rfl rfl rfl ?_ | refine Nx.m_loud_do rfl rfl rfl rfl rfl ?_); first | refine Nx.opr rfl rfl ?_ | refine Nx.call (Rpre := []) rfl rfl rfl (by kernel_rfl) rfl (len64_spec _ (wH_lt a) I) (Ent.refl _) ?_; rintro _ _ ⟨rfl, rfl⟩ | refine Nx.call (Rpre := []) rfl rfl rfl (by kernel_rfl) rfl (len64_spec _ (wL_lt a) I) (Ent.refl _) ?_; rintro _ _ ⟨rfl, rfl⟩ | refine Nx.add rfl rfl (by rw [e1]; unfold I64; omega) rfl ?_ | refine Nx.so ?_ | refine Nx.sb (fun bx => ?_) | refine Nx.sa (fun A2 c2 => ?_))
    | ((with_reducible refine Nx.is_at ?_); first | refine Nx.a ?_ | ((fail_if_success refine Nx.at_do rfl rfl rfl rfl ?_); first | refine Nx.at_dec_t rfl rfl rfl rfl (by first | assumption | omega) ?_ | refine Nx.at_dec_f rfl rfl rfl rfl (by first | assumption | omega) ?_ | refine Nx.at_split rfl rfl rfl rfl (fun hc => ?_) (fun hc => ?_) | refine Nx.at_splitb rfl rfl rfl rfl (fun hc => ?_) (fun hc => ?_)))
    | ((with_reducible refine Nx.is_mix ?_); first | refine Nx.m ?_ | ((fail_if_success refine Nx.m_quiet_do rfl rfl rfl rfl rfl rfl rfl ?_ ?_); (fail_if_success refine Nx.m_loud_do rfl rfl rfl rfl rfl ?_); first | refine Nx.m_dec_t rfl rfl rfl rfl (by first | assumption | omega) ?_ | refine Nx.m_dec_f rfl rfl rfl rfl (by first | assumption | omega) ?_ | refine Nx.m_split rfl rfl rfl rfl (fun hc => ?_) (fun hc => ?_) | refine Nx.m_splitb rfl rfl rfl rfl (fun hc => ?_) (fun hc => ?_)))
    | ((fail_if_success (with_reducible refine Nx.is_at ?_)); (fail_if_success (with_reducible refine Nx.is_wp ?_)); (fail_if_success (with_reducible refine Nx.is_mix ?_)); first | refine Nx.ex ?_)
  · refine Nx.ret_fn rfl [] ⟨by unfold lenN; rw [if_neg (by omega), e1, Int.natCast_add]; rfl, rfl⟩ ?_
    (first | done | (repeat first | exact Ent.refl _ | exact Ent.nil _ | refine Ent.pick 0 rfl ?_ | refine Ent.pick 1 rfl ?_ | refine Ent.pick 2 rfl ?_ | refine Ent.pick 3 rfl ?_ | refine Ent.pick 4 rfl ?_ | refine Ent.pick 5 rfl ?_ | refine Ent.pick 6 rfl ?_ | refine Ent.pick 7 rfl ?_ | refine Ent.pick 8 rfl ?_ | refine Ent.pick 9 rfl ?_ | refine Ent.pick 10 rfl ?_ | refine Ent.pick 11 rfl ?_ | refine Ent.pick 12 rfl ?_ | refine Ent.pick 13 rfl ?_ | refine Ent.pick 14 rfl ?_))
  · refine Nx.ret_fn rfl [] ⟨by unfold lenN; rw [if_pos (by omega), e2, Nat.mod_eq_of_lt (by omega)], rfl⟩ ?_
    (first | done | (repeat first | exact Ent.refl _ | exact Ent.nil _ | refine Ent.pick 0 rfl ?_ | refine Ent.pick 1 rfl ?_ | refine Ent.pick 2 rfl ?_ | refine Ent.pick 3 rfl ?_ | refine Ent.pick 4 rfl ?_ | refine Ent.pick 5 rfl ?_ | refine Ent.pick 6 rfl ?_ | refine Ent.pick 7 rfl ?_ | refine Ent.pick 8 rfl ?_ | refine Ent.pick 9 rfl ?_ | refine Ent.pick 10 rfl ?_ | refine Ent.pick 11 rfl ?_ | refine Ent.pick 12 rfl ?_ | refine Ent.pick 13 rfl ?_ | refine Ent.pick 14 rfl ?_))
theorem ctz_le {x : Nat} (h : x < 18446744073709551616) : Lib.ctz 64 x ≤ 64 := by
  by_cases h0 : x = 0
  · subst h0; decide
  · obtain ⟨m, _, hz⟩ := ctz_two h0 h; omega
theorem zeros_spec (a : Nat) (ha : a < W128) (I : PH) (hT : TabI I) : FnSpec Tryd.prog 60 [wideV (a : Int)] I [] (fun v R' => v = .int .i64 (zerN a : Nat) ∧ R' = []) := by
  have e1 := wH_nat ha
  have e2 := wL_nat a
  have hl := ctz_le (wH_lt a)
  refine FnSpec.enterP Tryd.func60 rfl Tryd.ntmps60 rfl fun w F => ?_
  repeat' first
    | ((with_reducible refine Nx.is_wp ?_); first | refine Nx.wo ?_ | refine Nx.p_dec rfl rfl (fun hc => ?_) (fun hc => ?_) | refine Nx.p_bool rfl rfl (fun hc => ?_) (fun hc => ?_))
    | ((first | refine Nx.at_op rfl rfl ?_ | refine Nx.m_loud rfl rfl rfl ?_ | refine Nx.at_do rfl rfl rfl rfl ?_ | refine Nx.m_loud_do rfl rfl rfl rfl rfl ?_); first | refine Nx.opr rfl rfl ?_ | refine Nx.call (Rpre := []) rfl rfl rfl (by kernel_rfl) rfl (tz64_spec _ (wH_lt a) I hT) (Ent.refl _) ?_; rintro _ _ ⟨rfl, rfl⟩ | refine Nx.call (Rpre := []) rfl rfl rfl (by kernel_rfl) rfl (tz64_spec _ (wL_lt a) I hT) (Ent.refl _) ?_; rintro _ _ ⟨rfl, rfl⟩ | refine Nx.add rfl rfl (by unfold I64; omega) rfl ?_ | refine Nx.so ?_ | refine Nx.sb (fun bx => ?_) | refine Nx.sa (fun A2 c2 => ?_))
    | ((with_reducible refine Nx.is_at ?_); first | refine Nx.a ?_ | ((fail_if_success refine Nx.at_do rfl rfl rfl rfl ?_); first | refine Nx.at_dec_t rfl rfl rfl rfl (by first | assumption | omega) ?_ | refine Nx.at_dec_f rfl rfl rfl rfl (by first | assumption | omega) ?_ | refine Nx.at_split rfl rfl rfl rfl (fun hc => ?_) (fun hc => ?_) | refine Nx.at_splitb rfl rfl rfl rfl (fun hc => ?_) (fun hc => ?_)))
    | ((with_reducible refine Nx.is_mix ?_); first | refine Nx.m ?_ | ((fail_if_success refine Nx.m_quiet_do rfl rfl rfl rfl rfl rfl rfl ?_ ?_); (fail_if_success refine Nx.m_loud_do rfl rfl rfl rfl rfl ?_); first | refine Nx.m_dec_t rfl rfl rfl rfl (by first | assumption | omega) ?_ | refine Nx.m_dec_f rfl rfl rfl rfl (by first | assumption | omega) ?_ | refine Nx.m_split rfl rfl rfl rfl (fun hc => ?_) (fun hc => ?_) | refine Nx.m_splitb rfl rfl rfl rfl (fun hc => ?_) (fun hc => ?_)))
    | ((fail_if_success (with_reducible refine Nx.is_at ?_)); (fail_if_success (with_reducible refine Nx.is_wp ?_)); (fail_if_success (with_reducible refine Nx.is_mix ?_)); first | refine Nx.ex ?_)
  · refine Nx.ret_fn rfl [] ⟨by unfold zerN; rw [if_pos (by omega), e1, Int.natCast_add]; rfl, rfl⟩ ?_
    (first | done | (repeat first | exact Ent.refl _ | exact Ent.nil _ | refine Ent.pick 0 rfl ?_ | refine Ent.pick 1 rfl ?_ | refine Ent.pick 2 rfl ?_ | refine Ent.pick 3 rfl ?_ | refine Ent.pick 4 rfl ?_ | refine Ent.pick 5 rfl ?_ | refine Ent.pick 6 rfl ?_ | refine Ent.pick 7 rfl ?_ | refine Ent.pick 8 rfl ?_ | refine Ent.pick 9 rfl ?_ | refine Ent.pick 10 rfl ?_ | refine Ent.pick 11 rfl ?_ | refine Ent.pick 12 rfl ?_ | refine Ent.pick 13 rfl ?_ | refine Ent.pick 14 rfl ?_))
  · refine Nx.ret_fn rfl [] ⟨by unfold zerN; rw [if_neg (by omega), e2], rfl⟩ ?_
    (first | done | (repeat first | exact Ent.refl _ | exact Ent.nil _ | refine Ent.pick 0 rfl ?_ | refine Ent.pick 1 rfl ?_ | refine Ent.pick 2 rfl ?_ | refine Ent.pick 3 rfl ?_ | refine Ent.pick 4 rfl ?_ | refine Ent.pick 5 rfl ?_ | refine Ent.pick 6 rfl ?_ | refine Ent.pick 7 rfl ?_ | refine Ent.pick 8 rfl ?_ | refine Ent.pick 9 rfl ?_ | refine Ent.pick 10 rfl ?_ | refine Ent.pick 11 rfl ?_ | refine Ent.pick 12 rfl ?_ | refine Ent.pick 13 rfl ?_ | refine Ent.pick 14 rfl ?_))
theorem natPow_int (n : Nat) : ((2 ^ n : Nat) : Int) = (2 : Int) ^ n := by simp
theorem left_low {a n : Nat} (hn : n ≤ 64) (h : a * 2 ^ n < W128) : (wL ((a * 2 ^ n : Nat) : Int) : Int) = (wL (a : Int) : Int) * 2 ^ n % B64 := by
  rw [wL_nat, wL_nat, (left_nat hn h).2.2.2, ← natPow_int]
  rfl
theorem left_highN {a n : Nat} (hn : n ≤ 64) (h : a * 2 ^ n < W128) : ((wH (a : Int) : Int) * 2 ^ n % B64 = ((2 ^ n * wH (a : Int) : Nat) : Int)) ∧ 2 ^ n * wH (a : Int) < 18446744073709551616 ∧ wL (a : Int) / 2 ^ (64 - n) < 2 ^ n ∧ wH ((a * 2 ^ n : Nat) : Int) = 2 ^ n * wH (a : Int) + wL (a : Int) / 2 ^ (64 - n) := by
  obtain ⟨h1, h2, h3, _⟩ := left_nat hn h
  rw [wH_nat h, h1, wH_nat (mul_lt_pow h), wL_nat, ← natPow_int, Nat.mul_comm (2 ^ n)]
  generalize a % 18446744073709551616 / 2 ^ (64 - n) = Z at *
  rw [← Int.natCast_mul]
  generalize a / 18446744073709551616 * 2 ^ n = X at *
  refine ⟨Int.emod_eq_of_lt (by omega) (by unfold B64; omega), by omega, h3, rfl⟩
section
variable {P : Program} {t : TypeId} {x y : Operand}
theorem left_or {a n : Nat} (hn : n ≤ 64) (h : a * 2 ^ n < W128) : pureRun P (do eqGuard .or t x y (.int .u64 ((wH (a : Int) : Int) * 2 ^ n % B64)) (.int .u64 ((wL (a : Int) : Int) / 2 ^ (64 - n))); binOp .or t (.int .u64 ((wH (a : Int) : Int) * 2 ^ n % B64)) (.int .u64 ((wL (a : Int) : Int) / 2 ^ (64 - n)))) = some (.int .u64 (wH ((a * 2 ^ n : Nat) : Int))) := by
  obtain ⟨h1, h2, h3, h4⟩ := left_highN hn h
  have hq : (wL (a : Int) : Int) / 2 ^ (64 - n) = ((wL (a : Int) / 2 ^ (64 - n) : Nat) : Int) := by rw [Int.natCast_ediv, natPow_int]
  rw [run_orD n (wH (a : Int)) (wL (a : Int) / 2 ^ (64 - n)) h1 hq h2 h3 (Nat.lt_of_le_of_lt (Nat.div_le_self _ _) (wL_lt a)), h1, hq, h4, Int.natCast_add]
theorem right_or {a n : Nat} (hn : n ≤ 64) (h : a < W128) : pureRun P (do eqGuard .or t x y (.int .u64 ((wL (a : Int) : Int) / 2 ^ n)) (.int .u64 ((wH (a : Int) : Int) * 2 ^ (64 - n) % B64)); binOp .or t (.int .u64 ((wL (a : Int) : Int) / 2 ^ n)) (.int .u64 ((wH (a : Int) : Int) * 2 ^ (64 - n) % B64))) = some (.int .u64 (wL ((a / 2 ^ n : Nat) : Int))) := by
  obtain ⟨h1, h2, h3, h4⟩ := right_nat hn h
  have hp : (wL (a : Int) : Int) / 2 ^ n = ((wL (a : Int) / 2 ^ n : Nat) : Int) := by rw [Int.natCast_ediv, natPow_int]
  have hq : (wH (a : Int) : Int) * 2 ^ (64 - n) % B64 = ((2 ^ (64 - n) * (wH (a : Int) % 2 ^ n) : Nat) : Int) := by
    rw [wH_nat h, ← h3, Int.natCast_emod, Int.natCast_mul, natPow_int]; rfl
  have hm : 2 ^ (64 - n) * (wH (a : Int) % 2 ^ n) < 18446744073709551616 := by rw [wH_nat h, ← h3]; exact Nat.mod_lt _ (by decide)
  rw [run_orE (64 - n) (wH (a : Int) % 2 ^ n) (wL (a : Int) / 2 ^ n) hp hq hm (by rw [wL_nat]; exact h2) (Nat.lt_of_le_of_lt (Nat.div_le_self _ _) (wL_lt a)), hp, hq, wL_nat (a / 2 ^ n), h4, wH_nat h, wL_nat, Int.natCast_add]
end
theorem right_high {a n : Nat} (hn : n ≤ 64) (h : a < W128) : (wH ((a / 2 ^ n : Nat) : Int) : Int) = (wH (a : Int) : Int) / 2 ^ n := by
  rw [wH_nat (Nat.lt_of_le_of_lt (Nat.div_le_self _ _) h), (right_nat hn h).1, wH_nat h, Int.natCast_ediv (_ / _), natPow_int]
/-- 64 places and more: the one word goes over into the other. -/
theorem left_far {a n : Nat} (h1 : 64 ≤ n) (h2 : n < 128) (h : a * 2 ^ n < W128) : (wH ((a * 2 ^ n : Nat) : Int) : Int) = (wL (a : Int) : Int) * 2 ^ (n - 64) % B64 ∧ (wL ((a * 2 ^ n : Nat) : Int) : Int) = 0 := by
  have e : a * 2 ^ n = (a * 2 ^ (n - 64)) * 18446744073709551616 := by
    rw [show n = (n - 64) + 64 by omega, Nat.pow_add, ← Nat.mul_assoc]; simp
  have hlt : a * 2 ^ (n - 64) < 18446744073709551616 := by
    rw [e] at h; unfold W128 at h; omega
  have ha : a < 18446744073709551616 := Nat.lt_of_le_of_lt (Nat.le_mul_of_pos_right a (Nat.two_pow_pos _)) hlt
  rw [wH_nat h, wL_nat, wL_nat, Nat.mod_eq_of_lt ha, ← natPow_int, ← Int.natCast_mul, e]
  generalize a * 2 ^ (n - 64) = X at *
  unfold B64
  omega
theorem right_far {a n : Nat} (h1 : 64 ≤ n) (h : a < W128) : (wL ((a / 2 ^ n : Nat) : Int) : Int) = (wH (a : Int) : Int) / 2 ^ (n - 64) ∧ (wH ((a / 2 ^ n : Nat) : Int) : Int) = 0 := by
  have e : a / 2 ^ n = a / 18446744073709551616 / 2 ^ (n - 64) := by
    rw [Nat.div_div_eq_div_mul, show (18446744073709551616 : Nat) = 2 ^ 64 from rfl, ← Nat.pow_add, show 64 + (n - 64) = n by omega]
  have hle : a / 18446744073709551616 / 2 ^ (n - 64) ≤ a / 18446744073709551616 := Nat.div_le_self _ _
  rw [wH_nat (Nat.lt_of_le_of_lt (Nat.div_le_self _ _) h), wL_nat, wH_nat h, ← natPow_int, ← Int.natCast_ediv, e]
  generalize a / 18446744073709551616 / 2 ^ (n - 64) = X at *
  unfold W128 at h
  omega
attribute [local irreducible] wH wL
theorem left_spec (a n : Nat) (hn : n < 128) (h : a * 2 ^ n < W128) (I : PH) : FnSpec Tryd.prog 62 [wideV (a : Int), .int .i64 (n : Nat)] I [] (fun v R' => v = wideV ((a * 2 ^ n : Nat) : Int) ∧ R' = []) := by
  have ha := mul_lt_pow h
  refine FnSpec.enterP Tryd.func62 rfl Tryd.ntmps62 rfl fun w F => ?_
  repeat' first
    | ((with_reducible refine Nx.is_wp ?_); first | refine Nx.p_draw (id := 3) rfl [0, 1, 2, 3, 4, 5, 6, 7, 8, 9, 10, 11, 12, 13, 14, 15] [15] [Blk _ 47 (wideL a), F] rfl rfl (by kernel_rfl) (by kernel_rfl) rfl (by repeat first | exact PanicOk.fn | refine PanicOk.then_ ?_ | refine PanicOk.inB ?_) (Ent.pick 1 rfl (Ent.pick 1 rfl (Ent.nil _))) ?_ | refine Nx.wo ?_ | refine Nx.p_draw (id := 3) rfl [0, 1, 2, 3, 4, 5, 6, 7, 8, 9, 10, 11, 12, 13, 14, 15] [15] _ rfl rfl (by kernel_rfl) (by kernel_rfl) rfl (by repeat first | exact PanicOk.fn | refine PanicOk.then_ ?_ | refine PanicOk.inB ?_) (Ent.refl _) ?_ | refine Nx.p_dec rfl rfl (fun hc => ?_) (fun hc => ?_) | refine Nx.p_bool rfl rfl (fun hc => ?_) (fun hc => ?_))
    | ((first | refine Nx.at_op rfl rfl ?_ | refine Nx.m_loud rfl rfl rfl ?_ | refine Nx.at_do rfl rfl rfl rfl ?_ | refine Nx.m_loud_do rfl rfl rfl rfl rfl ?_); first | refine Nx.opr rfl rfl ?_ | refine Nx.bin rfl rfl (run_shlN (n - 64) (by omega) (by omega)) rfl ?_ | refine Nx.so ?_ | refine Nx.sb (fun bx => ?_) | refine Nx.sa (fun A2 c2 => ?_))
    | ((with_reducible refine Nx.is_at ?_); first | refine Nx.a ?_ | ((fail_if_success refine Nx.at_do rfl rfl rfl rfl ?_); first | refine Nx.at_dec_t rfl rfl rfl rfl (by first | assumption | omega) ?_ | refine Nx.at_dec_f rfl rfl rfl rfl (by first | assumption | omega) ?_ | refine Nx.at_split rfl rfl rfl rfl (fun hc => ?_) (fun hc => ?_) | refine Nx.at_splitb rfl rfl rfl rfl (fun hc => ?_) (fun hc => ?_)))
    | ((with_reducible refine Nx.is_mix ?_); first | refine Nx.m_quiet rfl rfl rfl rfl rfl (by first | exact QRun.opr rfl | exact QRun.bin rfl rfl (run_shlN n rfl (by omega)) | exact QRun.bin rfl rfl (run_shrN (64 - n) (by omega) (by omega)) | exact QRun.bin rfl rfl (left_or (by omega) h)) ?_ | refine Nx.m_quiet_do rfl rfl rfl rfl rfl rfl rfl (by first | exact QRun.opr rfl | exact QRun.bin rfl rfl (run_shlN n rfl (by omega)) | exact QRun.bin rfl rfl (run_shrN (64 - n) (by omega) (by omega)) | exact QRun.bin rfl rfl (left_or (by omega) h)) ?_ | refine Nx.m ?_ | ((fail_if_success refine Nx.m_quiet_do rfl rfl rfl rfl rfl rfl rfl ?_ ?_); (fail_if_success refine Nx.m_loud_do rfl rfl rfl rfl rfl ?_); first | refine Nx.m_dec_t rfl rfl rfl rfl (by first | assumption | omega) ?_ | refine Nx.m_dec_f rfl rfl rfl rfl (by first | assumption | omega) ?_ | refine Nx.m_split rfl rfl rfl rfl (fun hc => ?_) (fun hc => ?_) | refine Nx.m_splitb rfl rfl rfl rfl (fun hc => ?_) (fun hc => ?_)))
    | ((fail_if_success (with_reducible refine Nx.is_at ?_)); (fail_if_success (with_reducible refine Nx.is_wp ?_)); (fail_if_success (with_reducible refine Nx.is_mix ?_)); first | refine Nx.ex ?_)
  · have e := left_far (by omega) hn h
    refine Nx.ret_cell 0 rfl rfl rfl rfl rfl rfl [] ⟨wideV_mkI e.1 e.2, rfl⟩ ?_
    (first | done | (repeat first | exact Ent.refl _ | exact Ent.nil _ | refine Ent.pick 0 rfl ?_ | refine Ent.pick 1 rfl ?_ | refine Ent.pick 2 rfl ?_ | refine Ent.pick 3 rfl ?_ | refine Ent.pick 4 rfl ?_ | refine Ent.pick 5 rfl ?_ | refine Ent.pick 6 rfl ?_ | refine Ent.pick 7 rfl ?_ | refine Ent.pick 8 rfl ?_ | refine Ent.pick 9 rfl ?_ | refine Ent.pick 10 rfl ?_ | refine Ent.pick 11 rfl ?_ | refine Ent.pick 12 rfl ?_ | refine Ent.pick 13 rfl ?_ | refine Ent.pick 14 rfl ?_))
  · refine Nx.ret_cell 0 rfl rfl rfl rfl rfl rfl [] ⟨wideV_mkI rfl (left_low (by omega) h), rfl⟩ ?_
    (first | done | (repeat first | exact Ent.refl _ | exact Ent.nil _ | refine Ent.pick 0 rfl ?_ | refine Ent.pick 1 rfl ?_ | refine Ent.pick 2 rfl ?_ | refine Ent.pick 3 rfl ?_ | refine Ent.pick 4 rfl ?_ | refine Ent.pick 5 rfl ?_ | refine Ent.pick 6 rfl ?_ | refine Ent.pick 7 rfl ?_ | refine Ent.pick 8 rfl ?_ | refine Ent.pick 9 rfl ?_ | refine Ent.pick 10 rfl ?_ | refine Ent.pick 11 rfl ?_ | refine Ent.pick 12 rfl ?_ | refine Ent.pick 13 rfl ?_ | refine Ent.pick 14 rfl ?_))
theorem right_spec (a n : Nat) (hn : n < 128) (h : a < W128) (I : PH) : FnSpec Tryd.prog 61 [wideV (a : Int), .int .i64 (n : Nat)] I [] (fun v R' => v = wideV ((a / 2 ^ n : Nat) : Int) ∧ R' = []) := by
  refine FnSpec.enterP Tryd.func61 rfl Tryd.ntmps61 rfl fun w F => ?_
  repeat' first
    | ((with_reducible refine Nx.is_wp ?_); first | refine Nx.p_draw (id := 3) rfl [0, 1, 2, 3, 4, 5, 6, 7, 8, 9, 10, 11, 12, 13, 14, 15] [15] [Blk _ 47 (wideL a), F] rfl rfl (by kernel_rfl) (by kernel_rfl) rfl (by repeat first | exact PanicOk.fn | refine PanicOk.then_ ?_ | refine PanicOk.inB ?_) (Ent.pick 1 rfl (Ent.pick 1 rfl (Ent.nil _))) ?_ | refine Nx.wo ?_ | refine Nx.p_draw (id := 3) rfl [0, 1, 2, 3, 4, 5, 6, 7, 8, 9, 10, 11, 12, 13, 14, 15] [15] _ rfl rfl (by kernel_rfl) (by kernel_rfl) rfl (by repeat first | exact PanicOk.fn | refine PanicOk.then_ ?_ | refine PanicOk.inB ?_) (Ent.refl _) ?_ | refine Nx.p_dec rfl rfl (fun hc => ?_) (fun hc => ?_) | refine Nx.p_bool rfl rfl (fun hc => ?_) (fun hc => ?_))
    | ((first | refine Nx.at_op rfl rfl ?_ | refine Nx.m_loud rfl rfl rfl ?_ | refine Nx.at_do rfl rfl rfl rfl ?_ | refine Nx.m_loud_do rfl rfl rfl rfl rfl ?_); first | refine Nx.opr rfl rfl ?_ | refine Nx.bin rfl rfl (run_shrN (n - 64) (by omega) (by omega)) rfl ?_ | refine Nx.so ?_ | refine Nx.sb (fun bx => ?_) | refine Nx.sa (fun A2 c2 => ?_))
    | ((with_reducible refine Nx.is_at ?_); first | refine Nx.a ?_ | ((fail_if_success refine Nx.at_do rfl rfl rfl rfl ?_); first | refine Nx.at_dec_t rfl rfl rfl rfl (by first | assumption | omega) ?_ | refine Nx.at_dec_f rfl rfl rfl rfl (by first | assumption | omega) ?_ | refine Nx.at_split rfl rfl rfl rfl (fun hc => ?_) (fun hc => ?_) | refine Nx.at_splitb rfl rfl rfl rfl (fun hc => ?_) (fun hc => ?_)))
    | ((with_reducible refine Nx.is_mix ?_); first | refine Nx.m_quiet rfl rfl rfl rfl rfl (by first | exact QRun.opr rfl | exact QRun.bin rfl rfl (run_shrN n rfl (by omega)) | exact QRun.bin rfl rfl (run_shlN (64 - n) (by omega) (by omega)) | exact QRun.bin rfl rfl (right_or (by omega) h)) ?_ | refine Nx.m_quiet_do rfl rfl rfl rfl rfl rfl rfl (by first | exact QRun.opr rfl | exact QRun.bin rfl rfl (run_shrN n rfl (by omega)) | exact QRun.bin rfl rfl (run_shlN (64 - n) (by omega) (by omega)) | exact QRun.bin rfl rfl (right_or (by omega) h)) ?_ | refine Nx.m ?_ | ((fail_if_success refine Nx.m_quiet_do rfl rfl rfl rfl rfl rfl rfl ?_ ?_); (fail_if_success refine Nx.m_loud_do rfl rfl rfl rfl rfl ?_); first | refine Nx.m_dec_t rfl rfl rfl rfl (by first | assumption | omega) ?_ | refine Nx.m_dec_f rfl rfl rfl rfl (by first | assumption | omega) ?_ | refine Nx.m_split rfl rfl rfl rfl (fun hc => ?_) (fun hc => ?_) | refine Nx.m_splitb rfl rfl rfl rfl (fun hc => ?_) (fun hc => ?_)))
    | ((fail_if_success (with_reducible refine Nx.is_at ?_)); (fail_if_success (with_reducible refine Nx.is_wp ?_)); (fail_if_success (with_reducible refine Nx.is_mix ?_)); first | refine Nx.ex ?_)
  · have e := right_far (n := n) (by omega) h
    refine Nx.ret_cell 0 rfl rfl rfl rfl rfl rfl [] ⟨wideV_mkI e.2 e.1, rfl⟩ ?_
    (first | done | (repeat first | exact Ent.refl _ | exact Ent.nil _ | refine Ent.pick 0 rfl ?_ | refine Ent.pick 1 rfl ?_ | refine Ent.pick 2 rfl ?_ | refine Ent.pick 3 rfl ?_ | refine Ent.pick 4 rfl ?_ | refine Ent.pick 5 rfl ?_ | refine Ent.pick 6 rfl ?_ | refine Ent.pick 7 rfl ?_ | refine Ent.pick 8 rfl ?_ | refine Ent.pick 9 rfl ?_ | refine Ent.pick 10 rfl ?_ | refine Ent.pick 11 rfl ?_ | refine Ent.pick 12 rfl ?_ | refine Ent.pick 13 rfl ?_ | refine Ent.pick 14 rfl ?_))
  · refine Nx.ret_cell 0 rfl rfl rfl rfl rfl rfl [] ⟨wideV_mkI (right_high (by omega) h) rfl, rfl⟩ ?_
    (first | done | (repeat first | exact Ent.refl _ | exact Ent.nil _ | refine Ent.pick 0 rfl ?_ | refine Ent.pick 1 rfl ?_ | refine Ent.pick 2 rfl ?_ | refine Ent.pick 3 rfl ?_ | refine Ent.pick 4 rfl ?_ | refine Ent.pick 5 rfl ?_ | refine Ent.pick 6 rfl ?_ | refine Ent.pick 7 rfl ?_ | refine Ent.pick 8 rfl ?_ | refine Ent.pick 9 rfl ?_ | refine Ent.pick 10 rfl ?_ | refine Ent.pick 11 rfl ?_ | refine Ent.pick 12 rfl ?_ | refine Ent.pick 13 rfl ?_ | refine Ent.pick 14 rfl ?_))
end Go.Proofs.YtlhnhjconifacaaDoor
