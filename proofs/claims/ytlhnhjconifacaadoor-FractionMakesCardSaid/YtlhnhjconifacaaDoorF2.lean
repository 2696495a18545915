/- Contracts of functions of the given program, and lemmas about plain lists and numbers: what the laws of this seat lean on. -/
import Derived.Test.YtlhnhjconifacaaDoorF1
import Derived.Shelf.Bits.Mul64
namespace Go.Proofs.YtlhnhjconifacaaDoor
def ml64_ren : Go.Shelf.Ren := ⟨fun | 264 => 56 | n => n, fun | 53 => 45 | 46 => 65 | n => n, fun | n => n⟩
theorem ml64 : Go.Proofs.Lays.n264 Tryd.prog ml64_ren where
  mixed := by kernel_rfl
  f264 := Tryd.func56.trans (congrArg some (by kernel_rfl))
  t46 := Tryd.underlying65
  a46 := Tryd.isAgg65
  z46 := Tryd.sizeOf65
  v46 := Tryd.zeroValue65
  t53 := Tryd.underlying45
  a53 := Tryd.isAgg45
  z53 := Tryd.sizeOf45
  v53 := Tryd.zeroValue45
end Go.Proofs.YtlhnhjconifacaaDoor
namespace Go.Proofs.YtlhnhjconifacaaDoor
open Go.Eng
attribute [local irreducible] opK wpList Code.wp Exit.then Exit.inBlock fnPost bodyPost Nx Calls Oper.wp Rd Rds Wr Ent Stars Blk Again Vec FnSpec wpMix QRun Stop Upto wpAt
theorem mul64_spec (x y : Nat) (hx : x < 18446744073709551616) (hy : y < 18446744073709551616) (I : PH) :
    FnSpec Tryd.prog 56 [.int .u64 x, .int .u64 y] I [] (fun v R' => v = .tuple #[.int .u64 ((x * y / 18446744073709551616 : Nat) : Int), .int .u64 ((x * y % 18446744073709551616 : Nat) : Int)] ∧ R' = []) :=
  FnSpec.of_same fun w _ _ _ => Any.bits_Mul64 ml64 x y hx hy w
theorem wideV_mkI {h l : Int} {z : Int} (hh : (wH z : Int) = h) (hl : (wL z : Int) = l) : Value.agg [.int .u64 h, .int .u64 l].toArray = wideV z := by unfold wideV wideL; rw [hh, hl]
theorem times_high (a b : Int) : (wH (a * b) : Int) = ((((wL a * wL b / 18446744073709551616 : Nat) : Int) + (wH a : Int) * (wL b : Int) % B64) % B64 + (wL a : Int) * (wH b : Int) % B64) % B64 := by
  rw [(wide_mul a b).2, Int.emod_add_emod, Int.add_emod_emod, Int.add_assoc, Int.add_comm ((wH a : Int) * (wL b : Int) % B64), ← Int.add_assoc, Int.add_emod_emod]
  have e : (((wL a * wL b / 18446744073709551616 + wH a * wL b + wL a * wH b) % 18446744073709551616 : Nat) : Int) = (((wL a * wL b / 18446744073709551616 : Nat) : Int) + (wH a : Int) * (wL b : Int) + (wL a : Int) * (wH b : Int)) % B64 := by
    rw [Int.natCast_emod, Int.natCast_add, Int.natCast_add, Int.natCast_mul (wH a), Int.natCast_mul (wL a) (wH b)]
    rfl
  rw [e]
  congr 1
  rw [Int.add_assoc, Int.add_assoc, Int.add_comm ((wH a : Int) * (wL b : Int))]
theorem times_low (a b : Int) : (wL (a * b) : Int) = ((wL a * wL b % 18446744073709551616 : Nat) : Int) := by rw [(wide_mul a b).1]
theorem times_spec (a b : Int) (I : PH) : FnSpec Tryd.prog 35 [wideV a, wideV b] I [] (fun v R' => v = wideV (a * b) ∧ R' = []) := by
  refine FnSpec.enterP Tryd.func35 rfl Tryd.ntmps35 rfl fun w F => ?_
  repeat' first
    | ((with_reducible refine Nx.is_wp ?_); first | refine Nx.wo ?_ | refine Nx.p_dec rfl rfl (fun hc => ?_) (fun hc => ?_) | refine Nx.p_bool rfl rfl (fun hc => ?_) (fun hc => ?_))
    | ((first | refine Nx.at_op rfl rfl ?_ | refine Nx.m_loud rfl rfl rfl ?_ | refine Nx.at_do rfl rfl rfl rfl ?_ | refine Nx.m_loud_do rfl rfl rfl rfl rfl ?_); first | refine Nx.opr rfl rfl ?_ | refine Nx.call (Rpre := []) rfl rfl rfl (by kernel_rfl) rfl (mul64_spec _ _ (wL_lt a) (wL_lt b) I) (Ent.refl _) ?_; rintro _ _ ⟨rfl, rfl⟩ | refine Nx.bin rfl rfl run_mulU rfl ?_ | refine Nx.bin rfl rfl run_addU rfl ?_ | refine Nx.so ?_ | refine Nx.sb (fun bx => ?_) | refine Nx.sa (fun A2 c2 => ?_))
    | ((with_reducible refine Nx.is_at ?_); first | refine Nx.a ?_ | ((fail_if_success refine Nx.at_do rfl rfl rfl rfl ?_); first | refine Nx.at_dec_t rfl rfl rfl rfl (by first | assumption | omega) ?_ | refine Nx.at_dec_f rfl rfl rfl rfl (by first | assumption | omega) ?_ | refine Nx.at_split rfl rfl rfl rfl (fun hc => ?_) (fun hc => ?_) | refine Nx.at_splitb rfl rfl rfl rfl (fun hc => ?_) (fun hc => ?_)))
    | ((with_reducible refine Nx.is_mix ?_); first | refine Nx.m ?_ | ((fail_if_success refine Nx.m_quiet_do rfl rfl rfl rfl rfl rfl rfl ?_ ?_); (fail_if_success refine Nx.m_loud_do rfl rfl rfl rfl rfl ?_); first | refine Nx.m_dec_t rfl rfl rfl rfl (by first | assumption | omega) ?_ | refine Nx.m_dec_f rfl rfl rfl rfl (by first | assumption | omega) ?_ | refine Nx.m_split rfl rfl rfl rfl (fun hc => ?_) (fun hc => ?_) | refine Nx.m_splitb rfl rfl rfl rfl (fun hc => ?_) (fun hc => ?_)))
    | ((fail_if_success (with_reducible refine Nx.is_at ?_)); (fail_if_success (with_reducible refine Nx.is_wp ?_)); (fail_if_success (with_reducible refine Nx.is_mix ?_)); first | refine Nx.ex ?_)
  refine Nx.ret_cell 0 rfl rfl rfl rfl rfl rfl [] ⟨wideV_mkI (times_high a b) (times_low a b), rfl⟩ ?_
  (first | done | (repeat first | exact Ent.refl _ | exact Ent.nil _ | refine Ent.pick 0 rfl ?_ | refine Ent.pick 1 rfl ?_ | refine Ent.pick 2 rfl ?_ | refine Ent.pick 3 rfl ?_ | refine Ent.pick 4 rfl ?_ | refine Ent.pick 5 rfl ?_ | refine Ent.pick 6 rfl ?_ | refine Ent.pick 7 rfl ?_ | refine Ent.pick 8 rfl ?_ | refine Ent.pick 9 rfl ?_ | refine Ent.pick 10 rfl ?_ | refine Ent.pick 11 rfl ?_ | refine Ent.pick 12 rfl ?_ | refine Ent.pick 13 rfl ?_ | refine Ent.pick 14 rfl ?_))
theorem rtimes_spec (a b : Int) (I : PH) : FnSpec Tryd.prog 58 [wideV a, wideV b] I [] (fun v R' => v = wideV (a * b) ∧ R' = []) := by
  refine FnSpec.enterP Tryd.func58 rfl Tryd.ntmps58 rfl fun w F => ?_
  repeat' first
    | ((with_reducible refine Nx.is_wp ?_); first | refine Nx.wo ?_ | refine Nx.p_dec rfl rfl (fun hc => ?_) (fun hc => ?_) | refine Nx.p_bool rfl rfl (fun hc => ?_) (fun hc => ?_))
    | ((first | refine Nx.at_op rfl rfl ?_ | refine Nx.m_loud rfl rfl rfl ?_ | refine Nx.at_do rfl rfl rfl rfl ?_ | refine Nx.m_loud_do rfl rfl rfl rfl rfl ?_); first | refine Nx.opr rfl rfl ?_ | refine Nx.call (Rpre := []) rfl rfl rfl (by kernel_rfl) rfl (mul64_spec _ _ (wL_lt a) (wL_lt b) I) (Ent.refl _) ?_; rintro _ _ ⟨rfl, rfl⟩ | refine Nx.bin rfl rfl run_mulU rfl ?_ | refine Nx.bin rfl rfl run_addU rfl ?_ | refine Nx.so ?_ | refine Nx.sb (fun bx => ?_) | refine Nx.sa (fun A2 c2 => ?_))
    | ((with_reducible refine Nx.is_at ?_); first | refine Nx.a ?_ | ((fail_if_success refine Nx.at_do rfl rfl rfl rfl ?_); first | refine Nx.at_dec_t rfl rfl rfl rfl (by first | assumption | omega) ?_ | refine Nx.at_dec_f rfl rfl rfl rfl (by first | assumption | omega) ?_ | refine Nx.at_split rfl rfl rfl rfl (fun hc => ?_) (fun hc => ?_) | refine Nx.at_splitb rfl rfl rfl rfl (fun hc => ?_) (fun hc => ?_)))
    | ((with_reducible refine Nx.is_mix ?_); first | refine Nx.m ?_ | ((fail_if_success refine Nx.m_quiet_do rfl rfl rfl rfl rfl rfl rfl ?_ ?_); (fail_if_success refine Nx.m_loud_do rfl rfl rfl rfl rfl ?_); first | refine Nx.m_dec_t rfl rfl rfl rfl (by first | assumption | omega) ?_ | refine Nx.m_dec_f rfl rfl rfl rfl (by first | assumption | omega) ?_ | refine Nx.m_split rfl rfl rfl rfl (fun hc => ?_) (fun hc => ?_) | refine Nx.m_splitb rfl rfl rfl rfl (fun hc => ?_) (fun hc => ?_)))
    | ((fail_if_success (with_reducible refine Nx.is_at ?_)); (fail_if_success (with_reducible refine Nx.is_wp ?_)); (fail_if_success (with_reducible refine Nx.is_mix ?_)); first | refine Nx.ex ?_)
  refine Nx.ret_cell 0 rfl rfl rfl rfl rfl rfl [] ⟨wideV_mkI (times_high a b) (times_low a b), rfl⟩ ?_
  (first | done | (repeat first | exact Ent.refl _ | exact Ent.nil _ | refine Ent.pick 0 rfl ?_ | refine Ent.pick 1 rfl ?_ | refine Ent.pick 2 rfl ?_ | refine Ent.pick 3 rfl ?_ | refine Ent.pick 4 rfl ?_ | refine Ent.pick 5 rfl ?_ | refine Ent.pick 6 rfl ?_ | refine Ent.pick 7 rfl ?_ | refine Ent.pick 8 rfl ?_ | refine Ent.pick 9 rfl ?_ | refine Ent.pick 10 rfl ?_ | refine Ent.pick 11 rfl ?_ | refine Ent.pick 12 rfl ?_ | refine Ent.pick 13 rfl ?_ | refine Ent.pick 14 rfl ?_))
theorem opposite_spec (a : Int) (I : PH) : FnSpec Tryd.prog 44 [wideV a] I [] (fun v R' => v = wideV (-a) ∧ R' = []) := by
  obtain ⟨e1, e2⟩ := wide_not a
  refine FnSpec.enterP Tryd.func44 rfl Tryd.ntmps44 rfl fun w F => ?_
  repeat' first
    | ((with_reducible refine Nx.is_wp ?_); first | refine Nx.wo ?_ | refine Nx.p_dec rfl rfl (fun hc => ?_) (fun hc => ?_) | refine Nx.p_bool rfl rfl (fun hc => ?_) (fun hc => ?_))
    | ((first | refine Nx.at_op rfl rfl ?_ | refine Nx.m_loud rfl rfl rfl ?_ | refine Nx.at_do rfl rfl rfl rfl ?_ | refine Nx.m_loud_do rfl rfl rfl rfl rfl ?_); first | refine Nx.opr rfl rfl ?_ | refine Nx.un rfl (run_notU (wH_lt a)) rfl ?_ | refine Nx.un rfl (run_notU (wL_lt a)) rfl ?_ | refine Nx.call (Rpre := []) rfl rfl (by rw [wideV_mk e1 e2]; rfl) (by kernel_rfl) rfl (plus_spec (-a - 1) 1 I) (Ent.refl _) ?_; rintro _ _ ⟨rfl, rfl⟩ | refine Nx.so ?_ | refine Nx.sb (fun bx => ?_) | refine Nx.sa (fun A2 c2 => ?_))
    | ((with_reducible refine Nx.is_at ?_); first | refine Nx.a ?_ | ((fail_if_success refine Nx.at_do rfl rfl rfl rfl ?_); first | refine Nx.at_dec_t rfl rfl rfl rfl (by first | assumption | omega) ?_ | refine Nx.at_dec_f rfl rfl rfl rfl (by first | assumption | omega) ?_ | refine Nx.at_split rfl rfl rfl rfl (fun hc => ?_) (fun hc => ?_) | refine Nx.at_splitb rfl rfl rfl rfl (fun hc => ?_) (fun hc => ?_)))
    | ((with_reducible refine Nx.is_mix ?_); first | refine Nx.m ?_ | ((fail_if_success refine Nx.m_quiet_do rfl rfl rfl rfl rfl rfl rfl ?_ ?_); (fail_if_success refine Nx.m_loud_do rfl rfl rfl rfl rfl ?_); first | refine Nx.m_dec_t rfl rfl rfl rfl (by first | assumption | omega) ?_ | refine Nx.m_dec_f rfl rfl rfl rfl (by first | assumption | omega) ?_ | refine Nx.m_split rfl rfl rfl rfl (fun hc => ?_) (fun hc => ?_) | refine Nx.m_splitb rfl rfl rfl rfl (fun hc => ?_) (fun hc => ?_)))
    | ((fail_if_success (with_reducible refine Nx.is_at ?_)); (fail_if_success (with_reducible refine Nx.is_wp ?_)); (fail_if_success (with_reducible refine Nx.is_mix ?_)); first | refine Nx.ex ?_)
  refine Nx.ret_cell 0 rfl rfl rfl rfl rfl rfl [] ⟨congrArg wideV (by omega : -a - 1 + 1 = -a), rfl⟩ ?_
  (first | done | (repeat first | exact Ent.refl _ | exact Ent.nil _ | refine Ent.pick 0 rfl ?_ | refine Ent.pick 1 rfl ?_ | refine Ent.pick 2 rfl ?_ | refine Ent.pick 3 rfl ?_ | refine Ent.pick 4 rfl ?_ | refine Ent.pick 5 rfl ?_ | refine Ent.pick 6 rfl ?_ | refine Ent.pick 7 rfl ?_ | refine Ent.pick 8 rfl ?_ | refine Ent.pick 9 rfl ?_ | refine Ent.pick 10 rfl ?_ | refine Ent.pick 11 rfl ?_ | refine Ent.pick 12 rfl ?_ | refine Ent.pick 13 rfl ?_ | refine Ent.pick 14 rfl ?_))
end Go.Proofs.YtlhnhjconifacaaDoor
