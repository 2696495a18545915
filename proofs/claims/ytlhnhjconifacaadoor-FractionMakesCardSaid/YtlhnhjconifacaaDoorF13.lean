/- Contracts of functions of the given program, and lemmas about plain lists and numbers: what the laws of this seat lean on. -/
import Derived.Test.YtlhnhjconifacaaDoorF12
namespace Go.Proofs.YtlhnhjconifacaaDoor
open Go.Eng
attribute [local irreducible] opK wpList Code.wp Exit.then Exit.inBlock fnPost bodyPost Nx Calls Oper.wp Rd Rds Wr Ent Stars Blk Again Vec FnSpec wpMix QRun Stop Upto wpAt
theorem neq0 {x y : Operand} (z : Int) (hz : InW z) (w : World) :
    (do eqGuard .neq 47 x y (wideV z) (.agg #[.int .u64 0, .int .u64 0]); binOp .neq 47 (wideV z) (.agg #[.int .u64 0, .int .u64 0])).run Tryd.prog w = .ok (.bool (decide (¬ z = 0))) w := by
  have h := neq_wide (x := x) (y := y) (wH z : Int) (wL z : Int) 0 0 w
  rw [zero_bool hz] at h
  rw [show decide (¬ z = 0) = !decide (z = 0) by simp]
  exact h
theorem gcd_mul_odd {b x : Nat} (hx : x % 2 = 1) (hb : b ≠ 0) (hbl : b < W128) : ∃ m, b / 2 ^ zerN b = 2 * m + 1 ∧ Nat.gcd x b = Nat.gcd x (2 * m + 1) ∧ b = 2 ^ zerN b * (2 * m + 1) ∧ zerN b < 128 := by
  obtain ⟨m, hm, hz⟩ := zerN_spec hb hbl
  refine ⟨m, ?_, ?_, hm, hz⟩
  · conv => lhs; arg 1; rw [hm]
    exact Nat.mul_div_cancel_left _ (Nat.two_pow_pos _)
  · conv => lhs; rw [hm]
    exact gcd_odd hx
attribute [local irreducible] wH wL lenN zerN
theorem common_spec (a b : Nat) (ha0 : 0 < a) (ha : a < H127) (hb : b < H127) (I : PH) (hT : TabI I) : FnSpec Tryd.prog 45 [wideV (a : Int), wideV (b : Int)] I [] (fun v R' => v = wideV ((Nat.gcd a b : Nat) : Int) ∧ R' = []) := by
  have ha' : a < W128 := by unfold W128; unfold H127 at ha; omega
  have hb' : b < W128 := by unfold W128; unfold H127 at hb; omega
  have hwb : InW (b : Int) := by unfold InW; unfold H127 at hb; omega
  obtain ⟨u, hu, hz⟩ := zerN_spec (by omega : a ≠ 0) ha'
  have hua : a / 2 ^ zerN a = 2 * u + 1 := by
    conv => lhs; arg 1; rw [hu]
    exact Nat.mul_div_cancel_left _ (Nat.two_pow_pos _)
  have hule : 2 * u + 1 ≤ a := by rw [← hua]; exact Nat.div_le_self _ _
  have hzb : b ≠ 0 → zerN b < 128 := fun h => (zerN_spec h hb').choose_spec.2
  refine FnSpec.enterP Tryd.func45 rfl Tryd.ntmps45 rfl fun w F => ?_
  repeat' first
    | ((with_reducible refine Nx.is_wp ?_); first | refine Nx.wo ?_ | refine Nx.p_drawF (id := 3) rfl [0, 2, 1] [1] [3, 4, 5] _ rfl rfl (by kernel_rfl) (by kernel_rfl) rfl (by repeat first | exact PanicOk.fn | refine PanicOk.then_ ?_ | refine PanicOk.inB ?_) (Ent.refl _) ?_ | refine Nx.p_drawF (id := 4) rfl [0, 1, 2] [2] [3, 4] _ rfl rfl (by kernel_rfl) (by kernel_rfl) rfl (by repeat first | exact PanicOk.fn | refine PanicOk.then_ ?_ | refine PanicOk.inB ?_) (Ent.refl _) ?_ | refine Nx.p_drawF (id := 6) rfl [0, 1, 2] [2] [3, 4] _ rfl rfl (by kernel_rfl) (by kernel_rfl) rfl (by repeat first | exact PanicOk.fn | refine PanicOk.then_ ?_ | refine PanicOk.inB ?_) (Ent.refl _) ?_ | refine Nx.p_dec rfl rfl (fun hc => ?_) (fun hc => ?_) | refine Nx.p_bool rfl rfl (fun hc => ?_) (fun hc => ?_))
    | ((first | refine Nx.at_op rfl rfl ?_ | refine Nx.m_loud rfl rfl rfl ?_ | refine Nx.at_do rfl rfl rfl rfl ?_ | refine Nx.m_loud_do rfl rfl rfl rfl rfl ?_); first | refine Nx.opr rfl rfl ?_ | refine Nx.callv rfl rfl rfl (by kernel_rfl) rfl (zeros_spec _ ha' I hT) ?_ | refine Nx.callv rfl rfl rfl (by kernel_rfl) rfl (zeros_spec _ hb' I hT) ?_ | refine Nx.binr rfl rfl (eql_wide _ _ _ _) rfl ?_ | refine Nx.callv rfl rfl rfl (by kernel_rfl) rfl (right_spec a (zerN a) hz ha' I) ?_ | refine Nx.so ?_ | refine Nx.sb (fun bx => ?_) | refine Nx.sa (fun A2 c2 => ?_))
    | ((with_reducible refine Nx.is_at ?_); first | refine Nx.a ?_ | ((fail_if_success refine Nx.at_do rfl rfl rfl rfl ?_); first | refine Nx.at_dec_t rfl rfl rfl rfl (by first | assumption | omega) ?_ | refine Nx.at_dec_f rfl rfl rfl rfl (by first | assumption | omega) ?_ | refine Nx.at_split rfl rfl rfl rfl (fun hc => ?_) (fun hc => ?_) | refine Nx.at_splitb rfl rfl rfl rfl (fun hc => ?_) (fun hc => ?_)))
    | ((with_reducible refine Nx.is_mix ?_); first | refine Nx.m ?_ | ((fail_if_success refine Nx.m_quiet_do rfl rfl rfl rfl rfl rfl rfl ?_ ?_); (fail_if_success refine Nx.m_loud_do rfl rfl rfl rfl rfl ?_); first | refine Nx.m_dec_t rfl rfl rfl rfl (by first | assumption | omega) ?_ | refine Nx.m_dec_f rfl rfl rfl rfl (by first | assumption | omega) ?_ | refine Nx.m_split rfl rfl rfl rfl (fun hc => ?_) (fun hc => ?_) | refine Nx.m_splitb rfl rfl rfl rfl (fun hc => ?_) (fun hc => ?_)))
    | ((fail_if_success (with_reducible refine Nx.is_at ?_)); (fail_if_success (with_reducible refine Nx.is_wp ?_)); (fail_if_success (with_reducible refine Nx.is_mix ?_)); first | refine Nx.ex ?_)
  · rw [zero_bool hwb, decide_eq_true_eq] at hc
    obtain rfl : b = 0 := by omega
    rw [Nat.gcd_zero_right]
    refine Nx.ret_cell 0 rfl rfl rfl rfl rfl rfl [] ⟨rfl, rfl⟩ ?_
    (first | done | (repeat first | exact Ent.refl _ | exact Ent.nil _ | refine Ent.pick 0 rfl ?_ | refine Ent.pick 1 rfl ?_ | refine Ent.pick 2 rfl ?_ | refine Ent.pick 3 rfl ?_ | refine Ent.pick 4 rfl ?_ | refine Ent.pick 5 rfl ?_ | refine Ent.pick 6 rfl ?_ | refine Ent.pick 7 rfl ?_ | refine Ent.pick 8 rfl ?_ | refine Ent.pick 9 rfl ?_ | refine Ent.pick 10 rfl ?_ | refine Ent.pick 11 rfl ?_ | refine Ent.pick 12 rfl ?_ | refine Ent.pick 13 rfl ?_ | refine Ent.pick 14 rfl ?_))
  · rw [zero_bool hwb, decide_eq_false_iff_not] at hc
    rename_i ba bb
    have hb0 : b ≠ 0 := by omega
    have hzb := hzb hb0
    obtain ⟨v, hv, _⟩ := zerN_spec hb0 hb'
    have hgcd : Nat.gcd a b = 2 ^ (min (zerN a) (zerN b)) * Nat.gcd (2 * u + 1) b := by
      have h1 : Nat.gcd a b = 2 ^ (min (zerN a) (zerN b)) * Nat.gcd (2 * u + 1) (2 * v + 1) := by
        conv => lhs; rw [hu, hv]
        exact gcd_twos (by omega) (by omega)
      have h2 : Nat.gcd (2 * u + 1) b = Nat.gcd (2 * u + 1) (2 * v + 1) := by
        conv => lhs; rw [hv]
        exact gcd_odd (by omega)
      rw [h1, h2]
    have hgle : Nat.gcd a b ≤ a := Nat.le_of_dvd ha0 (Nat.gcd_dvd_left a b)
    rw [hua]
    refine Nx.p_loop (σ := Nat × Nat) (fun _ => [(5, .int .i64 (min (zerN a : Int) (zerN b : Int))), (4, .pointer (some ⟨bx, 0, none⟩)), (3, .pointer (some ⟨bb, 0, none⟩)), (2, .pointer (some ⟨ba, 0, none⟩))])
      (fun s => [Blk ba 47 (wideL (s.1 : Int)), Blk bb 47 (wideL (s.2 : Int)), Blk bx 47 [.int .u64 0, .int .u64 0], F])
      (fun s => s.1 < H127 ∧ s.2 < H127 ∧ s.1 % 2 = 1 ∧ Nat.gcd s.1 s.2 = Nat.gcd (2 * u + 1) b) (fun s => s.1 + s.2) (2 * u + 1, b) rfl ⟨by omega, hb, by omega, rfl⟩ ⟨rfl, rfl, rfl, rfl, trivial⟩ (by (first | done | (repeat first | exact Ent.refl _ | exact Ent.nil _ | refine Ent.pick 0 rfl ?_ | refine Ent.pick 1 rfl ?_ | refine Ent.pick 2 rfl ?_ | refine Ent.pick 3 rfl ?_ | refine Ent.pick 4 rfl ?_ | refine Ent.pick 5 rfl ?_ | refine Ent.pick 6 rfl ?_ | refine Ent.pick 7 rfl ?_ | refine Ent.pick 8 rfl ?_ | refine Ent.pick 9 rfl ?_ | refine Ent.pick 10 rfl ?_ | refine Ent.pick 11 rfl ?_ | refine Ent.pick 12 rfl ?_ | refine Ent.pick 13 rfl ?_ | refine Ent.pick 14 rfl ?_))) ?_
    rintro ⟨x, y⟩ ⟨hx, hy, ho, hg⟩
    simp only at hx hy ho hg ⊢
    have hx' : x < 170141183460469231731687303715884105728 := hx
    have hy' : y < 170141183460469231731687303715884105728 := hy
    have hwy : InW (y : Int) := by unfold InW; omega
    by_cases h0 : y = 0
    · subst h0
      rw [Nat.gcd_zero_right] at hg
      subst hg
      rw [show min (zerN a : Int) (zerN b : Int) = ((min (zerN a) (zerN b) : Nat) : Int) by omega]
      have hlt : Nat.gcd (2 * u + 1) b * 2 ^ (min (zerN a) (zerN b)) < W128 := by rw [Nat.mul_comm, ← hgcd]; omega
      repeat' first
        | ((with_reducible refine Nx.is_wp ?_); first | refine Nx.wo ?_ | refine Nx.p_dec rfl rfl (fun hc => ?_) (fun hc => ?_) | refine Nx.p_bool rfl rfl (fun hc => ?_) (fun hc => ?_))
        | ((first | refine Nx.at_op rfl rfl ?_ | refine Nx.m_loud rfl rfl rfl ?_ | refine Nx.at_do rfl rfl rfl rfl ?_ | refine Nx.m_loud_do rfl rfl rfl rfl rfl ?_); first | refine Nx.opr rfl rfl ?_ | refine Nx.binr rfl rfl (neq0 _ hwy) rfl ?_ | refine Nx.callv rfl rfl rfl (by kernel_rfl) rfl (left_spec _ _ (by omega) hlt I) ?_ | refine Nx.so ?_ | refine Nx.sb (fun bx => ?_) | refine Nx.sa (fun A2 c2 => ?_))
        | ((with_reducible refine Nx.is_at ?_); first | refine Nx.a ?_ | ((fail_if_success refine Nx.at_do rfl rfl rfl rfl ?_); first | refine Nx.at_dec_t rfl rfl rfl rfl (by first | assumption | omega) ?_ | refine Nx.at_dec_f rfl rfl rfl rfl (by first | assumption | omega) ?_ | refine Nx.at_split rfl rfl rfl rfl (fun hc => ?_) (fun hc => ?_) | refine Nx.at_splitb rfl rfl rfl rfl (fun hc => ?_) (fun hc => ?_)))
        | ((with_reducible refine Nx.is_mix ?_); first | refine Nx.m ?_ | ((fail_if_success refine Nx.m_quiet_do rfl rfl rfl rfl rfl rfl rfl ?_ ?_); (fail_if_success refine Nx.m_loud_do rfl rfl rfl rfl rfl ?_); first | refine Nx.m_dec_t rfl rfl rfl rfl (by first | assumption | omega) ?_ | refine Nx.m_dec_f rfl rfl rfl rfl (by first | assumption | omega) ?_ | refine Nx.m_split rfl rfl rfl rfl (fun hc => ?_) (fun hc => ?_) | refine Nx.m_splitb rfl rfl rfl rfl (fun hc => ?_) (fun hc => ?_)))
        | ((fail_if_success (with_reducible refine Nx.is_at ?_)); (fail_if_success (with_reducible refine Nx.is_wp ?_)); (fail_if_success (with_reducible refine Nx.is_mix ?_)); first | refine Nx.ex ?_)
      refine Nx.ret_cell 0 rfl rfl rfl rfl rfl rfl [] ⟨congrArg wideV ?_, rfl⟩ ?_
      · rw [hgcd, Nat.mul_comm]
      · (first | done | (repeat first | exact Ent.refl _ | exact Ent.nil _ | refine Ent.pick 0 rfl ?_ | refine Ent.pick 1 rfl ?_ | refine Ent.pick 2 rfl ?_ | refine Ent.pick 3 rfl ?_ | refine Ent.pick 4 rfl ?_ | refine Ent.pick 5 rfl ?_ | refine Ent.pick 6 rfl ?_ | refine Ent.pick 7 rfl ?_ | refine Ent.pick 8 rfl ?_ | refine Ent.pick 9 rfl ?_ | refine Ent.pick 10 rfl ?_ | refine Ent.pick 11 rfl ?_ | refine Ent.pick 12 rfl ?_ | refine Ent.pick 13 rfl ?_ | refine Ent.pick 14 rfl ?_))
    · obtain ⟨m, hm1, hm2, hm3, hzy⟩ := gcd_mul_odd ho h0 (by unfold W128; omega)
      have hml : 2 * m + 1 ≤ y := by rw [← hm1]; exact Nat.div_le_self _ _
      have hr := right_spec y (zerN y) hzy (by unfold W128; omega) I
      rw [hm1] at hr
      repeat' first
        | ((with_reducible refine Nx.is_wp ?_); first | refine Nx.wo ?_ | refine Nx.p_drawF (id := 3) rfl [0, 2, 1] [1] [3, 4, 5] _ rfl rfl (by kernel_rfl) (by kernel_rfl) rfl (by repeat first | exact PanicOk.fn | refine PanicOk.then_ ?_ | refine PanicOk.inB ?_) (Ent.refl _) ?_ | refine Nx.p_drawF (id := 4) rfl [0, 1, 2] [2] [3, 4] _ rfl rfl (by kernel_rfl) (by kernel_rfl) rfl (by repeat first | exact PanicOk.fn | refine PanicOk.then_ ?_ | refine PanicOk.inB ?_) (Ent.refl _) ?_ | refine Nx.p_drawF (id := 6) rfl [0, 1, 2] [2] [3, 4] _ rfl rfl (by kernel_rfl) (by kernel_rfl) rfl (by repeat first | exact PanicOk.fn | refine PanicOk.then_ ?_ | refine PanicOk.inB ?_) (Ent.refl _) ?_ | refine Nx.p_dec rfl rfl (fun hc => ?_) (fun hc => ?_) | refine Nx.p_bool rfl rfl (fun hc => ?_) (fun hc => ?_))
        | ((first | refine Nx.at_op rfl rfl ?_ | refine Nx.m_loud rfl rfl rfl ?_ | refine Nx.at_do rfl rfl rfl rfl ?_ | refine Nx.m_loud_do rfl rfl rfl rfl rfl ?_); first | refine Nx.opr rfl rfl ?_ | refine Nx.callv rfl rfl rfl (by kernel_rfl) rfl (zeros_spec y (by unfold W128; omega) I hT) ?_ | refine Nx.binr rfl rfl (neq0 _ hwy) rfl ?_ | refine Nx.callv rfl rfl rfl (by kernel_rfl) rfl hr ?_ | refine Nx.callv rfl rfl rfl (by kernel_rfl) rfl (minus_spec _ _ I) ?_ | refine Nx.callv rfl rfl rfl (by kernel_rfl) rfl (sign_spec _ (by unfold InW; omega) I) ?_ | refine Nx.so ?_ | refine Nx.sb (fun bx => ?_) | refine Nx.sa (fun A2 c2 => ?_))
        | ((with_reducible refine Nx.is_at ?_); first | refine Nx.a ?_ | ((fail_if_success refine Nx.at_do rfl rfl rfl rfl ?_); first | refine Nx.at_dec_t rfl rfl rfl rfl (by first | assumption | omega) ?_ | refine Nx.at_dec_f rfl rfl rfl rfl (by first | assumption | omega) ?_ | refine Nx.at_split rfl rfl rfl rfl (fun hc => ?_) (fun hc => ?_) | refine Nx.at_splitb rfl rfl rfl rfl (fun hc => ?_) (fun hc => ?_)))
        | ((with_reducible refine Nx.is_mix ?_); first | refine Nx.m ?_ | ((fail_if_success refine Nx.m_quiet_do rfl rfl rfl rfl rfl rfl rfl ?_ ?_); (fail_if_success refine Nx.m_loud_do rfl rfl rfl rfl rfl ?_); first | refine Nx.m_dec_t rfl rfl rfl rfl (by first | assumption | omega) ?_ | refine Nx.m_dec_f rfl rfl rfl rfl (by first | assumption | omega) ?_ | refine Nx.m_split rfl rfl rfl rfl (fun hc => ?_) (fun hc => ?_) | refine Nx.m_splitb rfl rfl rfl rfl (fun hc => ?_) (fun hc => ?_)))
        | ((fail_if_success (with_reducible refine Nx.is_at ?_)); (fail_if_success (with_reducible refine Nx.is_wp ?_)); (fail_if_success (with_reducible refine Nx.is_mix ?_)); first | refine Nx.ex ?_)
      · have hlt : 2 * m + 1 < x := by
          have := Int.sign_neg_iff.1 hc
          omega
        refine Nx.again (2 * m + 1, x - (2 * m + 1)) ⟨by omega, by show x - (2 * m + 1) < H127; omega, by show (2 * m + 1) % 2 = 1; omega, ?_⟩ (by show 2 * m + 1 + (x - (2 * m + 1)) < x + y; omega) ⟨rfl, rfl, rfl, rfl, trivial⟩ ?_
        · show Nat.gcd (2 * m + 1) (x - (2 * m + 1)) = _
          rw [gcd_sub (by omega), Nat.gcd_comm, ← hm2, hg]
        · show Ent _ [Blk ba _ _, Blk bb _ (wideL ((x - (2 * m + 1) : Nat) : Int)), _, _]
          rw [show ((x - (2 * m + 1) : Nat) : Int) = (x : Int) - ((2 * m + 1 : Nat) : Int) by omega]
          exact Ent.pickE 1 rfl rfl (Ent.pickE 0 rfl rfl (by (first | done | (repeat first | exact Ent.refl _ | exact Ent.nil _ | refine Ent.pick 0 rfl ?_ | refine Ent.pick 1 rfl ?_ | refine Ent.pick 2 rfl ?_ | refine Ent.pick 3 rfl ?_ | refine Ent.pick 4 rfl ?_ | refine Ent.pick 5 rfl ?_ | refine Ent.pick 6 rfl ?_ | refine Ent.pick 7 rfl ?_ | refine Ent.pick 8 rfl ?_ | refine Ent.pick 9 rfl ?_ | refine Ent.pick 10 rfl ?_ | refine Ent.pick 11 rfl ?_ | refine Ent.pick 12 rfl ?_ | refine Ent.pick 13 rfl ?_ | refine Ent.pick 14 rfl ?_))))
      · have hle : x ≤ 2 * m + 1 := by
          have : ¬ ((2 * m + 1 : Nat) : Int) - (x : Int) < 0 := fun h => hc (Int.sign_neg_iff.2 h)
          omega
        refine Nx.again (x, 2 * m + 1 - x) ⟨hx, by show 2 * m + 1 - x < H127; omega, ho, ?_⟩ (by show x + (2 * m + 1 - x) < x + y; omega) ⟨rfl, rfl, rfl, rfl, trivial⟩ ?_
        · show Nat.gcd x (2 * m + 1 - x) = _
          rw [gcd_sub hle, ← hm2, hg]
        · show Ent _ [Blk ba _ _, Blk bb _ (wideL ((2 * m + 1 - x : Nat) : Int)), _, _]
          rw [show ((2 * m + 1 - x : Nat) : Int) = ((2 * m + 1 : Nat) : Int) - (x : Int) by omega]
          exact Ent.pickE 1 rfl rfl (Ent.pickE 0 rfl rfl (by (first | done | (repeat first | exact Ent.refl _ | exact Ent.nil _ | refine Ent.pick 0 rfl ?_ | refine Ent.pick 1 rfl ?_ | refine Ent.pick 2 rfl ?_ | refine Ent.pick 3 rfl ?_ | refine Ent.pick 4 rfl ?_ | refine Ent.pick 5 rfl ?_ | refine Ent.pick 6 rfl ?_ | refine Ent.pick 7 rfl ?_ | refine Ent.pick 8 rfl ?_ | refine Ent.pick 9 rfl ?_ | refine Ent.pick 10 rfl ?_ | refine Ent.pick 11 rfl ?_ | refine Ent.pick 12 rfl ?_ | refine Ent.pick 13 rfl ?_ | refine Ent.pick 14 rfl ?_))))
end Go.Proofs.YtlhnhjconifacaaDoor
