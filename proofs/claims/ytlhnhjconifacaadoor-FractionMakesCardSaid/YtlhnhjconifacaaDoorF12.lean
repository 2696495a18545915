/- Contracts of functions of the given program, and lemmas about plain lists and numbers: what the laws of this seat lean on. -/
import Derived.Test.YtlhnhjconifacaaDoorF11
namespace Go.Proofs.YtlhnhjconifacaaDoor
open Go.Eng
attribute [local irreducible] opK wpList Code.wp Exit.then Exit.inBlock fnPost bodyPost Nx Calls Oper.wp Rd Rds Wr Ent Stars Blk Again Vec FnSpec wpMix QRun Stop Upto wpAt
/-- Half a step of a long division. -/
theorem half_step {a B : Nat} (hB : 0 < B) : (a % (2 * B) < B → a % B = a % (2 * B) ∧ a / B = 2 * (a / (2 * B))) ∧ (¬ a % (2 * B) < B → a % B = a % (2 * B) - B ∧ a / B = 2 * (a / (2 * B)) + 1) := by
  have h1 := Nat.div_add_mod a (2 * B)
  have h2 : a % (2 * B) < 2 * B := Nat.mod_lt _ (by omega)
  generalize a % (2 * B) = r at *
  generalize a / (2 * B) = q at *
  have h3 : a = B * (2 * q) + r := by rw [← h1, Nat.mul_left_comm, ← Nat.mul_assoc]
  constructor
  · intro hlt
    constructor
    · conv => lhs; rw [h3]
      rw [Nat.mul_add_mod, Nat.mod_eq_of_lt hlt]
    · conv => lhs; rw [h3]
      rw [Nat.mul_add_div hB, Nat.div_eq_of_lt hlt, Nat.add_zero]
  · intro hge
    have h4 : a = B * (2 * q + 1) + (r - B) := by
      rw [Nat.mul_add]
      omega
    have hlt : r - B < B := by omega
    constructor
    · conv => lhs; rw [h4]
      rw [Nat.mul_add_mod, Nat.mod_eq_of_lt hlt]
    · conv => lhs; rw [h4]
      rw [Nat.mul_add_div hB, Nat.div_eq_of_lt hlt, Nat.add_zero]
attribute [local irreducible] wH wL lenN zerN
theorem minusN (a b : Nat) (h : b ≤ a) (I : PH) : FnSpec Tryd.prog 30 [wideV (a : Int), wideV (b : Int)] I [] (fun v R' => v = wideV ((a - b : Nat) : Int) ∧ R' = []) := by
  have := minus_spec a b I
  rw [show ((a : Int) - b) = ((a - b : Nat) : Int) by omega] at this
  exact this
theorem over_spec (a b : Nat) (ha : a < H127) (hb0 : 0 < b) (hb : b < H127) (I : PH) : FnSpec Tryd.prog 47 [wideV (a : Int), wideV (b : Int)] I []
    (fun v R' => ∃ q : Int, v = .tuple #[.int .i64 q, .bool (decide (a / b ≤ 1152921504606846976))] ∧ R' = [] ∧ (a / b ≤ 1152921504606846976 → q = (a / b : Nat)) ∧ 0 ≤ q ∧ q ≤ 4611686018427387904) := by
  obtain ⟨a1, a2, a3⟩ := lenN_spec (a := a) (by unfold H127 at ha; omega)
  obtain ⟨b1, b2, b3⟩ := lenN_spec (a := b) (by unfold H127 at hb; omega)
  obtain ⟨b2, b4⟩ := b2 (by omega)
  refine FnSpec.enterP Tryd.func47 rfl Tryd.ntmps47 rfl fun w F => ?_
  repeat' first
    | ((with_reducible refine Nx.is_wp ?_); first | refine Nx.wo ?_ | refine Nx.p_drawF (id := 1) rfl [0, 2, 1] [1] [3, 4, 5] _ rfl rfl (by kernel_rfl) (by kernel_rfl) rfl (by repeat first | exact PanicOk.fn | refine PanicOk.then_ ?_ | refine PanicOk.inB ?_) (Ent.refl _) ?_ | refine Nx.p_poolF (id := 9) rfl [0, 1, 2, 3, 4] [3, 4] [6] [⟨5, 9, 47, _⟩] rfl rfl (by kernel_rfl) (by kernel_rfl) (by decide) (PoolFit.cons ⟨⟨_, _, _, rfl⟩, rfl, rfl⟩ PoolFit.nil) (by repeat first | exact PanicOk.fn | refine PanicOk.then_ ?_ | refine PanicOk.inB ?_) (Ent.refl _) ?_ | refine Nx.p_dec rfl rfl (fun hc => ?_) (fun hc => ?_) | refine Nx.p_bool rfl rfl (fun hc => ?_) (fun hc => ?_))
    | ((first | refine Nx.at_op rfl rfl ?_ | refine Nx.m_loud rfl rfl rfl ?_ | refine Nx.at_do rfl rfl rfl rfl ?_ | refine Nx.m_loud_do rfl rfl rfl rfl rfl ?_ | refine GoodF.loud_ rfl rfl rfl rfl (fun ex X => ?_)); first | refine Nx.opr rfl rfl ?_ | refine Nx.callv rfl rfl rfl (by kernel_rfl) rfl (length_spec a (by unfold W128; unfold H127 at ha; omega) I) ?_ | refine Nx.callv rfl rfl rfl (by kernel_rfl) rfl (length_spec b (by unfold W128; unfold H127 at hb; omega) I) ?_ | refine Nx.so ?_ | refine Nx.sb (fun bx => ?_) | refine Nx.sa (fun A2 c2 => ?_))
    | ((with_reducible refine Nx.is_at ?_); first | refine Nx.a ?_ | ((fail_if_success refine Nx.at_do rfl rfl rfl rfl ?_); first | refine Nx.at_dec_t rfl rfl rfl rfl (by first | assumption | omega) ?_ | refine Nx.at_dec_f rfl rfl rfl rfl (by first | assumption | omega) ?_ | refine Nx.at_split rfl rfl rfl rfl (fun hc => ?_) (fun hc => ?_) | refine Nx.at_splitb rfl rfl rfl rfl (fun hc => ?_) (fun hc => ?_)))
    | ((with_reducible refine Nx.is_mix ?_); first | refine Nx.m ?_ | ((fail_if_success refine Nx.m_quiet_do rfl rfl rfl rfl rfl rfl rfl ?_ ?_); (fail_if_success refine Nx.m_loud_do rfl rfl rfl rfl rfl ?_); first | refine Nx.m_dec_t rfl rfl rfl rfl (by first | assumption | omega) ?_ | refine Nx.m_dec_f rfl rfl rfl rfl (by first | assumption | omega) ?_ | refine Nx.m_split rfl rfl rfl rfl (fun hc => ?_) (fun hc => ?_) | refine Nx.m_splitb rfl rfl rfl rfl (fun hc => ?_) (fun hc => ?_)))
    | ((with_reducible refine GoodF.is ?_); first | refine GoodF.quiet rfl rfl rfl rfl rfl rfl (by first | exact QRun.opr rfl |  exact QRun.std) ?_ | refine GoodF.done1 rfl (fun bx => ?_) | refine GoodF.done2 rfl (fun bx by_ => ?_) | refine GoodF.done3 rfl (fun bx by_ bz => ?_))
    | ((fail_if_success (with_reducible refine Nx.is_at ?_)); (fail_if_success (with_reducible refine Nx.is_wp ?_)); (fail_if_success (with_reducible refine Nx.is_mix ?_)); first | refine Nx.ex ?_ | refine Nx.pool_nextF 0 rfl (by first | done | (repeat first | exact Ent.refl _ | exact Ent.nil _ | refine Ent.pick 0 rfl ?_ | refine Ent.pick 1 rfl ?_ | refine Ent.pick 2 rfl ?_ | refine Ent.pick 3 rfl ?_ | refine Ent.pick 4 rfl ?_ | refine Ent.pick 5 rfl ?_ | refine Ent.pick 6 rfl ?_ | refine Ent.pick 7 rfl ?_ | refine Ent.pick 8 rfl ?_ | refine Ent.pick 9 rfl ?_ | refine Ent.pick 10 rfl ?_ | refine Ent.pick 11 rfl ?_ | refine Ent.pick 12 rfl ?_ | refine Ent.pick 13 rfl ?_ | refine Ent.pick 14 rfl ?_)) ?_ | refine Nx.pool_nextF 1 rfl (by first | done | (repeat first | exact Ent.refl _ | exact Ent.nil _ | refine Ent.pick 0 rfl ?_ | refine Ent.pick 1 rfl ?_ | refine Ent.pick 2 rfl ?_ | refine Ent.pick 3 rfl ?_ | refine Ent.pick 4 rfl ?_ | refine Ent.pick 5 rfl ?_ | refine Ent.pick 6 rfl ?_ | refine Ent.pick 7 rfl ?_ | refine Ent.pick 8 rfl ?_ | refine Ent.pick 9 rfl ?_ | refine Ent.pick 10 rfl ?_ | refine Ent.pick 11 rfl ?_ | refine Ent.pick 12 rfl ?_ | refine Ent.pick 13 rfl ?_ | refine Ent.pick 14 rfl ?_)) ?_ | refine Nx.pool_nextF 2 rfl (by first | done | (repeat first | exact Ent.refl _ | exact Ent.nil _ | refine Ent.pick 0 rfl ?_ | refine Ent.pick 1 rfl ?_ | refine Ent.pick 2 rfl ?_ | refine Ent.pick 3 rfl ?_ | refine Ent.pick 4 rfl ?_ | refine Ent.pick 5 rfl ?_ | refine Ent.pick 6 rfl ?_ | refine Ent.pick 7 rfl ?_ | refine Ent.pick 8 rfl ?_ | refine Ent.pick 9 rfl ?_ | refine Ent.pick 10 rfl ?_ | refine Ent.pick 11 rfl ?_ | refine Ent.pick 12 rfl ?_ | refine Ent.pick 13 rfl ?_ | refine Ent.pick 14 rfl ?_)) ?_ | refine Nx.pool_nextF 3 rfl (by first | done | (repeat first | exact Ent.refl _ | exact Ent.nil _ | refine Ent.pick 0 rfl ?_ | refine Ent.pick 1 rfl ?_ | refine Ent.pick 2 rfl ?_ | refine Ent.pick 3 rfl ?_ | refine Ent.pick 4 rfl ?_ | refine Ent.pick 5 rfl ?_ | refine Ent.pick 6 rfl ?_ | refine Ent.pick 7 rfl ?_ | refine Ent.pick 8 rfl ?_ | refine Ent.pick 9 rfl ?_ | refine Ent.pick 10 rfl ?_ | refine Ent.pick 11 rfl ?_ | refine Ent.pick 12 rfl ?_ | refine Ent.pick 13 rfl ?_ | refine Ent.pick 14 rfl ?_)) ?_)
  · have h1 : 2 ^ 61 * b ≤ a := by
      have e : 2 ^ (lenN a - 1) ≤ a := (a2 (by rintro rfl; have : lenN 0 = 0 := (by unfold lenN; rfl); omega)).2
      have : 2 ^ 61 * 2 ^ lenN b ≤ 2 ^ (lenN a - 1) := by rw [← Nat.pow_add]; exact Nat.pow_le_pow_right (by decide) (by omega)
      have : 2 ^ 61 * b ≤ 2 ^ 61 * 2 ^ lenN b := Nat.mul_le_mul_left _ (by omega)
      omega
    have h2 : ¬ a / b ≤ 1152921504606846976 := by
      have := (Nat.le_div_iff_mul_le hb0).2 h1
      omega
    refine Nx.ret_fn rfl [] ⟨0, ?_, rfl, fun h => absurd h h2, by omega, by omega⟩ (by (first | done | (repeat first | exact Ent.refl _ | exact Ent.nil _ | refine Ent.pick 0 rfl ?_ | refine Ent.pick 1 rfl ?_ | refine Ent.pick 2 rfl ?_ | refine Ent.pick 3 rfl ?_ | refine Ent.pick 4 rfl ?_ | refine Ent.pick 5 rfl ?_ | refine Ent.pick 6 rfl ?_ | refine Ent.pick 7 rfl ?_ | refine Ent.pick 8 rfl ?_ | refine Ent.pick 9 rfl ?_ | refine Ent.pick 10 rfl ?_ | refine Ent.pick 11 rfl ?_ | refine Ent.pick 12 rfl ?_ | refine Ent.pick 13 rfl ?_ | refine Ent.pick 14 rfl ?_)))
    rw [decide_eq_false h2]
  · have hla : lenN a ≤ 127 := by
      by_cases h0 : a = 0
      · subst h0
        have : lenN 0 = 0 := by unfold lenN; rfl
        omega
      · have h1 := (a2 h0).2
        have h2 : 2 ^ (lenN a - 1) < 2 ^ 127 := Nat.lt_of_le_of_lt h1 (by unfold H127 at ha; omega)
        have := (Nat.pow_lt_pow_iff_right (by decide : 1 < 2)).1 h2
        omega
    have hst : a < 2 ^ ((lenN a : Int) - lenN b + 1).toNat * b := by
      by_cases h : lenN b ≤ lenN a
      · rw [show ((lenN a : Int) - lenN b + 1).toNat = lenN a - lenN b + 1 by omega]
        have h1 : 2 ^ lenN a = 2 ^ (lenN a - lenN b + 1) * 2 ^ (lenN b - 1) := by rw [← Nat.pow_add]; congr 1; omega
        have h2 : 2 ^ (lenN a - lenN b + 1) * 2 ^ (lenN b - 1) ≤ 2 ^ (lenN a - lenN b + 1) * b := Nat.mul_le_mul_left _ b4
        omega
      · rw [show ((lenN a : Int) - lenN b + 1).toNat = 0 by omega, Nat.pow_zero, Nat.one_mul]
        have : 2 ^ lenN a ≤ 2 ^ (lenN b - 1) := Nat.pow_le_pow_right (by decide) (by omega)
        omega
    have hq62 : a / b < 2 ^ 62 := by
      rw [Nat.div_lt_iff_lt_mul hb0]
      have : 2 ^ ((lenN a : Int) - lenN b + 1).toNat ≤ 2 ^ 62 := Nat.pow_le_pow_right (by decide) (by omega)
      exact Nat.lt_of_lt_of_le hst (Nat.mul_le_mul_right _ this)
    rename_i ba
    refine Nx.p_loop (σ := Int) (fun k => [(8, .int .i64 k), (7, .int .i64 ((a / (2 ^ (k + 1).toNat * b) : Nat) : Int)), (3, .pointer (some ⟨bx, 0, none⟩)), (2, .pointer (some ⟨ba, 0, none⟩))])
      (fun k => [Blk ba 47 (wideL ((a % (2 ^ (k + 1).toNat * b) : Nat) : Int)), Blk bx 47 (wideL (b : Int)), F]) (fun k => k ≤ (lenN a : Int) - lenN b ∧ -200 ≤ k) (fun k => (k + 1).toNat) ((lenN a : Int) - lenN b) rfl ⟨by omega, by omega⟩ ⟨rfl, by rw [Nat.div_eq_of_lt hst]; rfl, rfl, rfl, trivial⟩ (by rw [Nat.mod_eq_of_lt hst]; (first | done | (repeat first | exact Ent.refl _ | exact Ent.nil _ | refine Ent.pick 0 rfl ?_ | refine Ent.pick 1 rfl ?_ | refine Ent.pick 2 rfl ?_ | refine Ent.pick 3 rfl ?_ | refine Ent.pick 4 rfl ?_ | refine Ent.pick 5 rfl ?_ | refine Ent.pick 6 rfl ?_ | refine Ent.pick 7 rfl ?_ | refine Ent.pick 8 rfl ?_ | refine Ent.pick 9 rfl ?_ | refine Ent.pick 10 rfl ?_ | refine Ent.pick 11 rfl ?_ | refine Ent.pick 12 rfl ?_ | refine Ent.pick 13 rfl ?_ | refine Ent.pick 14 rfl ?_))) ?_
    rintro k ⟨hk, hk2⟩
    by_cases h0 : k < 0
    · have e : (k + 1).toNat = 0 := by omega
      rw [e, Nat.pow_zero, Nat.one_mul]
      repeat' first
        | ((with_reducible refine Nx.is_wp ?_); first | refine Nx.wo ?_ | refine Nx.p_dec rfl rfl (fun hc => ?_) (fun hc => ?_) | refine Nx.p_bool rfl rfl (fun hc => ?_) (fun hc => ?_))
        | ((first | refine Nx.at_op rfl rfl ?_ | refine Nx.m_loud rfl rfl rfl ?_ | refine Nx.at_do rfl rfl rfl rfl ?_ | refine Nx.m_loud_do rfl rfl rfl rfl rfl ?_); first | refine Nx.opr rfl rfl ?_ | refine Nx.so ?_ | refine Nx.sb (fun bx => ?_) | refine Nx.sa (fun A2 c2 => ?_))
        | ((with_reducible refine Nx.is_at ?_); first | refine Nx.a ?_ | ((fail_if_success refine Nx.at_do rfl rfl rfl rfl ?_); first | refine Nx.at_dec_t rfl rfl rfl rfl (by first | assumption | omega) ?_ | refine Nx.at_dec_f rfl rfl rfl rfl (by first | assumption | omega) ?_ | refine Nx.at_split rfl rfl rfl rfl (fun hc => ?_) (fun hc => ?_) | refine Nx.at_splitb rfl rfl rfl rfl (fun hc => ?_) (fun hc => ?_)))
        | ((with_reducible refine Nx.is_mix ?_); first | refine Nx.m ?_ | ((fail_if_success refine Nx.m_quiet_do rfl rfl rfl rfl rfl rfl rfl ?_ ?_); (fail_if_success refine Nx.m_loud_do rfl rfl rfl rfl rfl ?_); first | refine Nx.m_dec_t rfl rfl rfl rfl (by first | assumption | omega) ?_ | refine Nx.m_dec_f rfl rfl rfl rfl (by first | assumption | omega) ?_ | refine Nx.m_split rfl rfl rfl rfl (fun hc => ?_) (fun hc => ?_) | refine Nx.m_splitb rfl rfl rfl rfl (fun hc => ?_) (fun hc => ?_)))
        | ((fail_if_success (with_reducible refine Nx.is_at ?_)); (fail_if_success (with_reducible refine Nx.is_wp ?_)); (fail_if_success (with_reducible refine Nx.is_mix ?_)); first | refine Nx.ex ?_)
      refine Nx.ret_fn rfl [] ⟨((a / b : Nat) : Int), ?_, rfl, fun _ => rfl, Int.natCast_nonneg _, by generalize a / b = Q at hq62; omega⟩ (by (first | done | (repeat first | exact Ent.refl _ | exact Ent.nil _ | refine Ent.pick 0 rfl ?_ | refine Ent.pick 1 rfl ?_ | refine Ent.pick 2 rfl ?_ | refine Ent.pick 3 rfl ?_ | refine Ent.pick 4 rfl ?_ | refine Ent.pick 5 rfl ?_ | refine Ent.pick 6 rfl ?_ | refine Ent.pick 7 rfl ?_ | refine Ent.pick 8 rfl ?_ | refine Ent.pick 9 rfl ?_ | refine Ent.pick 10 rfl ?_ | refine Ent.pick 11 rfl ?_ | refine Ent.pick 12 rfl ?_ | refine Ent.pick 13 rfl ?_ | refine Ent.pick 14 rfl ?_)))
      rw [show decide (((a / b : Nat) : Int) ≤ 1152921504606846976) = decide (a / b ≤ 1152921504606846976) from decide_eq_decide.2 (by omega)]
    · obtain ⟨j, rfl⟩ : ∃ j : Nat, k = (j : Int) := ⟨k.toNat, by omega⟩
      rw [show ((j : Int) + 1).toNat = j + 1 by omega]
      have hBj : b * 2 ^ j < 2 ^ 127 := by
        have h1 : b * 2 ^ j < 2 ^ lenN b * 2 ^ j := Nat.mul_lt_mul_of_pos_right b1 (Nat.two_pow_pos j)
        rw [← Nat.pow_add] at h1
        exact Nat.lt_of_lt_of_le h1 (Nat.pow_le_pow_right (by decide) (by omega))
      have e2 : 2 ^ (j + 1) * b = 2 * (b * 2 ^ j) := by rw [Nat.pow_succ, Nat.mul_comm b, ← Nat.mul_assoc, Nat.mul_comm 2]
      have hB0 : 0 < b * 2 ^ j := Nat.mul_pos hb0 (Nat.two_pow_pos j)
      obtain ⟨s1, s2⟩ := half_step (a := a) hB0
      have hqa : a / (2 ^ (j + 1) * b) ≤ a / b := Nat.div_le_div_left (Nat.le_mul_of_pos_left b (Nat.two_pow_pos _)) hb0
      have hq2 : 2 * (a / (2 ^ (j + 1) * b)) ≤ a / b := by
        have : a / (2 ^ (j + 1) * b) ≤ a / b / 2 := by
          rw [Nat.div_div_eq_div_mul]
          refine Nat.div_le_div_left ?_ (by omega)
          rw [Nat.pow_succ, Nat.mul_comm b]
          exact Nat.mul_le_mul_right _ (Nat.le_mul_of_pos_left 2 (Nat.two_pow_pos j))
        omega
      have hra : a % (2 ^ (j + 1) * b) ≤ a := Nat.mod_le _ _
      rw [← e2] at s1 s2
      have hnext : (2 : Nat) ^ ((j : Int) - 1 + 1).toNat * b = b * 2 ^ j := by rw [show ((j : Int) - 1 + 1).toNat = j by omega, Nat.mul_comm]
      have hw : InW (((a % (2 ^ (j + 1) * b) : Nat) : Int) - ((b * 2 ^ j : Nat) : Int)) := by unfold InW; unfold H127 at ha; omega
      generalize a / (2 ^ (j + 1) * b) = q at *
      generalize a % (2 ^ (j + 1) * b) = r at *
      repeat' first
        | ((with_reducible refine Nx.is_wp ?_); first | refine Nx.wo ?_ | refine Nx.p_drawF (id := 1) rfl [0, 2, 1] [1] [3, 4, 5] _ rfl rfl (by kernel_rfl) (by kernel_rfl) rfl (by repeat first | exact PanicOk.fn | refine PanicOk.then_ ?_ | refine PanicOk.inB ?_) (Ent.refl _) ?_ | refine Nx.p_poolF (id := 9) rfl [0, 1, 2, 3, 4] [3, 4] [6] [⟨5, 9, 47, _⟩] rfl rfl (by kernel_rfl) (by kernel_rfl) (by decide) (PoolFit.cons ⟨⟨_, _, _, rfl⟩, rfl, rfl⟩ PoolFit.nil) (by repeat first | exact PanicOk.fn | refine PanicOk.then_ ?_ | refine PanicOk.inB ?_) (Ent.refl _) ?_ | refine Nx.p_dec rfl rfl (fun hc => ?_) (fun hc => ?_) | refine Nx.p_bool rfl rfl (fun hc => ?_) (fun hc => ?_))
        | ((first | refine Nx.at_op rfl rfl ?_ | refine Nx.m_loud rfl rfl rfl ?_ | refine Nx.at_do rfl rfl rfl rfl ?_ | refine Nx.m_loud_do rfl rfl rfl rfl rfl ?_ | refine GoodF.loud_ rfl rfl rfl rfl (fun ex X => ?_)); first | refine Nx.opr rfl rfl ?_ | refine Nx.callv rfl rfl rfl (by kernel_rfl) rfl (left_spec b j (by omega) (by unfold W128; omega) I) ?_ | refine Nx.callv rfl rfl rfl (by kernel_rfl) rfl (minus_spec _ _ I) ?_ | refine Nx.callv rfl rfl rfl (by kernel_rfl) rfl (sign_spec _ hw I) ?_ | refine Nx.so ?_ | refine Nx.sb (fun bx => ?_) | refine Nx.sa (fun A2 c2 => ?_))
        | ((with_reducible refine Nx.is_at ?_); first | refine Nx.a ?_ | ((fail_if_success refine Nx.at_do rfl rfl rfl rfl ?_); first | refine Nx.at_dec_t rfl rfl rfl rfl (by first | assumption | omega) ?_ | refine Nx.at_dec_f rfl rfl rfl rfl (by first | assumption | omega) ?_ | refine Nx.at_split rfl rfl rfl rfl (fun hc => ?_) (fun hc => ?_) | refine Nx.at_splitb rfl rfl rfl rfl (fun hc => ?_) (fun hc => ?_)))
        | ((with_reducible refine Nx.is_mix ?_); first | refine Nx.m ?_ | ((fail_if_success refine Nx.m_quiet_do rfl rfl rfl rfl rfl rfl rfl ?_ ?_); (fail_if_success refine Nx.m_loud_do rfl rfl rfl rfl rfl ?_); first | refine Nx.m_dec_t rfl rfl rfl rfl (by first | assumption | omega) ?_ | refine Nx.m_dec_f rfl rfl rfl rfl (by first | assumption | omega) ?_ | refine Nx.m_split rfl rfl rfl rfl (fun hc => ?_) (fun hc => ?_) | refine Nx.m_splitb rfl rfl rfl rfl (fun hc => ?_) (fun hc => ?_)))
        | ((with_reducible refine GoodF.is ?_); first | refine GoodF.quiet rfl rfl rfl rfl rfl rfl (by first | exact QRun.opr rfl |  exact QRun.std) ?_ | refine GoodF.done1 rfl (fun bx => ?_) | refine GoodF.done2 rfl (fun bx by_ => ?_) | refine GoodF.done3 rfl (fun bx by_ bz => ?_))
        | ((fail_if_success (with_reducible refine Nx.is_at ?_)); (fail_if_success (with_reducible refine Nx.is_wp ?_)); (fail_if_success (with_reducible refine Nx.is_mix ?_)); first | refine Nx.ex ?_ | refine Nx.pool_nextF 0 rfl (by first | done | (repeat first | exact Ent.refl _ | exact Ent.nil _ | refine Ent.pick 0 rfl ?_ | refine Ent.pick 1 rfl ?_ | refine Ent.pick 2 rfl ?_ | refine Ent.pick 3 rfl ?_ | refine Ent.pick 4 rfl ?_ | refine Ent.pick 5 rfl ?_ | refine Ent.pick 6 rfl ?_ | refine Ent.pick 7 rfl ?_ | refine Ent.pick 8 rfl ?_ | refine Ent.pick 9 rfl ?_ | refine Ent.pick 10 rfl ?_ | refine Ent.pick 11 rfl ?_ | refine Ent.pick 12 rfl ?_ | refine Ent.pick 13 rfl ?_ | refine Ent.pick 14 rfl ?_)) ?_ | refine Nx.pool_nextF 1 rfl (by first | done | (repeat first | exact Ent.refl _ | exact Ent.nil _ | refine Ent.pick 0 rfl ?_ | refine Ent.pick 1 rfl ?_ | refine Ent.pick 2 rfl ?_ | refine Ent.pick 3 rfl ?_ | refine Ent.pick 4 rfl ?_ | refine Ent.pick 5 rfl ?_ | refine Ent.pick 6 rfl ?_ | refine Ent.pick 7 rfl ?_ | refine Ent.pick 8 rfl ?_ | refine Ent.pick 9 rfl ?_ | refine Ent.pick 10 rfl ?_ | refine Ent.pick 11 rfl ?_ | refine Ent.pick 12 rfl ?_ | refine Ent.pick 13 rfl ?_ | refine Ent.pick 14 rfl ?_)) ?_ | refine Nx.pool_nextF 2 rfl (by first | done | (repeat first | exact Ent.refl _ | exact Ent.nil _ | refine Ent.pick 0 rfl ?_ | refine Ent.pick 1 rfl ?_ | refine Ent.pick 2 rfl ?_ | refine Ent.pick 3 rfl ?_ | refine Ent.pick 4 rfl ?_ | refine Ent.pick 5 rfl ?_ | refine Ent.pick 6 rfl ?_ | refine Ent.pick 7 rfl ?_ | refine Ent.pick 8 rfl ?_ | refine Ent.pick 9 rfl ?_ | refine Ent.pick 10 rfl ?_ | refine Ent.pick 11 rfl ?_ | refine Ent.pick 12 rfl ?_ | refine Ent.pick 13 rfl ?_ | refine Ent.pick 14 rfl ?_)) ?_ | refine Nx.pool_nextF 3 rfl (by first | done | (repeat first | exact Ent.refl _ | exact Ent.nil _ | refine Ent.pick 0 rfl ?_ | refine Ent.pick 1 rfl ?_ | refine Ent.pick 2 rfl ?_ | refine Ent.pick 3 rfl ?_ | refine Ent.pick 4 rfl ?_ | refine Ent.pick 5 rfl ?_ | refine Ent.pick 6 rfl ?_ | refine Ent.pick 7 rfl ?_ | refine Ent.pick 8 rfl ?_ | refine Ent.pick 9 rfl ?_ | refine Ent.pick 10 rfl ?_ | refine Ent.pick 11 rfl ?_ | refine Ent.pick 12 rfl ?_ | refine Ent.pick 13 rfl ?_ | refine Ent.pick 14 rfl ?_)) ?_)
      · have hge : ¬ r < b * 2 ^ j := by
          have := Int.sign_nonneg_iff.1 hc
          omega
        obtain ⟨k1, k2⟩ := s2 hge
        refine Nx.again ((j : Int) - 1) ⟨by omega, by omega⟩ (by omega) ⟨rfl, ?_, rfl, rfl, trivial⟩ ?_
        · rw [hnext, k2, show ((2 * q + 1 : Nat) : Int) = (q : Int) * 2 + 1 by omega]; rfl
        · rw [hnext, k1, show ((r - b * 2 ^ j : Nat) : Int) = (r : Int) - ((b * 2 ^ j : Nat) : Int) by omega]
          exact Ent.pickE 0 rfl rfl (by (first | done | (repeat first | exact Ent.refl _ | exact Ent.nil _ | refine Ent.pick 0 rfl ?_ | refine Ent.pick 1 rfl ?_ | refine Ent.pick 2 rfl ?_ | refine Ent.pick 3 rfl ?_ | refine Ent.pick 4 rfl ?_ | refine Ent.pick 5 rfl ?_ | refine Ent.pick 6 rfl ?_ | refine Ent.pick 7 rfl ?_ | refine Ent.pick 8 rfl ?_ | refine Ent.pick 9 rfl ?_ | refine Ent.pick 10 rfl ?_ | refine Ent.pick 11 rfl ?_ | refine Ent.pick 12 rfl ?_ | refine Ent.pick 13 rfl ?_ | refine Ent.pick 14 rfl ?_)))
      · have hlt : r < b * 2 ^ j := by
          have : ¬ 0 ≤ (r : Int) - ((b * 2 ^ j : Nat) : Int) := fun h => hc (Int.sign_nonneg_iff.2 h)
          omega
        obtain ⟨k1, k2⟩ := s1 hlt
        refine Nx.again ((j : Int) - 1) ⟨by omega, by omega⟩ (by omega) ⟨rfl, ?_, rfl, rfl, trivial⟩ ?_
        · rw [hnext, k2, show ((2 * q : Nat) : Int) = (q : Int) * 2 by omega]; rfl
        · rw [hnext, k1]
          (first | done | (repeat first | exact Ent.refl _ | exact Ent.nil _ | refine Ent.pick 0 rfl ?_ | refine Ent.pick 1 rfl ?_ | refine Ent.pick 2 rfl ?_ | refine Ent.pick 3 rfl ?_ | refine Ent.pick 4 rfl ?_ | refine Ent.pick 5 rfl ?_ | refine Ent.pick 6 rfl ?_ | refine Ent.pick 7 rfl ?_ | refine Ent.pick 8 rfl ?_ | refine Ent.pick 9 rfl ?_ | refine Ent.pick 10 rfl ?_ | refine Ent.pick 11 rfl ?_ | refine Ent.pick 12 rfl ?_ | refine Ent.pick 13 rfl ?_ | refine Ent.pick 14 rfl ?_))
end Go.Proofs.YtlhnhjconifacaaDoor
