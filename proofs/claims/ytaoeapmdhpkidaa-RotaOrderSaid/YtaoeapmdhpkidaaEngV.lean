/-
  The proof engine, part V: whole numbers of 128 bits as two of 64, counted modulo 2^128.
-/
import Derived.Test.YtaoeapmdhpkidaaEngU
namespace Go.Eng
/-- 2^128 -/
abbrev B128 : Int := 340282366920938463463374607431768211456
def wH (z : Int) : Nat := ((z % B128) / B64).toNat
def wL (z : Int) : Nat := (z % B64).toNat
def wideL (z : Int) : List Value := [.int .u64 (wH z), .int .u64 (wL z)]
theorem wH_lt (z : Int) : wH z < 18446744073709551616 := by unfold wH B128 B64; omega
theorem wL_lt (z : Int) : wL z < 18446744073709551616 := by unfold wL B64; omega
theorem wide_val (z : Int) : (wH z : Int) * B64 + wL z = z % B128 := by unfold wH wL B64 B128; omega
/-- A pair that is z modulo 2^128 is z's pair. -/
theorem wide_eq {h l : Nat} {z : Int} (hh : h < 18446744073709551616) (hl : l < 18446744073709551616) (he : ((h : Int) * B64 + l) % B128 = z % B128) : wH z = h ∧ wL z = l := by
  unfold wH wL B64 B128 at *
  omega
theorem wide_congr {a b : Int} (h : a % B128 = b % B128) : wideL a = wideL b := by
  have h1 := wide_val b
  have := wide_eq (wH_lt b) (wL_lt b) (z := a) (by rw [h1, Int.emod_emod_of_dvd _ (Int.dvd_refl _), h])
  unfold wideL
  rw [this.1, this.2]
theorem wide_add (a b : Int) : wL (a + b) = (wL a + wL b) % 18446744073709551616 ∧ wH (a + b) = (wH a + wH b + (wL a + wL b) / 18446744073709551616) % 18446744073709551616 := by
  have h1 := wide_val a
  have h2 := wide_val b
  have la := wL_lt a; have lb := wL_lt b; have ha := wH_lt a; have hb := wH_lt b
  have := wide_eq (z := a + b) (h := (wH a + wH b + (wL a + wL b) / 18446744073709551616) % 18446744073709551616) (l := (wL a + wL b) % 18446744073709551616) (Nat.mod_lt _ (by decide)) (Nat.mod_lt _ (by decide)) (by
    rw [Int.add_emod a b, ← h1, ← h2]
    unfold B64 B128
    omega)
  exact ⟨this.2, this.1⟩
theorem sub_core {ha hb la lb : Nat} (h1 : ha < 18446744073709551616) (h2 : hb < 18446744073709551616) (h3 : la < 18446744073709551616) (h4 : lb < 18446744073709551616) :
    ((((ha + 18446744073709551616 - hb - (if la < lb + 0 then 1 else 0)) % 18446744073709551616 : Nat) : Int) * B64 + ((la + 18446744073709551616 - lb - 0) % 18446744073709551616 : Nat)) % B128 = ((ha : Int) * B64 + la - ((hb : Int) * B64 + lb)) % B128 := by
  have key : ∀ (x y k : Int), x = y + B128 * k → x % B128 = y % B128 := fun x y k h => by rw [h, Int.add_mul_emod_self_left]
  have nm : ∀ x : Nat, x < 18446744073709551616 → (x + 18446744073709551616) % 18446744073709551616 = x := fun x h => by rw [Nat.add_mod_right, Nat.mod_eq_of_lt h]
  by_cases hl : la < lb
  · rw [if_pos (by omega : la < lb + 0), show (la + 18446744073709551616 - lb - 0) % 18446744073709551616 = la + 18446744073709551616 - lb from Nat.mod_eq_of_lt (by omega)]
    by_cases hh : ha < hb + 1
    · rw [show (ha + 18446744073709551616 - hb - 1) % 18446744073709551616 = ha + 18446744073709551616 - hb - 1 from Nat.mod_eq_of_lt (by omega)]
      exact key _ _ 1 (by unfold B64 B128; omega)
    · rw [show ha + 18446744073709551616 - hb - 1 = (ha - hb - 1) + 18446744073709551616 by omega, nm _ (by omega)]
      exact key _ _ 0 (by unfold B64 B128; omega)
  · rw [if_neg (by omega : ¬ la < lb + 0), show la + 18446744073709551616 - lb - 0 = (la - lb) + 18446744073709551616 by omega, nm _ (by omega)]
    by_cases hh : ha < hb
    · rw [show (ha + 18446744073709551616 - hb - 0) % 18446744073709551616 = ha + 18446744073709551616 - hb from Nat.mod_eq_of_lt (by omega)]
      exact key _ _ 1 (by unfold B64 B128; omega)
    · rw [show ha + 18446744073709551616 - hb - 0 = (ha - hb) + 18446744073709551616 by omega, nm _ (by omega)]
      exact key _ _ 0 (by unfold B64 B128; omega)
theorem wide_sub (a b : Int) : wL (a - b) = (wL a + 18446744073709551616 - wL b - 0) % 18446744073709551616 ∧ wH (a - b) = (wH a + 18446744073709551616 - wH b - (if wL a < wL b + 0 then 1 else 0)) % 18446744073709551616 := by
  have := wide_eq (z := a - b) (h := (wH a + 18446744073709551616 - wH b - (if wL a < wL b + 0 then 1 else 0)) % 18446744073709551616) (l := (wL a + 18446744073709551616 - wL b - 0) % 18446744073709551616) (Nat.mod_lt _ (by decide)) (Nat.mod_lt _ (by decide)) (by
    rw [Int.sub_emod a b, ← wide_val a, ← wide_val b]
    exact sub_core (wH_lt a) (wH_lt b) (wL_lt a) (wL_lt b))
  exact ⟨this.2, this.1⟩
theorem wide_not (a : Int) : wH (-a - 1) = 18446744073709551615 - wH a ∧ wL (-a - 1) = 18446744073709551615 - wL a := by
  have h1 := wide_val a
  have la := wL_lt a; have ha := wH_lt a
  exact wide_eq (by omega) (by omega) (by
    unfold B64 B128 at *
    omega)
theorem wide_mul (a b : Int) : wL (a * b) = (wL a * wL b) % 18446744073709551616 ∧ wH (a * b) = (wL a * wL b / 18446744073709551616 + wH a * wL b + wL a * wH b) % 18446744073709551616 := by
  have h1 := wide_val a
  have h2 := wide_val b
  have := wide_eq (z := a * b) (h := (wL a * wL b / 18446744073709551616 + wH a * wL b + wL a * wH b) % 18446744073709551616) (l := (wL a * wL b) % 18446744073709551616) (Nat.mod_lt _ (by decide)) (Nat.mod_lt _ (by decide)) (by
    rw [Int.mul_emod a b, ← h1, ← h2]
    have e : ((wH a : Int) * B64 + wL a) * ((wH b : Int) * B64 + wL b) = B128 * (wH a * wH b) + ((wH a * wL b : Nat) + (wL a * wH b : Nat)) * B64 + (wL a * wL b : Nat) := by
      unfold B64 B128
      push_cast
      grind
    rw [e]
    generalize wH a * wL b = p
    generalize wL a * wH b = q
    generalize wL a * wL b = r
    generalize (wH a : Int) * wH b = s
    unfold B64 B128
    omega)
  exact ⟨this.2, this.1⟩
/-- In this range the number itself can be told. -/
def InW (z : Int) : Prop := -170141183460469231731687303715884105728 ≤ z ∧ z < 170141183460469231731687303715884105728
theorem wide_neg {z : Int} (h : InW z) : wH z / 9223372036854775808 = 1 ↔ z < 0 := by unfold InW wH B128 B64 at *; omega
theorem wide_zero {z : Int} (h : InW z) : (wH z = 0 ∧ wL z = 0) ↔ z = 0 := by unfold InW wH wL B128 B64 at *; omega
theorem wide_inj {a b : Int} (ha : InW a) (hb : InW b) (h : wH a = wH b) (hl : wL a = wL b) : a = b := by unfold InW wH wL B128 B64 at *; omega
end Go.Eng
