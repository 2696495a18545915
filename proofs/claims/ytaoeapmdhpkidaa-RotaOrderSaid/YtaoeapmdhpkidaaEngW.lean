/-
  The proof engine, part W: wide numbers: shifts, lengths, zeros; greatest common divisors.
-/
import Derived.Test.YtaoeapmdhpkidaaEngV
import Derived.Lib.ItoaNum
import Derived.Lib.TrailingZeros
namespace Go.Eng
section
variable {P : Program} {t : TypeId} {x y : Operand} {p q : Int}
theorem run_shlN {k : IntKind} (n : Nat) (hq : q = (n : Int)) (hn : n ≤ 64) : pureRun P (do eqGuard .shl t x y (.int .u64 p) (.int k q); binOp .shl t (.int .u64 p) (.int k q)) = some (.int .u64 ((p * 2 ^ n) % B64)) := by
  subst hq; exact run_shlU hn
theorem run_shrN {k : IntKind} (n : Nat) (hq : q = (n : Int)) (hn : n ≤ 64) : pureRun P (do eqGuard .shr t x y (.int .u64 p) (.int k q); binOp .shr t (.int .u64 p) (.int k q)) = some (.int .u64 (p / 2 ^ n)) := by
  subst hq; exact run_shrU hn
/-- The same with the small one first. -/
theorem run_orE {p q : Int} (n m k : Nat) (hp : p = (k : Int)) (hq : q = ((2 ^ n * m : Nat) : Int)) (hm : 2 ^ n * m < 18446744073709551616) (hk : k < 2 ^ n) (hk2 : k < 18446744073709551616) :
    pureRun P (do eqGuard .or t x y (.int .u64 p) (.int .u64 q); binOp .or t (.int .u64 p) (.int .u64 q)) = some (.int .u64 (p + q)) := by
  subst hp
  subst hq
  rw [run_orU hk2 hm, Nat.or_comm, ← Nat.two_pow_add_eq_or_of_lt hk m, Nat.add_comm]
  rfl
end
section
variable {P : Program} {t : TypeId} {x y : Operand} {p q : Int}
theorem run_and1 (n : Nat) (hp : p = (n : Int)) (hn : n < 18446744073709551616) : pureRun P (do eqGuard .and t x y (.int .u64 p) (.int .u64 1); binOp .and t (.int .u64 p) (.int .u64 1)) = some (.int .u64 ((n % 2 : Nat) : Int)) := by
  subst hp
  have := run_andU (P := P) (t := t) (x := x) (y := y) (a := n) (b := 1) hn (by decide)
  rw [Nat.and_one_is_mod] at this
  exact this
end
theorem wL_nat (a : Nat) : wL (a : Int) = a % 18446744073709551616 := by unfold wL B64; omega
theorem wH_nat {a : Nat} (h : a < 340282366920938463463374607431768211456) : wH (a : Int) = a / 18446744073709551616 := by unfold wH B128 B64; omega
theorem pow_split {n : Nat} (hn : n ≤ 64) : 2 ^ (64 - n) * 2 ^ n = 18446744073709551616 := by
  rw [← Nat.pow_add, show 64 - n + n = 64 by omega]
theorem mul_lt_pow {a n : Nat} (h : a * 2 ^ n < 340282366920938463463374607431768211456) : a < 340282366920938463463374607431768211456 :=
  Nat.lt_of_le_of_lt (Nat.le_mul_of_pos_right a (Nat.two_pow_pos n)) h
/-- a times 2^n, n up to 64 -/
theorem left_nat {a n : Nat} (hn : n ≤ 64) (h : a * 2 ^ n < 340282366920938463463374607431768211456) :
    a * 2 ^ n / 18446744073709551616 = a / 18446744073709551616 * 2 ^ n + a % 18446744073709551616 / 2 ^ (64 - n) ∧ a / 18446744073709551616 * 2 ^ n + a % 18446744073709551616 / 2 ^ (64 - n) < 18446744073709551616
      ∧ a % 18446744073709551616 / 2 ^ (64 - n) < 2 ^ n ∧ a * 2 ^ n % 18446744073709551616 = a % 18446744073709551616 * 2 ^ n % 18446744073709551616 := by
  have e := pow_split hn
  have h1 : a % 18446744073709551616 / 2 ^ (64 - n) = (a % 18446744073709551616) * 2 ^ n / 18446744073709551616 := by
    rw [← e, Nat.mul_div_mul_right _ _ (Nat.two_pow_pos n)]
  have h2 : a * 2 ^ n = (a / 18446744073709551616 * 2 ^ n) * 18446744073709551616 + a % 18446744073709551616 * 2 ^ n := by
    conv => lhs; rw [← Nat.div_add_mod a 18446744073709551616]
    rw [Nat.add_mul, Nat.mul_assoc, Nat.mul_comm 18446744073709551616]
  have h3 : a % 18446744073709551616 / 2 ^ (64 - n) < 2 ^ n := by
    rw [Nat.div_lt_iff_lt_mul (Nat.two_pow_pos _), Nat.mul_comm, e]
    exact Nat.mod_lt _ (by decide)
  refine ⟨?_, ?_, h3, ?_⟩
  · rw [h1, h2]; omega
  · rw [h1]; omega
  · rw [h2]; omega
/-- a divided by 2^n, n up to 64 -/
theorem right_nat {a n : Nat} (hn : n ≤ 64) (h : a < 340282366920938463463374607431768211456) :
    a / 2 ^ n / 18446744073709551616 = a / 18446744073709551616 / 2 ^ n ∧ a % 18446744073709551616 / 2 ^ n < 2 ^ (64 - n)
      ∧ a / 18446744073709551616 * 2 ^ (64 - n) % 18446744073709551616 = 2 ^ (64 - n) * (a / 18446744073709551616 % 2 ^ n)
      ∧ a / 2 ^ n % 18446744073709551616 = a % 18446744073709551616 / 2 ^ n + 2 ^ (64 - n) * (a / 18446744073709551616 % 2 ^ n) := by
  have e := pow_split hn
  have hp := Nat.two_pow_pos n
  have h3 : a % 18446744073709551616 / 2 ^ n < 2 ^ (64 - n) := by
    rw [Nat.div_lt_iff_lt_mul hp, e]
    exact Nat.mod_lt _ (by decide)
  have h4 : a / 18446744073709551616 * 2 ^ (64 - n) % 18446744073709551616 = 2 ^ (64 - n) * (a / 18446744073709551616 % 2 ^ n) := by
    have k : ∀ x p q m : Nat, p * q = m → x * p % m = p * (x % q) := fun x p q m hm => by rw [← hm, Nat.mul_comm x p, Nat.mul_mod_mul_left]
    exact k _ _ _ _ e
  refine ⟨by rw [Nat.div_div_eq_div_mul, Nat.div_div_eq_div_mul, Nat.mul_comm], h3, h4, ?_⟩
  have h5 : a / 2 ^ n = a / 18446744073709551616 * 2 ^ (64 - n) + a % 18446744073709551616 / 2 ^ n := by
    conv => lhs; rw [← Nat.div_add_mod a 18446744073709551616]
    rw [← e, Nat.mul_right_comm, Nat.mul_comm _ (2 ^ n), Nat.mul_add_div hp, Nat.mul_comm (2 ^ (64 - n)) (a / _)]
  have h6 : a % 18446744073709551616 / 2 ^ n + 2 ^ (64 - n) * (a / 18446744073709551616 % 2 ^ n) < 18446744073709551616 := by
    have : a / 18446744073709551616 % 2 ^ n < 2 ^ n := Nat.mod_lt _ hp
    have h7 : 2 ^ (64 - n) * (a / 18446744073709551616 % 2 ^ n + 1) ≤ 2 ^ (64 - n) * 2 ^ n := Nat.mul_le_mul_left _ this
    rw [e, Nat.mul_add] at h7
    omega
  have h8 : a / 18446744073709551616 * 2 ^ (64 - n) = 18446744073709551616 * (a / 18446744073709551616 * 2 ^ (64 - n) / 18446744073709551616) + 2 ^ (64 - n) * (a / 18446744073709551616 % 2 ^ n) := by
    rw [← h4]; exact (Nat.div_add_mod _ _).symm
  rw [h5]
  generalize a / 18446744073709551616 * 2 ^ (64 - n) = X at *
  generalize 2 ^ (64 - n) * (a / 18446744073709551616 % 2 ^ n) = Y at *
  generalize a % 18446744073709551616 / 2 ^ n = Z at *
  clear h5 h4 h3 e hp
  omega
/-! One bit -/
def bitN (a i : Nat) : Nat := a / 2 ^ i % 2
theorem bit_high {a i : Nat} (h1 : 64 ≤ i) (h2 : i < 128) : a / 18446744073709551616 / 2 ^ (i % 64) % 2 = bitN a i := by
  unfold bitN
  rw [Nat.div_div_eq_div_mul, show (18446744073709551616 : Nat) = 2 ^ 64 from rfl, ← Nat.pow_add, show 64 + i % 64 = i by omega]
theorem bit_low {a i : Nat} (h1 : i < 64) : a % 18446744073709551616 / 2 ^ i % 2 = bitN a i := by
  have h := Nat.testBit_mod_two_pow a 64 i
  rw [Nat.testBit_eq_decide_div_mod_eq, Nat.testBit_eq_decide_div_mod_eq, decide_eq_true h1, Bool.true_and, show (2 : Nat) ^ 64 = 18446744073709551616 from rfl, decide_eq_decide] at h
  unfold bitN
  omega
/-- One step of a long division. -/
theorem div_step {a b i : Nat} (hb : 0 < b) : (2 * (a / 2 ^ (i + 1) % b) + bitN a i < b → a / 2 ^ i % b = 2 * (a / 2 ^ (i + 1) % b) + bitN a i ∧ a / 2 ^ i / b = 2 * (a / 2 ^ (i + 1) / b)) ∧
    (¬ 2 * (a / 2 ^ (i + 1) % b) + bitN a i < b → a / 2 ^ i % b = 2 * (a / 2 ^ (i + 1) % b) + bitN a i - b ∧ a / 2 ^ i / b = 2 * (a / 2 ^ (i + 1) / b) + 1) := by
  have e : a / 2 ^ (i + 1) = a / 2 ^ i / 2 := by rw [Nat.pow_succ, Nat.div_div_eq_div_mul]
  unfold bitN
  rw [e]
  generalize a / 2 ^ i = A
  have h1 := Nat.div_add_mod (A / 2) b
  have h2 : A / 2 % b < b := Nat.mod_lt _ hb
  generalize A / 2 % b = r at *
  generalize A / 2 / b = q at *
  have h3 : A = b * (2 * q) + (2 * r + A % 2) := by
    rw [Nat.mul_left_comm]
    omega
  constructor
  · intro hlt
    constructor
    · conv => lhs; rw [h3]
      rw [Nat.mul_add_mod, Nat.mod_eq_of_lt hlt]
    · conv => lhs; rw [h3]
      rw [Nat.mul_add_div hb, Nat.div_eq_of_lt hlt, Nat.add_zero]
  · intro hge
    have h4 : A = b * (2 * q + 1) + (2 * r + A % 2 - b) := by
      rw [Nat.mul_add]
      omega
    have hlt : 2 * r + A % 2 - b < b := by omega
    constructor
    · conv => lhs; rw [h4]
      rw [Nat.mul_add_mod, Nat.mod_eq_of_lt hlt]
    · conv => lhs; rw [h4]
      rw [Nat.mul_add_div hb, Nat.div_eq_of_lt hlt, Nat.add_zero]
/-! Number of bits -/
def lenN (a : Nat) : Nat := if a < 18446744073709551616 then Lib.bitLen a else 64 + Lib.bitLen (a / 18446744073709551616)
theorem bitLen_two {x : Nat} (h : x < 18446744073709551616) : x < 2 ^ Lib.bitLen x ∧ (x ≠ 0 → 1 ≤ Lib.bitLen x ∧ 2 ^ (Lib.bitLen x - 1) ≤ x) := by
  by_cases h0 : x = 0
  · subst h0; decide
  · obtain ⟨a, b, c⟩ := Lib.bitLenAux_bounds 64 x h h0
    exact ⟨c, fun _ => ⟨a, b⟩⟩
theorem lenN_spec {a : Nat} (h : a < 340282366920938463463374607431768211456) : a < 2 ^ lenN a ∧ (a ≠ 0 → 1 ≤ lenN a ∧ 2 ^ (lenN a - 1) ≤ a) ∧ lenN a ≤ 128 := by
  unfold lenN
  split
  · rename_i hl
    obtain ⟨b1, b2⟩ := bitLen_two hl
    exact ⟨b1, b2, Nat.le_trans (Lib.bitLen_le a 64 (Nat.le_refl _) hl) (by decide)⟩
  · rename_i hl
    have hq : a / 18446744073709551616 < 18446744073709551616 := by omega
    obtain ⟨b1, b2⟩ := bitLen_two hq
    obtain ⟨b3, b4⟩ := b2 (by omega)
    have hle := Lib.bitLen_le (a / 18446744073709551616) 64 (Nat.le_refl _) hq
    generalize Lib.bitLen (a / 18446744073709551616) = L at *
    refine ⟨?_, fun _ => ⟨by omega, ?_⟩, by omega⟩
    · rw [Nat.pow_add, show (2 : Nat) ^ 64 = 18446744073709551616 from rfl]; omega
    · rw [show 64 + L - 1 = 64 + (L - 1) by omega, Nat.pow_add, show (2 : Nat) ^ 64 = 18446744073709551616 from rfl]; omega
/-! How often 2 divides -/
def zerN (a : Nat) : Nat := if a % 18446744073709551616 = 0 then 64 + Lib.ctz 64 (a / 18446744073709551616) else Lib.ctz 64 (a % 18446744073709551616)
theorem ctz_two {x : Nat} (h0 : x ≠ 0) (h : x < 18446744073709551616) : ∃ m, x = 2 ^ Lib.ctz 64 x * (2 * m + 1) ∧ Lib.ctz 64 x < 64 := by
  unfold Lib.ctz
  rw [if_neg h0]
  exact Lib.ctzFrom_spec 64 x (by omega) h
theorem zerN_spec {a : Nat} (h0 : a ≠ 0) (h : a < 340282366920938463463374607431768211456) : ∃ m, a = 2 ^ zerN a * (2 * m + 1) ∧ zerN a < 128 := by
  unfold zerN
  split
  · rename_i hl
    obtain ⟨m, hm, hz⟩ := ctz_two (x := a / 18446744073709551616) (by omega) (by omega)
    generalize Lib.ctz 64 (a / 18446744073709551616) = z at *
    refine ⟨m, ?_, by omega⟩
    rw [Nat.pow_add, Nat.mul_assoc, ← hm, show (2 : Nat) ^ 64 = 18446744073709551616 from rfl]
    omega
  · rename_i hl
    obtain ⟨m, hm, hz⟩ := ctz_two (x := a % 18446744073709551616) (by omega) (Nat.mod_lt _ (by decide))
    generalize Lib.ctz 64 (a % 18446744073709551616) = z at *
    have e := pow_split (n := z) (by omega)
    refine ⟨a / 18446744073709551616 * 2 ^ (63 - z) + m, ?_, by omega⟩
    have e2 : (2 : Nat) ^ (64 - z) = 2 * 2 ^ (63 - z) := by rw [show 64 - z = (63 - z) + 1 by omega, Nat.pow_succ, Nat.mul_comm]
    conv => lhs; rw [← Nat.div_add_mod a 18446744073709551616, hm]
    rw [← e, e2]
    grind
/-! The greatest common divisor by halving -/
theorem gcd_odd {a b z : Nat} (ha : a % 2 = 1) : Nat.gcd a (2 ^ z * b) = Nat.gcd a b := by
  have : Nat.Coprime a (2 ^ z) := by
    apply Nat.Coprime.pow_right
    have h := Nat.gcd_dvd_left a 2
    have h2 := Nat.gcd_dvd_right a 2
    have h3 : Nat.gcd a 2 = 1 ∨ Nat.gcd a 2 = 2 := by
      have := Nat.le_of_dvd (by decide) h2
      have : 0 < Nat.gcd a 2 := Nat.gcd_pos_of_pos_right _ (by decide)
      omega
    rcases h3 with h3 | h3
    · exact h3
    · rw [h3] at h; omega
  exact Nat.Coprime.gcd_mul_left_cancel_right b this.symm
theorem gcd_sub {a b : Nat} (h : a ≤ b) : Nat.gcd a (b - a) = Nat.gcd a b := by
  conv => rhs; rw [show b = (b - a) + a by omega]
  simp
/-- gcd (2^i u) (2^j v) with u, v odd -/
theorem gcd_twos {i j u v : Nat} (hu : u % 2 = 1) (hv : v % 2 = 1) : Nat.gcd (2 ^ i * u) (2 ^ j * v) = 2 ^ (min i j) * Nat.gcd u v := by
  by_cases h : i ≤ j
  · rw [Nat.min_eq_left h, show j = i + (j - i) by omega, Nat.pow_add, Nat.mul_assoc, Nat.gcd_mul_left, gcd_odd hu]
  · rw [Nat.min_eq_right (by omega), show i = j + (i - j) by omega, Nat.pow_add, Nat.mul_assoc, Nat.gcd_mul_left, Nat.gcd_comm, gcd_odd hv, Nat.gcd_comm]
end Go.Eng
