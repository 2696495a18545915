/- Contracts of functions of the given program, and lemmas. -/
import Derived.Shelf.Spec.TrailingZeros
import Derived.Lib.ItoaNum
import Derived.Lib.TrailingZeros
import Derived.Sort.Grow
import Derived.Lib.AppendIntMem
import Derived.Lib.ItoaLen
import Derived.Laws.Concat
import Derived.Laws.Strings
import Derived.Laws.StructEq
import Derived.Laws.Small
import Derived.Test.YtpcnapidlhpbkaaGreatDoorBq2
set_option maxHeartbeats 32000000
namespace Go.Proofs.YtpcnapidlhpbkaaGreatDoor
def tz64_ren : Go.Shelf.Ren := ⟨fun | 29 => 276 | n => n, fun | 22 => 102 | 3 => 3 | 4 => 4 | 25 => 161 | 54 => 291 | 0 => 0 | 5 => 5 | n => n, fun | 1 => 1 | n => n⟩
theorem tz64 : Go.Proofs.Lays7.n29 Tryz.prog tz64_ren where
  mixed := by kernel_rfl
  f29 := Tryz.func276.trans (congrArg some (by kernel_rfl))
  t0 := Tryz.underlying0
  a0 := Tryz.isAgg0
  z0 := Tryz.sizeOf0
  v0 := Tryz.zeroValue0
  i0 := by kernel_rfl
  t3 := Tryz.underlying3
  a3 := Tryz.isAgg3
  z3 := Tryz.sizeOf3
  v3 := Tryz.zeroValue3
  i3 := by kernel_rfl
  t4 := Tryz.underlying4
  a4 := Tryz.isAgg4
  z4 := Tryz.sizeOf4
  v4 := Tryz.zeroValue4
  i4 := by kernel_rfl
  t5 := Tryz.underlying5
  a5 := Tryz.isAgg5
  z5 := Tryz.sizeOf5
  v5 := Tryz.zeroValue5
  i5 := by kernel_rfl
  t22 := Tryz.underlying102
  a22 := Tryz.isAgg102
  z22 := Tryz.sizeOf102
  v22 := Tryz.zeroValue102
  i22 := by kernel_rfl
  t25 := Tryz.underlying161
  a25 := Tryz.isAgg161
  z25 := Tryz.sizeOf161
  v25 := Tryz.zeroValue161
  i25 := by kernel_rfl
  t54 := Tryz.underlying291
  a54 := Tryz.isAgg291
  z54 := Tryz.sizeOf291
  g1 := by kernel_rfl
end Go.Proofs.YtpcnapidlhpbkaaGreatDoor
namespace Go.Proofs.YtpcnapidlhpbkaaGreatDoor
open Go.Eng
def TabI (I : PH) : Prop := ∀ (W w : World) (R : List Res), St W I R w → TabAt (tz64_ren.g 1) Lib.deBruijn64tab w
theorem tz64_spec (x : Nat) (h1 : x < 18446744073709551616) (I : PH) (hT : TabI I) :
    FnSpec Tryz.prog 276 [.int .u64 x] I [] (fun v R' => v = .int .i64 (Lib.ctz 64 x : Nat) ∧ R' = []) :=
  FnSpec.of_same fun w W R hw => Any7.bits_TrailingZeros64 tz64 x h1 w fun _ => hT W w R hw
end Go.Proofs.YtpcnapidlhpbkaaGreatDoor
namespace Go.Eng
section
variable {P : Program} {t : TypeId} {x y : Operand} {p q : Int}
theorem run_shlN {k : IntKind} (n : Nat) (hq : q = (n : Int)) (hn : n ≤ 64) : pureRun P (do eqGuard .shl t x y (.int .u64 p) (.int k q); binOp .shl t (.int .u64 p) (.int k q)) = some (.int .u64 ((p * 2 ^ n) % B64)) := by
  subst hq; exact run_shlU hn
theorem run_shrN {k : IntKind} (n : Nat) (hq : q = (n : Int)) (hn : n ≤ 64) : pureRun P (do eqGuard .shr t x y (.int .u64 p) (.int k q); binOp .shr t (.int .u64 p) (.int k q)) = some (.int .u64 (p / 2 ^ n)) := by
  subst hq; exact run_shrU hn
theorem run_orE {p q : Int} (n m k : Nat) (hp : p = (k : Int)) (hq : q = ((2 ^ n * m : Nat) : Int)) (hm : 2 ^ n * m < 18446744073709551616) (hk : k < 2 ^ n) (hk2 : k < 18446744073709551616) :
    pureRun P (do eqGuard .or t x y (.int .u64 p) (.int .u64 q); binOp .or t (.int .u64 p) (.int .u64 q)) = some (.int .u64 (p + q)) := by
  subst hp
  subst hq
  rw [run_orU hk2 hm, Nat.or_comm, ← Nat.two_pow_add_eq_or_of_lt hk m, Nat.add_comm]
  rfl
end
section
variable {P : Program} {t : TypeId} {x y : Operand} {p q : Int}
theorem run_and1 (n : Nat) (hp : p = (n : Int)) (hn : n < 18446744073709551616) : pureRun P (do eqGuard .and t x y (.int .u64 p) (.int .u64 1); binOp .and t (.int .u64 p) (.int .u64 1)) = some (.int .u64 ((n % 2 : Nat) : Int)) := by
  subst hp
  have := run_andU (P := P) (t := t) (x := x) (y := y) (a := n) (b := 1) hn (by decide)
  rw [Nat.and_one_is_mod] at this
  exact this
end
theorem wL_nat (a : Nat) : wL (a : Int) = a % 18446744073709551616 := by unfold wL B64; omega
theorem wH_nat {a : Nat} (h : a < 340282366920938463463374607431768211456) : wH (a : Int) = a / 18446744073709551616 := by unfold wH B128 B64; omega
theorem pow_split {n : Nat} (hn : n ≤ 64) : 2 ^ (64 - n) * 2 ^ n = 18446744073709551616 := by
  rw [← Nat.pow_add, show 64 - n + n = 64 by omega]
theorem mul_lt_pow {a n : Nat} (h : a * 2 ^ n < 340282366920938463463374607431768211456) : a < 340282366920938463463374607431768211456 :=
  Nat.lt_of_le_of_lt (Nat.le_mul_of_pos_right a (Nat.two_pow_pos n)) h
theorem left_nat {a n : Nat} (hn : n ≤ 64) (h : a * 2 ^ n < 340282366920938463463374607431768211456) :
    a * 2 ^ n / 18446744073709551616 = a / 18446744073709551616 * 2 ^ n + a % 18446744073709551616 / 2 ^ (64 - n) ∧ a / 18446744073709551616 * 2 ^ n + a % 18446744073709551616 / 2 ^ (64 - n) < 18446744073709551616
      ∧ a % 18446744073709551616 / 2 ^ (64 - n) < 2 ^ n ∧ a * 2 ^ n % 18446744073709551616 = a % 18446744073709551616 * 2 ^ n % 18446744073709551616 := by
  have e := pow_split hn
  have h1 : a % 18446744073709551616 / 2 ^ (64 - n) = (a % 18446744073709551616) * 2 ^ n / 18446744073709551616 := by
    rw [← e, Nat.mul_div_mul_right _ _ (Nat.two_pow_pos n)]
  have h2 : a * 2 ^ n = (a / 18446744073709551616 * 2 ^ n) * 18446744073709551616 + a % 18446744073709551616 * 2 ^ n := by
    conv => lhs; rw [← Nat.div_add_mod a 18446744073709551616]
    rw [Nat.add_mul, Nat.mul_assoc, Nat.mul_comm 18446744073709551616]
  have h3 : a % 18446744073709551616 / 2 ^ (64 - n) < 2 ^ n := by
    rw [Nat.div_lt_iff_lt_mul (Nat.two_pow_pos _), Nat.mul_comm, e]
    exact Nat.mod_lt _ (by decide)
  refine ⟨?_, ?_, h3, ?_⟩
  · rw [h1, h2]; omega
  · rw [h1]; omega
  · rw [h2]; omega
theorem right_nat {a n : Nat} (hn : n ≤ 64) (_h : a < 340282366920938463463374607431768211456) :
    a / 2 ^ n / 18446744073709551616 = a / 18446744073709551616 / 2 ^ n ∧ a % 18446744073709551616 / 2 ^ n < 2 ^ (64 - n)
      ∧ a / 18446744073709551616 * 2 ^ (64 - n) % 18446744073709551616 = 2 ^ (64 - n) * (a / 18446744073709551616 % 2 ^ n)
      ∧ a / 2 ^ n % 18446744073709551616 = a % 18446744073709551616 / 2 ^ n + 2 ^ (64 - n) * (a / 18446744073709551616 % 2 ^ n) := by
  have e := pow_split hn
  have hp := Nat.two_pow_pos n
  have h3 : a % 18446744073709551616 / 2 ^ n < 2 ^ (64 - n) := by
    rw [Nat.div_lt_iff_lt_mul hp, e]
    exact Nat.mod_lt _ (by decide)
  have h4 : a / 18446744073709551616 * 2 ^ (64 - n) % 18446744073709551616 = 2 ^ (64 - n) * (a / 18446744073709551616 % 2 ^ n) := by
    have k : ∀ x p q m : Nat, p * q = m → x * p % m = p * (x % q) := fun x p q m hm => by rw [← hm, Nat.mul_comm x p, Nat.mul_mod_mul_left]
    exact k _ _ _ _ e
  refine ⟨by rw [Nat.div_div_eq_div_mul, Nat.div_div_eq_div_mul, Nat.mul_comm], h3, h4, ?_⟩
  have h5 : a / 2 ^ n = a / 18446744073709551616 * 2 ^ (64 - n) + a % 18446744073709551616 / 2 ^ n := by
    conv => lhs; rw [← Nat.div_add_mod a 18446744073709551616]
    rw [← e, Nat.mul_right_comm, Nat.mul_comm _ (2 ^ n), Nat.mul_add_div hp, Nat.mul_comm (2 ^ (64 - n)) (a / _)]
  have h6 : a % 18446744073709551616 / 2 ^ n + 2 ^ (64 - n) * (a / 18446744073709551616 % 2 ^ n) < 18446744073709551616 := by
    have : a / 18446744073709551616 % 2 ^ n < 2 ^ n := Nat.mod_lt _ hp
    have h7 : 2 ^ (64 - n) * (a / 18446744073709551616 % 2 ^ n + 1) ≤ 2 ^ (64 - n) * 2 ^ n := Nat.mul_le_mul_left _ this
    rw [e, Nat.mul_add] at h7
    omega
  have h8 : a / 18446744073709551616 * 2 ^ (64 - n) = 18446744073709551616 * (a / 18446744073709551616 * 2 ^ (64 - n) / 18446744073709551616) + 2 ^ (64 - n) * (a / 18446744073709551616 % 2 ^ n) := by
    rw [← h4]; exact (Nat.div_add_mod _ _).symm
  rw [h5]
  generalize a / 18446744073709551616 * 2 ^ (64 - n) = X at *
  generalize 2 ^ (64 - n) * (a / 18446744073709551616 % 2 ^ n) = Y at *
  generalize a % 18446744073709551616 / 2 ^ n = Z at *
  clear h5 h4 h3 e hp
  omega
def bitN (a i : Nat) : Nat := a / 2 ^ i % 2
theorem bit_high {a i : Nat} (h1 : 64 ≤ i) (h2 : i < 128) : a / 18446744073709551616 / 2 ^ (i % 64) % 2 = bitN a i := by
  unfold bitN
  rw [Nat.div_div_eq_div_mul, show (18446744073709551616 : Nat) = 2 ^ 64 from rfl, ← Nat.pow_add, show 64 + i % 64 = i by omega]
theorem bit_low {a i : Nat} (h1 : i < 64) : a % 18446744073709551616 / 2 ^ i % 2 = bitN a i := by
  have h := Nat.testBit_mod_two_pow a 64 i
  rw [Nat.testBit_eq_decide_div_mod_eq, Nat.testBit_eq_decide_div_mod_eq, decide_eq_true h1, Bool.true_and, show (2 : Nat) ^ 64 = 18446744073709551616 from rfl, decide_eq_decide] at h
  unfold bitN
  omega
theorem div_step {a b i : Nat} (hb : 0 < b) : (2 * (a / 2 ^ (i + 1) % b) + bitN a i < b → a / 2 ^ i % b = 2 * (a / 2 ^ (i + 1) % b) + bitN a i ∧ a / 2 ^ i / b = 2 * (a / 2 ^ (i + 1) / b)) ∧
    (¬ 2 * (a / 2 ^ (i + 1) % b) + bitN a i < b → a / 2 ^ i % b = 2 * (a / 2 ^ (i + 1) % b) + bitN a i - b ∧ a / 2 ^ i / b = 2 * (a / 2 ^ (i + 1) / b) + 1) := by
  have e : a / 2 ^ (i + 1) = a / 2 ^ i / 2 := by rw [Nat.pow_succ, Nat.div_div_eq_div_mul]
  unfold bitN
  rw [e]
  generalize a / 2 ^ i = A
  have h1 := Nat.div_add_mod (A / 2) b
  have h2 : A / 2 % b < b := Nat.mod_lt _ hb
  generalize A / 2 % b = r at *
  generalize A / 2 / b = q at *
  have h3 : A = b * (2 * q) + (2 * r + A % 2) := by
    rw [Nat.mul_left_comm]
    omega
  constructor
  · intro hlt
    constructor
    · conv => lhs; rw [h3]
      rw [Nat.mul_add_mod, Nat.mod_eq_of_lt hlt]
    · conv => lhs; rw [h3]
      rw [Nat.mul_add_div hb, Nat.div_eq_of_lt hlt, Nat.add_zero]
  · intro hge
    have h4 : A = b * (2 * q + 1) + (2 * r + A % 2 - b) := by
      rw [Nat.mul_add]
      omega
    have hlt : 2 * r + A % 2 - b < b := by omega
    constructor
    · conv => lhs; rw [h4]
      rw [Nat.mul_add_mod, Nat.mod_eq_of_lt hlt]
    · conv => lhs; rw [h4]
      rw [Nat.mul_add_div hb, Nat.div_eq_of_lt hlt, Nat.add_zero]
def lenN (a : Nat) : Nat := if a < 18446744073709551616 then Lib.bitLen a else 64 + Lib.bitLen (a / 18446744073709551616)
theorem bitLen_two {x : Nat} (h : x < 18446744073709551616) : x < 2 ^ Lib.bitLen x ∧ (x ≠ 0 → 1 ≤ Lib.bitLen x ∧ 2 ^ (Lib.bitLen x - 1) ≤ x) := by
  by_cases h0 : x = 0
  · subst h0; decide
  · obtain ⟨a, b, c⟩ := Lib.bitLenAux_bounds 64 x h h0
    exact ⟨c, fun _ => ⟨a, b⟩⟩
theorem lenN_spec {a : Nat} (h : a < 340282366920938463463374607431768211456) : a < 2 ^ lenN a ∧ (a ≠ 0 → 1 ≤ lenN a ∧ 2 ^ (lenN a - 1) ≤ a) ∧ lenN a ≤ 128 := by
  unfold lenN
  split
  · rename_i hl
    obtain ⟨b1, b2⟩ := bitLen_two hl
    exact ⟨b1, b2, Nat.le_trans (Lib.bitLen_le a 64 (Nat.le_refl _) hl) (by decide)⟩
  · rename_i hl
    have hq : a / 18446744073709551616 < 18446744073709551616 := by omega
    obtain ⟨b1, b2⟩ := bitLen_two hq
    obtain ⟨b3, b4⟩ := b2 (by omega)
    have hle := Lib.bitLen_le (a / 18446744073709551616) 64 (Nat.le_refl _) hq
    generalize Lib.bitLen (a / 18446744073709551616) = L at *
    refine ⟨?_, fun _ => ⟨by omega, ?_⟩, by omega⟩
    · rw [Nat.pow_add, show (2 : Nat) ^ 64 = 18446744073709551616 from rfl]; omega
    · rw [show 64 + L - 1 = 64 + (L - 1) by omega, Nat.pow_add, show (2 : Nat) ^ 64 = 18446744073709551616 from rfl]; omega
def zerN (a : Nat) : Nat := if a % 18446744073709551616 = 0 then 64 + Lib.ctz 64 (a / 18446744073709551616) else Lib.ctz 64 (a % 18446744073709551616)
theorem ctz_two {x : Nat} (h0 : x ≠ 0) (h : x < 18446744073709551616) : ∃ m, x = 2 ^ Lib.ctz 64 x * (2 * m + 1) ∧ Lib.ctz 64 x < 64 := by
  unfold Lib.ctz
  rw [if_neg h0]
  exact Lib.ctzFrom_spec 64 x (by omega) h
theorem zerN_spec {a : Nat} (h0 : a ≠ 0) (h : a < 340282366920938463463374607431768211456) : ∃ m, a = 2 ^ zerN a * (2 * m + 1) ∧ zerN a < 128 := by
  unfold zerN
  split
  · rename_i hl
    obtain ⟨m, hm, hz⟩ := ctz_two (x := a / 18446744073709551616) (by omega) (by omega)
    generalize Lib.ctz 64 (a / 18446744073709551616) = z at *
    refine ⟨m, ?_, by omega⟩
    rw [Nat.pow_add, Nat.mul_assoc, ← hm, show (2 : Nat) ^ 64 = 18446744073709551616 from rfl]
    omega
  · rename_i hl
    obtain ⟨m, hm, hz⟩ := ctz_two (x := a % 18446744073709551616) (by omega) (Nat.mod_lt _ (by decide))
    generalize Lib.ctz 64 (a % 18446744073709551616) = z at *
    have e := pow_split (n := z) (by omega)
    refine ⟨a / 18446744073709551616 * 2 ^ (63 - z) + m, ?_, by omega⟩
    have e2 : (2 : Nat) ^ (64 - z) = 2 * 2 ^ (63 - z) := by rw [show 64 - z = (63 - z) + 1 by omega, Nat.pow_succ, Nat.mul_comm]
    conv => lhs; rw [← Nat.div_add_mod a 18446744073709551616, hm]
    rw [← e, e2]
    grind
theorem gcd_odd {a b z : Nat} (ha : a % 2 = 1) : Nat.gcd a (2 ^ z * b) = Nat.gcd a b := by
  have : Nat.Coprime a (2 ^ z) := by
    apply Nat.Coprime.pow_right
    have h := Nat.gcd_dvd_left a 2
    have h2 := Nat.gcd_dvd_right a 2
    have h3 : Nat.gcd a 2 = 1 ∨ Nat.gcd a 2 = 2 := by
      have := Nat.le_of_dvd (by decide) h2
      have : 0 < Nat.gcd a 2 := Nat.gcd_pos_of_pos_right _ (by decide)
      omega
    rcases h3 with h3 | h3
    · exact h3
    · rw [h3] at h; omega
  exact Nat.Coprime.gcd_mul_left_cancel_right b this.symm
theorem gcd_sub {a b : Nat} (h : a ≤ b) : Nat.gcd a (b - a) = Nat.gcd a b := by
  conv => rhs; rw [show b = (b - a) + a by omega]
  simp
theorem gcd_twos {i j u v : Nat} (hu : u % 2 = 1) (hv : v % 2 = 1) : Nat.gcd (2 ^ i * u) (2 ^ j * v) = 2 ^ (min i j) * Nat.gcd u v := by
  by_cases h : i ≤ j
  · rw [Nat.min_eq_left h, show j = i + (j - i) by omega, Nat.pow_add, Nat.mul_assoc, Nat.gcd_mul_left, gcd_odd hu]
  · rw [Nat.min_eq_right (by omega), show i = j + (i - j) by omega, Nat.pow_add, Nat.mul_assoc, Nat.gcd_mul_left, Nat.gcd_comm, gcd_odd hv, Nat.gcd_comm]
end Go.Eng
namespace Go.Proofs.YtpcnapidlhpbkaaGreatDoor
open Go.Eng
attribute [local irreducible] opK wpList Code.wp Exit.then Exit.inBlock fnPost bodyPost Nx Calls Oper.wp Rd Rds Wr Ent Stars Blk Again Vec FnSpec wpMix QRun Stop Upto wpAt
abbrev W128 : Nat := 340282366920938463463374607431768211456
set_option maxRecDepth 10000 in
theorem length_spec (a : Nat) (ha : a < W128) (I : PH) : FnSpec Tryz.prog 247 [wideV (a : Int)] I [] (fun v R' => v = .int .i64 (lenN a : Nat) ∧ R' = []) := by
  have e1 := wH_nat ha
  have e2 := wL_nat a
  have hq : a / 18446744073709551616 < 18446744073709551616 := by unfold W128 at ha; omega
  have hl : Lib.bitLen (a / 18446744073709551616) ≤ 64 := Lib.bitLen_le _ 64 (Nat.le_refl _) hq
  refine FnSpec.enterP Tryz.func247 rfl Tryz.ntmps247 rfl fun w F => ?_
  repeat' first
    | ((with_reducible refine Nx.is_wp ?_); first | refine Nx.wo ?_ | refine Nx.zp (fun hc => ?_) (fun hc => ?_))
    | (refine Nx.zo ?_; first | refine Nx.opr rfl rfl ?_ | refine Nx.call (Rpre := []) rfl rfl rfl (by kernel_rfl) rfl (len64_spec _ (wH_lt a) I) (Ent.refl _) ?_; rintro _ _ ⟨rfl, rfl⟩ | refine Nx.call (Rpre := []) rfl rfl rfl (by kernel_rfl) rfl (len64_spec _ (wL_lt a) I) (Ent.refl _) ?_; rintro _ _ ⟨rfl, rfl⟩ | refine Nx.add rfl rfl (by rw [e1]; unfold I64; omega) rfl ?_ | refine Nx.so ?_ | refine Nx.sb (fun bx => ?_) | refine Nx.sa (fun A2 c2 => ?_))
    | refine Nx.za ?_ | refine Nx.zr (fun hc => ?_) (fun hc => ?_)
    | refine Nx.zq ?_ | refine Nx.zu (fun hc => ?_) (fun hc => ?_)
    | refine Nx.zx ?_ | fail
  · refine Nx.ret_fn rfl [] ⟨by unfold lenN; rw [if_neg (by omega), e1, Int.natCast_add]; rfl, rfl⟩ ?_
    (exact Ent.auto)
  · refine Nx.ret_fn rfl [] ⟨by unfold lenN; rw [if_pos (by omega), e2, Nat.mod_eq_of_lt (by omega)], rfl⟩ ?_
    (exact Ent.auto)
theorem ctz_le {x : Nat} (h : x < 18446744073709551616) : Lib.ctz 64 x ≤ 64 := by
  by_cases h0 : x = 0
  · subst h0; decide
  · obtain ⟨m, _, hz⟩ := ctz_two h0 h; omega
set_option maxRecDepth 10000 in
theorem zeros_spec (a : Nat) (ha : a < W128) (I : PH) (hT : TabI I) : FnSpec Tryz.prog 244 [wideV (a : Int)] I [] (fun v R' => v = .int .i64 (zerN a : Nat) ∧ R' = []) := by
  have e1 := wH_nat ha
  have e2 := wL_nat a
  have hl := ctz_le (wH_lt a)
  refine FnSpec.enterP Tryz.func244 rfl Tryz.ntmps244 rfl fun w F => ?_
  repeat' first
    | ((with_reducible refine Nx.is_wp ?_); first | refine Nx.wo ?_ | refine Nx.zp (fun hc => ?_) (fun hc => ?_))
    | (refine Nx.zo ?_; first | refine Nx.opr rfl rfl ?_ | refine Nx.call (Rpre := []) rfl rfl rfl (by kernel_rfl) rfl (tz64_spec _ (wH_lt a) I hT) (Ent.refl _) ?_; rintro _ _ ⟨rfl, rfl⟩ | refine Nx.call (Rpre := []) rfl rfl rfl (by kernel_rfl) rfl (tz64_spec _ (wL_lt a) I hT) (Ent.refl _) ?_; rintro _ _ ⟨rfl, rfl⟩ | refine Nx.add rfl rfl (by unfold I64; omega) rfl ?_ | refine Nx.so ?_ | refine Nx.sb (fun bx => ?_) | refine Nx.sa (fun A2 c2 => ?_))
    | refine Nx.za ?_ | refine Nx.zr (fun hc => ?_) (fun hc => ?_)
    | refine Nx.zq ?_ | refine Nx.zu (fun hc => ?_) (fun hc => ?_)
    | refine Nx.zx ?_ | fail
  · refine Nx.ret_fn rfl [] ⟨by unfold zerN; rw [if_pos (by omega), e1, Int.natCast_add]; rfl, rfl⟩ ?_
    (exact Ent.auto)
  · refine Nx.ret_fn rfl [] ⟨by unfold zerN; rw [if_neg (by omega), e2], rfl⟩ ?_
    (exact Ent.auto)
theorem natPow_int (n : Nat) : ((2 ^ n : Nat) : Int) = (2 : Int) ^ n := by simp
theorem left_low {a n : Nat} (hn : n ≤ 64) (h : a * 2 ^ n < W128) : (wL ((a * 2 ^ n : Nat) : Int) : Int) = (wL (a : Int) : Int) * 2 ^ n % B64 := by
  rw [wL_nat, wL_nat, (left_nat hn h).2.2.2, ← natPow_int]
  rfl
theorem left_highN {a n : Nat} (hn : n ≤ 64) (h : a * 2 ^ n < W128) : ((wH (a : Int) : Int) * 2 ^ n % B64 = ((2 ^ n * wH (a : Int) : Nat) : Int)) ∧ 2 ^ n * wH (a : Int) < 18446744073709551616 ∧ wL (a : Int) / 2 ^ (64 - n) < 2 ^ n ∧ wH ((a * 2 ^ n : Nat) : Int) = 2 ^ n * wH (a : Int) + wL (a : Int) / 2 ^ (64 - n) := by
  obtain ⟨h1, h2, h3, _⟩ := left_nat hn h
  rw [wH_nat h, h1, wH_nat (mul_lt_pow h), wL_nat, ← natPow_int, Nat.mul_comm (2 ^ n)]
  generalize a % 18446744073709551616 / 2 ^ (64 - n) = Z at *
  rw [← Int.natCast_mul]
  generalize a / 18446744073709551616 * 2 ^ n = X at *
  refine ⟨Int.emod_eq_of_lt (by omega) (by unfold B64; omega), by omega, h3, rfl⟩
section
variable {P : Program} {t : TypeId} {x y : Operand}
theorem left_or {a n : Nat} (hn : n ≤ 64) (h : a * 2 ^ n < W128) : pureRun P (do eqGuard .or t x y (.int .u64 ((wH (a : Int) : Int) * 2 ^ n % B64)) (.int .u64 ((wL (a : Int) : Int) / 2 ^ (64 - n))); binOp .or t (.int .u64 ((wH (a : Int) : Int) * 2 ^ n % B64)) (.int .u64 ((wL (a : Int) : Int) / 2 ^ (64 - n)))) = some (.int .u64 (wH ((a * 2 ^ n : Nat) : Int))) := by
  obtain ⟨h1, h2, h3, h4⟩ := left_highN hn h
  have hq : (wL (a : Int) : Int) / 2 ^ (64 - n) = ((wL (a : Int) / 2 ^ (64 - n) : Nat) : Int) := by rw [Int.natCast_ediv, natPow_int]
  rw [run_orD n (wH (a : Int)) (wL (a : Int) / 2 ^ (64 - n)) h1 hq h2 h3 (Nat.lt_of_le_of_lt (Nat.div_le_self _ _) (wL_lt a)), h1, hq, h4, Int.natCast_add]
theorem right_or {a n : Nat} (hn : n ≤ 64) (h : a < W128) : pureRun P (do eqGuard .or t x y (.int .u64 ((wL (a : Int) : Int) / 2 ^ n)) (.int .u64 ((wH (a : Int) : Int) * 2 ^ (64 - n) % B64)); binOp .or t (.int .u64 ((wL (a : Int) : Int) / 2 ^ n)) (.int .u64 ((wH (a : Int) : Int) * 2 ^ (64 - n) % B64))) = some (.int .u64 (wL ((a / 2 ^ n : Nat) : Int))) := by
  obtain ⟨h1, h2, h3, h4⟩ := right_nat hn h
  have hp : (wL (a : Int) : Int) / 2 ^ n = ((wL (a : Int) / 2 ^ n : Nat) : Int) := by rw [Int.natCast_ediv, natPow_int]
  have hq : (wH (a : Int) : Int) * 2 ^ (64 - n) % B64 = ((2 ^ (64 - n) * (wH (a : Int) % 2 ^ n) : Nat) : Int) := by
    rw [wH_nat h, ← h3, Int.natCast_emod, Int.natCast_mul, natPow_int]; rfl
  have hm : 2 ^ (64 - n) * (wH (a : Int) % 2 ^ n) < 18446744073709551616 := by rw [wH_nat h, ← h3]; exact Nat.mod_lt _ (by decide)
  rw [run_orE (64 - n) (wH (a : Int) % 2 ^ n) (wL (a : Int) / 2 ^ n) hp hq hm (by rw [wL_nat]; exact h2) (Nat.lt_of_le_of_lt (Nat.div_le_self _ _) (wL_lt a)), hp, hq, wL_nat (a / 2 ^ n), h4, wH_nat h, wL_nat, Int.natCast_add]
end
theorem right_high {a n : Nat} (hn : n ≤ 64) (h : a < W128) : (wH ((a / 2 ^ n : Nat) : Int) : Int) = (wH (a : Int) : Int) / 2 ^ n := by
  rw [wH_nat (Nat.lt_of_le_of_lt (Nat.div_le_self _ _) h), (right_nat hn h).1, wH_nat h, Int.natCast_ediv (_ / _), natPow_int]
theorem left_far {a n : Nat} (h1 : 64 ≤ n) (h2 : n < 128) (h : a * 2 ^ n < W128) : (wH ((a * 2 ^ n : Nat) : Int) : Int) = (wL (a : Int) : Int) * 2 ^ (n - 64) % B64 ∧ (wL ((a * 2 ^ n : Nat) : Int) : Int) = 0 := by
  have e : a * 2 ^ n = (a * 2 ^ (n - 64)) * 18446744073709551616 := by
    rw [show n = (n - 64) + 64 by omega, Nat.pow_add, ← Nat.mul_assoc]; simp
  have hlt : a * 2 ^ (n - 64) < 18446744073709551616 := by
    rw [e] at h; unfold W128 at h; omega
  have ha : a < 18446744073709551616 := Nat.lt_of_le_of_lt (Nat.le_mul_of_pos_right a (Nat.two_pow_pos _)) hlt
  rw [wH_nat h, wL_nat, wL_nat, Nat.mod_eq_of_lt ha, ← natPow_int, ← Int.natCast_mul, e]
  generalize a * 2 ^ (n - 64) = X at *
  unfold B64
  omega
theorem right_far {a n : Nat} (h1 : 64 ≤ n) (h : a < W128) : (wL ((a / 2 ^ n : Nat) : Int) : Int) = (wH (a : Int) : Int) / 2 ^ (n - 64) ∧ (wH ((a / 2 ^ n : Nat) : Int) : Int) = 0 := by
  have e : a / 2 ^ n = a / 18446744073709551616 / 2 ^ (n - 64) := by
    rw [Nat.div_div_eq_div_mul, show (18446744073709551616 : Nat) = 2 ^ 64 from rfl, ← Nat.pow_add, show 64 + (n - 64) = n by omega]
  have hle : a / 18446744073709551616 / 2 ^ (n - 64) ≤ a / 18446744073709551616 := Nat.div_le_self _ _
  rw [wH_nat (Nat.lt_of_le_of_lt (Nat.div_le_self _ _) h), wL_nat, wH_nat h, ← natPow_int, ← Int.natCast_ediv, e]
  generalize a / 18446744073709551616 / 2 ^ (n - 64) = X at *
  unfold W128 at h
  omega
attribute [local irreducible] wH wL
set_option maxRecDepth 10000 in
theorem left_spec (a n : Nat) (hn : n < 128) (h : a * 2 ^ n < W128) (I : PH) : FnSpec Tryz.prog 246 [wideV (a : Int), .int .i64 (n : Nat)] I [] (fun v R' => v = wideV ((a * 2 ^ n : Nat) : Int) ∧ R' = []) := by
  have ha := mul_lt_pow h
  refine FnSpec.enterP Tryz.func246 rfl Tryz.ntmps246 rfl fun w F => ?_
  repeat' first
    | ((with_reducible refine Nx.is_wp ?_); first | refine Nx.p_draw (id := 3) rfl [0, 1, 2, 3, 4, 5, 6, 7, 8, 9, 10, 11, 12, 13, 14, 15] [15] [Blk _ 200 (wideL a), F] rfl rfl (by kernel_rfl) (by kernel_rfl) rfl PanicOk.auto (Ent.pick 1 rfl (Ent.pick 1 rfl (Ent.nil _))) ?_ | refine Nx.wo ?_ | refine Nx.p_draw (id := 3) rfl [0, 1, 2, 3, 4, 5, 6, 7, 8, 9, 10, 11, 12, 13, 14, 15] [15] _ rfl rfl (by kernel_rfl) (by kernel_rfl) rfl PanicOk.auto (Ent.refl _) ?_ | refine Nx.zp (fun hc => ?_) (fun hc => ?_))
    | (refine Nx.zo ?_; first | refine Nx.opr rfl rfl ?_ | refine Nx.bin rfl rfl (run_shlN (n - 64) (by omega) (by omega)) rfl ?_ | refine Nx.so ?_ | refine Nx.sb (fun bx => ?_) | refine Nx.sa (fun A2 c2 => ?_))
    | refine Nx.za ?_ | refine Nx.zr (fun hc => ?_) (fun hc => ?_)
    | ((with_reducible refine Nx.is_mix ?_); first | refine Nx.m_quiet rfl rfl rfl rfl rfl (by first | exact QRun.opr rfl | exact QRun.bin rfl rfl (run_shlN n rfl (by omega)) | exact QRun.bin rfl rfl (run_shrN (64 - n) (by omega) (by omega)) | exact QRun.bin rfl rfl (left_or (by omega) h)) ?_ | refine Nx.m_quiet_do rfl rfl rfl rfl rfl rfl rfl (by first | exact QRun.opr rfl | exact QRun.bin rfl rfl (run_shlN n rfl (by omega)) | exact QRun.bin rfl rfl (run_shrN (64 - n) (by omega) (by omega)) | exact QRun.bin rfl rfl (left_or (by omega) h)) ?_ | refine Nx.m ?_ | refine Nx.zm ?_ | refine Nx.zt (fun hc => ?_) (fun hc => ?_))
    | refine Nx.zx ?_ | fail
  · have e := left_far (by omega) hn h
    refine Nx.ret_cell 0 rfl rfl rfl rfl rfl rfl [] ⟨wideV_mkI e.1 e.2, rfl⟩ ?_
    (exact Ent.auto)
  · refine Nx.ret_cell 0 rfl rfl rfl rfl rfl rfl [] ⟨wideV_mkI rfl (left_low (by omega) h), rfl⟩ ?_
    (exact Ent.auto)
set_option maxRecDepth 10000 in
theorem frright_spec (a n : Nat) (hn : n < 128) (h : a < W128) (I : PH) : FnSpec Tryz.prog 245 [wideV (a : Int), .int .i64 (n : Nat)] I [] (fun v R' => v = wideV ((a / 2 ^ n : Nat) : Int) ∧ R' = []) := by
  refine FnSpec.enterP Tryz.func245 rfl Tryz.ntmps245 rfl fun w F => ?_
  repeat' first
    | ((with_reducible refine Nx.is_wp ?_); first | refine Nx.p_draw (id := 3) rfl [0, 1, 2, 3, 4, 5, 6, 7, 8, 9, 10, 11, 12, 13, 14, 15] [15] [Blk _ 200 (wideL a), F] rfl rfl (by kernel_rfl) (by kernel_rfl) rfl PanicOk.auto (Ent.pick 1 rfl (Ent.pick 1 rfl (Ent.nil _))) ?_ | refine Nx.wo ?_ | refine Nx.p_draw (id := 3) rfl [0, 1, 2, 3, 4, 5, 6, 7, 8, 9, 10, 11, 12, 13, 14, 15] [15] _ rfl rfl (by kernel_rfl) (by kernel_rfl) rfl PanicOk.auto (Ent.refl _) ?_ | refine Nx.zp (fun hc => ?_) (fun hc => ?_))
    | (refine Nx.zo ?_; first | refine Nx.opr rfl rfl ?_ | refine Nx.bin rfl rfl (run_shrN (n - 64) (by omega) (by omega)) rfl ?_ | refine Nx.so ?_ | refine Nx.sb (fun bx => ?_) | refine Nx.sa (fun A2 c2 => ?_))
    | refine Nx.za ?_ | refine Nx.zr (fun hc => ?_) (fun hc => ?_)
    | ((with_reducible refine Nx.is_mix ?_); first | refine Nx.m_quiet rfl rfl rfl rfl rfl (by first | exact QRun.opr rfl | exact QRun.bin rfl rfl (run_shrN n rfl (by omega)) | exact QRun.bin rfl rfl (run_shlN (64 - n) (by omega) (by omega)) | exact QRun.bin rfl rfl (right_or (by omega) h)) ?_ | refine Nx.m_quiet_do rfl rfl rfl rfl rfl rfl rfl (by first | exact QRun.opr rfl | exact QRun.bin rfl rfl (run_shrN n rfl (by omega)) | exact QRun.bin rfl rfl (run_shlN (64 - n) (by omega) (by omega)) | exact QRun.bin rfl rfl (right_or (by omega) h)) ?_ | refine Nx.m ?_ | refine Nx.zm ?_ | refine Nx.zt (fun hc => ?_) (fun hc => ?_))
    | refine Nx.zx ?_ | fail
  · have e := right_far (n := n) (by omega) h
    refine Nx.ret_cell 0 rfl rfl rfl rfl rfl rfl [] ⟨wideV_mkI e.2 e.1, rfl⟩ ?_
    (exact Ent.auto)
  · refine Nx.ret_cell 0 rfl rfl rfl rfl rfl rfl [] ⟨wideV_mkI (right_high (by omega) h) rfl, rfl⟩ ?_
    (exact Ent.auto)
end Go.Proofs.YtpcnapidlhpbkaaGreatDoor
namespace Go.Proofs.YtpcnapidlhpbkaaGreatDoor
open Go.Eng
attribute [local irreducible] opK wpList Code.wp Exit.then Exit.inBlock fnPost bodyPost Nx Calls Oper.wp Rd Rds Wr Ent Stars Blk Again Vec FnSpec wpMix QRun Stop Upto wpAt
abbrev H127 : Nat := 170141183460469231731687303715884105728
theorem cells_bit (r v : Nat) (hr : r < H127) (hv : v < 2) : ([.int .u64 (wH ((2 * r : Nat) : Int)), .int .u64 ((wL ((2 * r : Nat) : Int) : Int) + (v : Int))] : List Value) = wideL ((2 * r + v : Nat) : Int) := by
  have h1 : wH ((2 * r : Nat) : Int) = wH ((2 * r + v : Nat) : Int) := by unfold H127 at hr; unfold wH B128 B64; omega
  have h2 : (wL ((2 * r : Nat) : Int) : Int) + (v : Int) = wL ((2 * r + v : Nat) : Int) := by unfold wL B64; omega
  unfold wideL
  rw [h1, h2]
theorem or_bit {P : Program} {t : TypeId} {x y : Operand} (r v : Nat) (hv : v < 2) : pureRun P (do eqGuard .or t x y (.int .u64 (wL ((2 * r : Nat) : Int))) (.int .u64 (v : Int)); binOp .or t (.int .u64 (wL ((2 * r : Nat) : Int))) (.int .u64 (v : Int))) = some (.int .u64 ((wL ((2 * r : Nat) : Int) : Int) + (v : Int))) := by
  refine run_orD 1 (wL ((2 * r : Nat) : Int) / 2) v ?_ rfl ?_ hv (by omega)
  · have : wL ((2 * r : Nat) : Int) = (2 * r) % 18446744073709551616 := wL_nat _
    omega
  · have := wL_lt ((2 * r : Nat) : Int)
    omega
theorem natDiv_pow (x y : Nat) : (x : Int) / 2 ^ y = ((x / 2 ^ y : Nat) : Int) := by rw [Int.natCast_ediv, natPow_int]
theorem bitN_lt (a i : Nat) : bitN a i < 2 := Nat.mod_lt _ (by decide)
theorem twiceN (r : Nat) (h : r < H127) (I : PH) : FnSpec Tryz.prog 219 [wideV (r : Int)] I [] (fun v R' => v = wideV ((2 * r : Nat) : Int) ∧ R' = []) := by
  have := twice_spec r (by unfold H127 at h; omega) I
  rw [show (2 * (r : Int)) = ((2 * r : Nat) : Int) by omega] at this
  exact this
theorem belowN (a b : Nat) (ha : a < W128) (hb : b < W128) (I : PH) : FnSpec Tryz.prog 174 [wideV (a : Int), wideV (b : Int)] I [] (fun v R' => v = .bool (decide (a < b)) ∧ R' = []) := by
  have := below_spec a b ⟨by omega, by unfold W128 at ha; omega⟩ ⟨by omega, by unfold W128 at hb; omega⟩ I
  rw [show decide ((a : Int) < b) = decide (a < b) from decide_eq_decide.2 (by omega)] at this
  exact this
attribute [local irreducible] wH wL bitN
set_option maxRecDepth 10000 in
theorem Over_spec (a b : Nat) (ha : a < H127) (hb0 : 0 < b) (hb : b < H127) (I : PH) : FnSpec Tryz.prog 173 [wideV (a : Int), wideV (b : Int)] I [] (fun v R' => v = .tuple #[wideV ((a / b : Nat) : Int), wideV ((a % b : Nat) : Int)] ∧ R' = []) := by
  have eH := wH_nat (a := a) (by unfold H127 at ha; omega)
  have eL := wL_nat a
  have hb' : b < 170141183460469231731687303715884105728 := hb
  have lH := wH_lt (a : Int)
  have lL := wL_lt (a : Int)
  refine FnSpec.enterP Tryz.func173 rfl Tryz.ntmps173 rfl fun w F => ?_
  repeat' first
    | ((with_reducible refine Nx.is_wp ?_); first | refine Nx.wo ?_ | refine Nx.zp (fun hc => ?_) (fun hc => ?_))
    | (refine Nx.zo ?_; first | refine Nx.opr rfl rfl ?_ | refine Nx.so ?_ | refine Nx.sb (fun bx => ?_) | refine Nx.sa (fun A2 c2 => ?_))
    | refine Nx.za ?_ | refine Nx.zr (fun hc => ?_) (fun hc => ?_)
    | refine Nx.zq ?_ | refine Nx.zu (fun hc => ?_) (fun hc => ?_)
    | refine Nx.zx ?_ | fail
  rename_i ba bb b4 b5 b6
  refine Nx.p_loop (σ := Nat) (fun s => [(8, .int .i64 ((s : Int) - 1)), (7, .pointer (some ⟨bx, 0, none⟩)), (6, .pointer (some ⟨b6, 0, none⟩)), (5, .pointer (some ⟨b5, 0, none⟩)), (4, .pointer (some ⟨b4, 0, none⟩)), (3, .pointer (some ⟨bb, 0, none⟩)), (2, .pointer (some ⟨ba, 0, none⟩))])
    (fun s => [Blk bx 104 (wideL ((a / 2 ^ s % b : Nat) : Int)), Blk b6 104 (wideL ((a / 2 ^ s / b : Nat) : Int)), Blk b5 104 [.int .u64 0, .int .u64 0], Blk b4 104 [.int .u64 0, .int .u64 0], Blk bb 104 (wideL (b : Int)), Blk ba 104 (wideL (a : Int)), F])
    (fun s => s ≤ 128) (fun s => s) 128 rfl (Nat.le_refl _) ⟨rfl, rfl, rfl, rfl, rfl, rfl, rfl, trivial⟩ ?_ ?_
  · have e0 : a / 2 ^ 128 = 0 := Nat.div_eq_of_lt (by unfold H127 at ha; omega)
    rw [e0, Nat.zero_mod, Nat.zero_div]
    refine Ent.pickE 0 rfl ?_ (Ent.pickE 0 rfl ?_ (by (exact Ent.auto)))
    · unfold wideL; rw [show wH ((0 : Nat) : Int) = 0 by unfold wH; rfl, show wL ((0 : Nat) : Int) = 0 by unfold wL; rfl]; rfl
    · unfold wideL; rw [show wH ((0 : Nat) : Int) = 0 by unfold wH; rfl, show wL ((0 : Nat) : Int) = 0 by unfold wL; rfl]; rfl
  · rintro (_ | i) hi
    · repeat' first
        | ((with_reducible refine Nx.is_wp ?_); first | refine Nx.wo ?_ | refine Nx.p_drawF (id := 14) rfl [0, 1, 2] [2] [3] _ rfl rfl (by kernel_rfl) (by kernel_rfl) rfl PanicOk.auto (Ent.eraseK 3 _) ?_ | refine Nx.zp (fun hc => ?_) (fun hc => ?_))
        | (refine Nx.zo ?_; first | refine Nx.opr rfl rfl ?_ | refine Nx.so ?_ | refine Nx.sb (fun bx => ?_) | refine Nx.sa (fun A2 c2 => ?_))
        | refine Nx.za ?_ | refine Nx.zr (fun hc => ?_) (fun hc => ?_)
        | refine Nx.zq ?_ | refine Nx.zu (fun hc => ?_) (fun hc => ?_)
        | refine Nx.zx ?_ | fail
      refine Nx.ret2 rfl (ROne.cell 1 rfl rfl rfl rfl rfl) (ROne.cell 0 rfl rfl rfl rfl rfl) [] ⟨?_, rfl⟩ (by (exact Ent.auto))
      simp only [Nat.pow_zero, Nat.div_one]
      rfl
    · rw [show ((i + 1 : Nat) : Int) - 1 = (i : Int) by omega]
      obtain ⟨s1, s2⟩ := div_step (a := a) (i := i) hb0
      have hq : a / 2 ^ (i + 1) / b ≤ a := Nat.le_trans (Nat.div_le_self _ _) (Nat.div_le_self _ _)
      have hr : a / 2 ^ (i + 1) % b < b := Nat.mod_lt _ hb0
      generalize a / 2 ^ (i + 1) % b = r at *
      generalize a / 2 ^ (i + 1) / b = q at *
      have hbit := bitN_lt a i
      have kH : wH (a : Int) / 2 ^ (i % 64) % 2 < 2 := Nat.mod_lt _ (by decide)
      have kL : wL (a : Int) / 2 ^ (i % 64) % 2 < 2 := Nat.mod_lt _ (by decide)
      have jH : wH (a : Int) / 2 ^ (i % 64) < 18446744073709551616 := Nat.lt_of_le_of_lt (Nat.div_le_self _ _) lH
      have jL : wL (a : Int) / 2 ^ (i % 64) < 18446744073709551616 := Nat.lt_of_le_of_lt (Nat.div_le_self _ _) lL
      have bH := fun h => bit_high (a := a) (i := i) h (by omega)
      have bL : i < 64 → a % 18446744073709551616 / 2 ^ (i % 64) % 2 = bitN a i := fun h => by rw [Nat.mod_eq_of_lt h]; exact bit_low h
      rw [← eH] at bH
      rw [← eL] at bL
      have hrH : r < H127 := by omega
      have hqH : q < H127 := by omega
      repeat' first
        | ((with_reducible refine Nx.is_wp ?_); first | refine Nx.wo ?_ | refine Nx.zp (fun hc => ?_) (fun hc => ?_))
        | (refine Nx.zo ?_; first | refine Nx.opr rfl rfl ?_ | refine Nx.callv rfl rfl rfl (by kernel_rfl) rfl (twiceN r hrH I) ?_ | refine Nx.callv rfl rfl rfl (by kernel_rfl) rfl (twiceN q hqH I) ?_ | refine Nx.conv_u64 rfl rfl rfl rfl ?_ | refine Nx.bin rfl rfl (run_shrN (i % 64) (by unfold B64; omega) (by omega)) rfl ?_ | refine Nx.bin rfl rfl (run_and1 (wH (a : Int) / 2 ^ (i % 64)) (natDiv_pow _ _) jH) rfl ?_ | refine Nx.bin rfl rfl (run_and1 (wL (a : Int) / 2 ^ (i % 64)) (natDiv_pow _ _) jL) rfl ?_ | refine Nx.bin rfl rfl (or_bit _ _ (Nat.mod_lt _ (by decide))) rfl ?_ | refine Nx.bin rfl rfl (or_bit _ 1 (by omega)) rfl ?_ | refine Nx.store_as 0 _ rfl rfl rfl rfl rfl rfl rfl (cells_bit r _ hrH (Nat.mod_lt _ (by decide))) ?_ | refine Nx.store_as 1 _ rfl rfl rfl rfl rfl rfl rfl (cells_bit q 1 hqH (by omega)) ?_ | refine Nx.callv rfl rfl rfl (by kernel_rfl) rfl (belowN _ b (by unfold W128; omega) (by unfold W128; omega) I) ?_ | refine Nx.callv rfl rfl rfl (by kernel_rfl) rfl (rminus_spec _ _ I) ?_ | refine Nx.so ?_ | refine Nx.sb (fun bx => ?_) | refine Nx.sa (fun A2 c2 => ?_))
        | refine Nx.za ?_ | refine Nx.zr (fun hc => ?_) (fun hc => ?_)
        | refine Nx.zq ?_ | refine Nx.zu (fun hc => ?_) (fun hc => ?_)
        | refine Nx.zx ?_ | fail
      all_goals (refine Nx.again i (by omega) (by omega) ⟨rfl, rfl, rfl, rfl, rfl, rfl, rfl, trivial⟩ ?_)
      · have hv := bL (by omega)
        have hge : ¬ 2 * r + wL (a : Int) / 2 ^ (i % 64) % 2 < b := by simpa using hc
        obtain ⟨e1, e2⟩ := s2 (by rw [← hv]; exact hge)
        rw [e1, e2, ← hv, show ((2 * r + wL (a : Int) / 2 ^ (i % 64) % 2 - b : Nat) : Int) = ((2 * r + wL (a : Int) / 2 ^ (i % 64) % 2 : Nat) : Int) - (b : Int) by omega]
        refine Ent.pickE 1 rfl rfl (Ent.pickE 0 rfl rfl (by (exact Ent.auto)))
      · have hv := bL (by omega)
        have hge : 2 * r + wL (a : Int) / 2 ^ (i % 64) % 2 < b := by simpa using hc
        obtain ⟨e1, e2⟩ := s1 (by rw [← hv]; exact hge)
        rw [e1, e2, ← hv]
        refine Ent.pickE 1 rfl rfl (Ent.pickE 0 rfl rfl (by (exact Ent.auto)))
      · have hv := bH (by omega)
        have hge : ¬ 2 * r + wH (a : Int) / 2 ^ (i % 64) % 2 < b := by simpa using hc
        obtain ⟨e1, e2⟩ := s2 (by rw [← hv]; exact hge)
        rw [e1, e2, ← hv, show ((2 * r + wH (a : Int) / 2 ^ (i % 64) % 2 - b : Nat) : Int) = ((2 * r + wH (a : Int) / 2 ^ (i % 64) % 2 : Nat) : Int) - (b : Int) by omega]
        refine Ent.pickE 1 rfl rfl (Ent.pickE 0 rfl rfl (by (exact Ent.auto)))
      · have hv := bH (by omega)
        have hge : 2 * r + wH (a : Int) / 2 ^ (i % 64) % 2 < b := by simpa using hc
        obtain ⟨e1, e2⟩ := s1 (by rw [← hv]; exact hge)
        rw [e1, e2, ← hv]
        refine Ent.pickE 1 rfl rfl (Ent.pickE 0 rfl rfl (by (exact Ent.auto)))
end Go.Proofs.YtpcnapidlhpbkaaGreatDoor
namespace Go.Proofs.YtpcnapidlhpbkaaGreatDoor
open Go.Eng
attribute [local irreducible] opK wpList Code.wp Exit.then Exit.inBlock fnPost bodyPost Nx Calls Oper.wp Rd Rds Wr Ent Stars Blk Again Vec FnSpec wpMix QRun Stop Upto wpAt
attribute [local irreducible] wH wL
set_option maxRecDepth 10000 in
theorem rcommon_spec (a b : Nat) (ha : a < H127) (hb : b < H127) (I : PH) : FnSpec Tryz.prog 172 [wideV (a : Int), wideV (b : Int)] I [] (fun v R' => v = wideV ((Nat.gcd a b : Nat) : Int) ∧ R' = []) := by
  refine FnSpec.enterP Tryz.func172 rfl Tryz.ntmps172 rfl fun w F => ?_
  repeat' first
    | ((with_reducible refine Nx.is_wp ?_); first | refine Nx.wo ?_ | refine Nx.zp (fun hc => ?_) (fun hc => ?_))
    | (refine Nx.zo ?_; first | refine Nx.opr rfl rfl ?_ | refine Nx.so ?_ | refine Nx.sb (fun bx => ?_) | refine Nx.sa (fun A2 c2 => ?_))
    | refine Nx.za ?_ | refine Nx.zr (fun hc => ?_) (fun hc => ?_)
    | refine Nx.zq ?_ | refine Nx.zu (fun hc => ?_) (fun hc => ?_)
    | refine Nx.zx ?_ | fail
  rename_i ba bb
  refine Nx.p_loop (σ := Nat × Nat) (fun _ => [(4, .pointer (some ⟨bx, 0, none⟩)), (3, .pointer (some ⟨bb, 0, none⟩)), (2, .pointer (some ⟨ba, 0, none⟩))])
    (fun s => [Blk ba 104 (wideL (s.1 : Int)), Blk bb 104 (wideL (s.2 : Int)), Blk bx 104 [.int .u64 0, .int .u64 0], F])
    (fun s => s.1 < H127 ∧ s.2 < H127 ∧ Nat.gcd s.1 s.2 = Nat.gcd a b) (fun s => s.2) (a, b) rfl ⟨ha, hb, rfl⟩ ⟨rfl, rfl, rfl, trivial⟩ (by (exact Ent.auto)) ?_
  rintro ⟨x, y⟩ ⟨hx, hy, hg⟩
  simp only at hx hy hg ⊢
  have hx' : x < 170141183460469231731687303715884105728 := hx
  have hy' : y < 170141183460469231731687303715884105728 := hy
  have hw : InW (y : Int) := by unfold InW; omega
  by_cases h0 : y = 0
  · subst h0
    rw [Nat.gcd_zero_right] at hg
    subst hg
    repeat' first
      | ((with_reducible refine Nx.is_wp ?_); first | refine Nx.wo ?_ | refine Nx.zp (fun hc => ?_) (fun hc => ?_))
      | (refine Nx.zo ?_; first | refine Nx.opr rfl rfl ?_ | refine Nx.callv rfl rfl rfl (by kernel_rfl) rfl (zero_spec _ hw I) ?_ | refine Nx.so ?_ | refine Nx.sb (fun bx => ?_) | refine Nx.sa (fun A2 c2 => ?_))
      | refine Nx.za ?_ | refine Nx.zr (fun hc => ?_) (fun hc => ?_)
      | refine Nx.zq ?_ | refine Nx.zu (fun hc => ?_) (fun hc => ?_)
      | refine Nx.zx ?_ | fail
    refine Nx.ret_cell 0 rfl rfl rfl rfl rfl rfl [] ⟨rfl, rfl⟩ ?_
    (exact Ent.auto)
  · repeat' first
      | ((with_reducible refine Nx.is_wp ?_); first | refine Nx.wo ?_ | refine Nx.p_drawF (id := 3) rfl [0, 1, 2] [2] [3] _ rfl rfl (by kernel_rfl) (by kernel_rfl) rfl PanicOk.auto (Ent.eraseK 2 _) ?_ | refine Nx.zp (fun hc => ?_) (fun hc => ?_))
      | (refine Nx.zo ?_; first | refine Nx.opr rfl rfl ?_ | refine Nx.callv rfl rfl rfl (by kernel_rfl) rfl (zero_spec _ hw I) ?_ | refine Nx.callv rfl rfl rfl (by kernel_rfl) rfl (Over_spec x y hx (by omega) hy I) ?_ | refine Nx.so ?_ | refine Nx.sb (fun bx => ?_) | refine Nx.sa (fun A2 c2 => ?_))
      | refine Nx.za ?_ | refine Nx.zr (fun hc => ?_) (fun hc => ?_)
      | refine Nx.zq ?_ | refine Nx.zu (fun hc => ?_) (fun hc => ?_)
      | refine Nx.zx ?_ | fail
    · refine Nx.again (y, x % y) ⟨hy, by have := Nat.mod_lt x (Nat.pos_of_ne_zero h0); omega, ?_⟩ (Nat.mod_lt _ (by omega)) ⟨rfl, rfl, rfl, trivial⟩ (Ent.pickE 1 rfl rfl (Ent.pickE 0 rfl rfl (by (exact Ent.auto))))
      show Nat.gcd y (x % y) = _
      rw [Nat.gcd_comm, ← Nat.gcd_rec, Nat.gcd_comm]
      exact hg
    · exfalso
      simp at hc
      omega
end Go.Proofs.YtpcnapidlhpbkaaGreatDoor
namespace Go.Proofs.YtpcnapidlhpbkaaGreatDoor
open Go.Eng
attribute [local irreducible] opK wpList Code.wp Exit.then Exit.inBlock fnPost bodyPost Nx Calls Oper.wp Rd Rds Wr Ent Stars Blk Again Vec FnSpec wpMix QRun Stop Upto wpAt
theorem half_step {a B : Nat} (hB : 0 < B) : (a % (2 * B) < B → a % B = a % (2 * B) ∧ a / B = 2 * (a / (2 * B))) ∧ (¬ a % (2 * B) < B → a % B = a % (2 * B) - B ∧ a / B = 2 * (a / (2 * B)) + 1) := by
  have h1 := Nat.div_add_mod a (2 * B)
  have h2 : a % (2 * B) < 2 * B := Nat.mod_lt _ (by omega)
  generalize a % (2 * B) = r at *
  generalize a / (2 * B) = q at *
  have h3 : a = B * (2 * q) + r := by rw [← h1, Nat.mul_left_comm, ← Nat.mul_assoc]
  constructor
  · intro hlt
    constructor
    · conv => lhs; rw [h3]
      rw [Nat.mul_add_mod, Nat.mod_eq_of_lt hlt]
    · conv => lhs; rw [h3]
      rw [Nat.mul_add_div hB, Nat.div_eq_of_lt hlt, Nat.add_zero]
  · intro hge
    have h4 : a = B * (2 * q + 1) + (r - B) := by
      rw [Nat.mul_add]
      omega
    have hlt : r - B < B := by omega
    constructor
    · conv => lhs; rw [h4]
      rw [Nat.mul_add_mod, Nat.mod_eq_of_lt hlt]
    · conv => lhs; rw [h4]
      rw [Nat.mul_add_div hB, Nat.div_eq_of_lt hlt, Nat.add_zero]
attribute [local irreducible] wH wL lenN zerN
set_option maxRecDepth 10000 in
theorem over_spec (a b : Nat) (ha : a < H127) (hb0 : 0 < b) (hb : b < H127) (I : PH) : FnSpec Tryz.prog 217 [wideV (a : Int), wideV (b : Int)] I []
    (fun v R' => ∃ q : Int, v = .tuple #[.int .i64 q, .bool (decide (a / b ≤ 1152921504606846976))] ∧ R' = [] ∧ (a / b ≤ 1152921504606846976 → q = (a / b : Nat)) ∧ 0 ≤ q ∧ q ≤ 4611686018427387904) := by
  obtain ⟨a1, a2, a3⟩ := lenN_spec (a := a) (by unfold H127 at ha; omega)
  obtain ⟨b1, b2, b3⟩ := lenN_spec (a := b) (by unfold H127 at hb; omega)
  obtain ⟨b2, b4⟩ := b2 (by omega)
  refine FnSpec.enterP Tryz.func217 rfl Tryz.ntmps217 rfl fun w F => ?_
  repeat' first
    | ((with_reducible refine Nx.is_wp ?_); first | refine Nx.wo ?_ | refine Nx.p_drawF (id := 1) rfl [0, 2, 1] [1] [3, 4, 5] _ rfl rfl (by kernel_rfl) (by kernel_rfl) rfl PanicOk.auto (Ent.refl _) ?_ | refine Nx.p_poolF (id := 9) rfl [0, 1, 2, 3, 4] [3, 4] [] [6] [6] [⟨5, 9, 200, _⟩] rfl rfl (by kernel_rfl) (by kernel_rfl) (by decide) (PoolFit.cons ⟨⟨_, _, _, rfl⟩, rfl, rfl⟩ PoolFit.nil) PanicOk.auto (Ent.refl _) ?_ | refine Nx.zp (fun hc => ?_) (fun hc => ?_))
    | ((first | refine Nx.at_op rfl rfl ?_ | refine Nx.m_loud rfl rfl rfl ?_ | refine Nx.at_do rfl rfl rfl rfl ?_ | refine Nx.m_loud_do rfl rfl rfl rfl rfl ?_ | refine GoodF.loud_ rfl rfl rfl rfl (fun ex X => ?_)); first | refine Nx.opr rfl rfl ?_ | refine Nx.callv rfl rfl rfl (by kernel_rfl) rfl (length_spec a (by unfold W128; unfold H127 at ha; omega) I) ?_ | refine Nx.callv rfl rfl rfl (by kernel_rfl) rfl (length_spec b (by unfold W128; unfold H127 at hb; omega) I) ?_ | refine Nx.so ?_ | refine Nx.sb (fun bx => ?_) | refine Nx.sa (fun A2 c2 => ?_))
    | refine Nx.za ?_ | refine Nx.zr (fun hc => ?_) (fun hc => ?_)
    | refine Nx.zq ?_ | refine Nx.zu (fun hc => ?_) (fun hc => ?_)
    | ((with_reducible refine GoodF.is ?_); first | refine GoodF.quiet rfl rfl rfl rfl rfl rfl (by first | exact QRun.opr rfl |  exact QRun.std) ?_ | refine GoodF.done1 rfl (fun bx => ?_) | refine GoodF.done2 rfl (fun bx by_ => ?_) | refine GoodF.done3 rfl (fun bx by_ bz => ?_))
    | ((fail_if_success (with_reducible refine Nx.is_at ?_)); (fail_if_success (with_reducible refine Nx.is_wp ?_)); (fail_if_success (with_reducible refine Nx.is_mix ?_)); first | refine Nx.ex ?_ | refine Nx.pool_nextF 0 rfl (by exact Ent.auto) ?_ | refine Nx.pool_nextF 1 rfl (by exact Ent.auto) ?_ | refine Nx.pool_nextF 2 rfl (by exact Ent.auto) ?_ | refine Nx.pool_nextF 3 rfl (by exact Ent.auto) ?_)
  · have h1 : 2 ^ 61 * b ≤ a := by
      have e : 2 ^ (lenN a - 1) ≤ a := (a2 (by rintro rfl; have : lenN 0 = 0 := (by unfold lenN; rfl); omega)).2
      have : 2 ^ 61 * 2 ^ lenN b ≤ 2 ^ (lenN a - 1) := by rw [← Nat.pow_add]; exact Nat.pow_le_pow_right (by decide) (by omega)
      have : 2 ^ 61 * b ≤ 2 ^ 61 * 2 ^ lenN b := Nat.mul_le_mul_left _ (by omega)
      omega
    have h2 : ¬ a / b ≤ 1152921504606846976 := by
      have := (Nat.le_div_iff_mul_le hb0).2 h1
      omega
    refine Nx.ret_fn rfl [] ⟨0, ?_, rfl, fun h => absurd h h2, by omega, by omega⟩ (by (exact Ent.auto))
    rw [decide_eq_false h2]
  · have hla : lenN a ≤ 127 := by
      by_cases h0 : a = 0
      · subst h0
        have : lenN 0 = 0 := by unfold lenN; rfl
        omega
      · have h1 := (a2 h0).2
        have h2 : 2 ^ (lenN a - 1) < 2 ^ 127 := Nat.lt_of_le_of_lt h1 (by unfold H127 at ha; omega)
        have := (Nat.pow_lt_pow_iff_right (by decide : 1 < 2)).1 h2
        omega
    have hst : a < 2 ^ ((lenN a : Int) - lenN b + 1).toNat * b := by
      by_cases h : lenN b ≤ lenN a
      · rw [show ((lenN a : Int) - lenN b + 1).toNat = lenN a - lenN b + 1 by omega]
        have h1 : 2 ^ lenN a = 2 ^ (lenN a - lenN b + 1) * 2 ^ (lenN b - 1) := by rw [← Nat.pow_add]; congr 1; omega
        have h2 : 2 ^ (lenN a - lenN b + 1) * 2 ^ (lenN b - 1) ≤ 2 ^ (lenN a - lenN b + 1) * b := Nat.mul_le_mul_left _ b4
        omega
      · rw [show ((lenN a : Int) - lenN b + 1).toNat = 0 by omega, Nat.pow_zero, Nat.one_mul]
        have : 2 ^ lenN a ≤ 2 ^ (lenN b - 1) := Nat.pow_le_pow_right (by decide) (by omega)
        omega
    have hq62 : a / b < 2 ^ 62 := by
      rw [Nat.div_lt_iff_lt_mul hb0]
      have : 2 ^ ((lenN a : Int) - lenN b + 1).toNat ≤ 2 ^ 62 := Nat.pow_le_pow_right (by decide) (by omega)
      exact Nat.lt_of_lt_of_le hst (Nat.mul_le_mul_right _ this)
    rename_i ba
    refine Nx.p_loop (σ := Int) (fun k => [(8, .int .i64 k), (7, .int .i64 ((a / (2 ^ (k + 1).toNat * b) : Nat) : Int)), (3, .pointer (some ⟨bx, 0, none⟩)), (2, .pointer (some ⟨ba, 0, none⟩))])
      (fun k => [Blk ba 200 (wideL ((a % (2 ^ (k + 1).toNat * b) : Nat) : Int)), Blk bx 200 (wideL (b : Int)), F]) (fun k => k ≤ (lenN a : Int) - lenN b ∧ -200 ≤ k) (fun k => (k + 1).toNat) ((lenN a : Int) - lenN b) rfl ⟨by omega, by omega⟩ ⟨rfl, by rw [Nat.div_eq_of_lt hst]; rfl, rfl, rfl, trivial⟩ (by rw [Nat.mod_eq_of_lt hst]; (exact Ent.auto)) ?_
    rintro k ⟨hk, hk2⟩
    by_cases h0 : k < 0
    · have e : (k + 1).toNat = 0 := by omega
      rw [e, Nat.pow_zero, Nat.one_mul]
      repeat' first
        | ((with_reducible refine Nx.is_wp ?_); first | refine Nx.wo ?_ | refine Nx.zp (fun hc => ?_) (fun hc => ?_))
        | (refine Nx.zo ?_; first | refine Nx.opr rfl rfl ?_ | refine Nx.so ?_ | refine Nx.sb (fun bx => ?_) | refine Nx.sa (fun A2 c2 => ?_))
        | refine Nx.za ?_ | refine Nx.zr (fun hc => ?_) (fun hc => ?_)
        | refine Nx.zq ?_ | refine Nx.zu (fun hc => ?_) (fun hc => ?_)
        | refine Nx.zx ?_ | fail
      refine Nx.ret_fn rfl [] ⟨((a / b : Nat) : Int), ?_, rfl, fun _ => rfl, Int.natCast_nonneg _, by generalize a / b = Q at hq62; omega⟩ (by (exact Ent.auto))
      rw [show decide (((a / b : Nat) : Int) ≤ 1152921504606846976) = decide (a / b ≤ 1152921504606846976) from decide_eq_decide.2 (by omega)]
    · obtain ⟨j, rfl⟩ : ∃ j : Nat, k = (j : Int) := ⟨k.toNat, by omega⟩
      rw [show ((j : Int) + 1).toNat = j + 1 by omega]
      have hBj : b * 2 ^ j < 2 ^ 127 := by
        have h1 : b * 2 ^ j < 2 ^ lenN b * 2 ^ j := Nat.mul_lt_mul_of_pos_right b1 (Nat.two_pow_pos j)
        rw [← Nat.pow_add] at h1
        exact Nat.lt_of_lt_of_le h1 (Nat.pow_le_pow_right (by decide) (by omega))
      have e2 : 2 ^ (j + 1) * b = 2 * (b * 2 ^ j) := by rw [Nat.pow_succ, Nat.mul_comm b, ← Nat.mul_assoc, Nat.mul_comm 2]
      have hB0 : 0 < b * 2 ^ j := Nat.mul_pos hb0 (Nat.two_pow_pos j)
      obtain ⟨s1, s2⟩ := half_step (a := a) hB0
      have hqa : a / (2 ^ (j + 1) * b) ≤ a / b := Nat.div_le_div_left (Nat.le_mul_of_pos_left b (Nat.two_pow_pos _)) hb0
      have hq2 : 2 * (a / (2 ^ (j + 1) * b)) ≤ a / b := by
        have : a / (2 ^ (j + 1) * b) ≤ a / b / 2 := by
          rw [Nat.div_div_eq_div_mul]
          refine Nat.div_le_div_left ?_ (by omega)
          rw [Nat.pow_succ, Nat.mul_comm b]
          exact Nat.mul_le_mul_right _ (Nat.le_mul_of_pos_left 2 (Nat.two_pow_pos j))
        omega
      have hra : a % (2 ^ (j + 1) * b) ≤ a := Nat.mod_le _ _
      rw [← e2] at s1 s2
      have hnext : (2 : Nat) ^ ((j : Int) - 1 + 1).toNat * b = b * 2 ^ j := by rw [show ((j : Int) - 1 + 1).toNat = j by omega, Nat.mul_comm]
      have hw : InW (((a % (2 ^ (j + 1) * b) : Nat) : Int) - ((b * 2 ^ j : Nat) : Int)) := by unfold InW; unfold H127 at ha; omega
      generalize a / (2 ^ (j + 1) * b) = q at *
      generalize a % (2 ^ (j + 1) * b) = r at *
      repeat' first
        | ((with_reducible refine Nx.is_wp ?_); first | refine Nx.wo ?_ | refine Nx.p_drawF (id := 1) rfl [0, 2, 1] [1] [3, 4, 5] _ rfl rfl (by kernel_rfl) (by kernel_rfl) rfl PanicOk.auto (Ent.refl _) ?_ | refine Nx.p_poolF (id := 9) rfl [0, 1, 2, 3, 4] [3, 4] [] [6] [6] [⟨5, 9, 200, _⟩] rfl rfl (by kernel_rfl) (by kernel_rfl) (by decide) (PoolFit.cons ⟨⟨_, _, _, rfl⟩, rfl, rfl⟩ PoolFit.nil) PanicOk.auto (Ent.refl _) ?_ | refine Nx.zp (fun hc => ?_) (fun hc => ?_))
        | ((first | refine Nx.at_op rfl rfl ?_ | refine Nx.m_loud rfl rfl rfl ?_ | refine Nx.at_do rfl rfl rfl rfl ?_ | refine Nx.m_loud_do rfl rfl rfl rfl rfl ?_ | refine GoodF.loud_ rfl rfl rfl rfl (fun ex X => ?_)); first | refine Nx.opr rfl rfl ?_ | refine Nx.callv rfl rfl rfl (by kernel_rfl) rfl (left_spec b j (by omega) (by unfold W128; omega) I) ?_ | refine Nx.callv rfl rfl rfl (by kernel_rfl) rfl (minus_spec _ _ I) ?_ | refine Nx.callv rfl rfl rfl (by kernel_rfl) rfl (sign_spec _ hw I) ?_ | refine Nx.so ?_ | refine Nx.sb (fun bx => ?_) | refine Nx.sa (fun A2 c2 => ?_))
        | refine Nx.za ?_ | refine Nx.zr (fun hc => ?_) (fun hc => ?_)
        | refine Nx.zq ?_ | refine Nx.zu (fun hc => ?_) (fun hc => ?_)
        | ((with_reducible refine GoodF.is ?_); first | refine GoodF.quiet rfl rfl rfl rfl rfl rfl (by first | exact QRun.opr rfl |  exact QRun.std) ?_ | refine GoodF.done1 rfl (fun bx => ?_) | refine GoodF.done2 rfl (fun bx by_ => ?_) | refine GoodF.done3 rfl (fun bx by_ bz => ?_))
        | ((fail_if_success (with_reducible refine Nx.is_at ?_)); (fail_if_success (with_reducible refine Nx.is_wp ?_)); (fail_if_success (with_reducible refine Nx.is_mix ?_)); first | refine Nx.ex ?_ | refine Nx.pool_nextF 0 rfl (by exact Ent.auto) ?_ | refine Nx.pool_nextF 1 rfl (by exact Ent.auto) ?_ | refine Nx.pool_nextF 2 rfl (by exact Ent.auto) ?_ | refine Nx.pool_nextF 3 rfl (by exact Ent.auto) ?_)
      · have hge : ¬ r < b * 2 ^ j := by
          have := Int.sign_nonneg_iff.1 hc
          omega
        obtain ⟨k1, k2⟩ := s2 hge
        refine Nx.again ((j : Int) - 1) ⟨by omega, by omega⟩ (by omega) ⟨rfl, ?_, rfl, rfl, trivial⟩ ?_
        · rw [hnext, k2, show ((2 * q + 1 : Nat) : Int) = (q : Int) * 2 + 1 by omega]; rfl
        · rw [hnext, k1, show ((r - b * 2 ^ j : Nat) : Int) = (r : Int) - ((b * 2 ^ j : Nat) : Int) by omega]
          exact Ent.pickE 0 rfl rfl (by (exact Ent.auto))
      · have hlt : r < b * 2 ^ j := by
          have : ¬ 0 ≤ (r : Int) - ((b * 2 ^ j : Nat) : Int) := fun h => hc (Int.sign_nonneg_iff.2 h)
          omega
        obtain ⟨k1, k2⟩ := s1 hlt
        refine Nx.again ((j : Int) - 1) ⟨by omega, by omega⟩ (by omega) ⟨rfl, ?_, rfl, rfl, trivial⟩ ?_
        · rw [hnext, k2, show ((2 * q : Nat) : Int) = (q : Int) * 2 by omega]; rfl
        · rw [hnext, k1]
          (exact Ent.auto)
end Go.Proofs.YtpcnapidlhpbkaaGreatDoor
namespace Go.Proofs.YtpcnapidlhpbkaaGreatDoor
open Go.Eng
attribute [local irreducible] opK wpList Code.wp Exit.then Exit.inBlock fnPost bodyPost Nx Calls Oper.wp Rd Rds Wr Ent Stars Blk Again Vec FnSpec wpMix QRun Stop Upto wpAt
theorem neq0 {x y : Operand} (z : Int) (hz : InW z) (w : World) :
    (do eqGuard .neq 200 x y (wideV z) (.agg #[.int .u64 0, .int .u64 0]); binOp .neq 200 (wideV z) (.agg #[.int .u64 0, .int .u64 0])).run Tryz.prog w = .ok (.bool (decide (¬ z = 0))) w := by
  have h := neq_wide (x := x) (y := y) (wH z : Int) (wL z : Int) 0 0 w
  rw [zero_bool hz] at h
  rw [show decide (¬ z = 0) = !decide (z = 0) by simp]
  exact h
theorem gcd_mul_odd {b x : Nat} (hx : x % 2 = 1) (hb : b ≠ 0) (hbl : b < W128) : ∃ m, b / 2 ^ zerN b = 2 * m + 1 ∧ Nat.gcd x b = Nat.gcd x (2 * m + 1) ∧ b = 2 ^ zerN b * (2 * m + 1) ∧ zerN b < 128 := by
  obtain ⟨m, hm, hz⟩ := zerN_spec hb hbl
  refine ⟨m, ?_, ?_, hm, hz⟩
  · conv => lhs; arg 1; rw [hm]
    exact Nat.mul_div_cancel_left _ (Nat.two_pow_pos _)
  · conv => lhs; rw [hm]
    exact gcd_odd hx
attribute [local irreducible] wH wL lenN zerN
set_option maxRecDepth 10000 in
theorem common_spec (a b : Nat) (ha0 : 0 < a) (ha : a < H127) (hb : b < H127) (I : PH) (hT : TabI I) : FnSpec Tryz.prog 215 [wideV (a : Int), wideV (b : Int)] I [] (fun v R' => v = wideV ((Nat.gcd a b : Nat) : Int) ∧ R' = []) := by
  have ha' : a < W128 := by unfold W128; unfold H127 at ha; omega
  have hb' : b < W128 := by unfold W128; unfold H127 at hb; omega
  have hwb : InW (b : Int) := by unfold InW; unfold H127 at hb; omega
  obtain ⟨u, hu, hz⟩ := zerN_spec (by omega : a ≠ 0) ha'
  have hua : a / 2 ^ zerN a = 2 * u + 1 := by
    conv => lhs; arg 1; rw [hu]
    exact Nat.mul_div_cancel_left _ (Nat.two_pow_pos _)
  have hule : 2 * u + 1 ≤ a := by rw [← hua]; exact Nat.div_le_self _ _
  have hzb : b ≠ 0 → zerN b < 128 := fun h => (zerN_spec h hb').choose_spec.2
  refine FnSpec.enterP Tryz.func215 rfl Tryz.ntmps215 rfl fun w F => ?_
  repeat' first
    | ((with_reducible refine Nx.is_wp ?_); first | refine Nx.wo ?_ | refine Nx.p_drawF (id := 3) rfl [0, 2, 1] [1] [3, 4, 5] _ rfl rfl (by kernel_rfl) (by kernel_rfl) rfl PanicOk.auto (Ent.refl _) ?_ | refine Nx.p_drawF (id := 4) rfl [0, 1, 2] [2] [3, 4] _ rfl rfl (by kernel_rfl) (by kernel_rfl) rfl PanicOk.auto (Ent.refl _) ?_ | refine Nx.p_drawF (id := 6) rfl [0, 1, 2] [2] [3, 4] _ rfl rfl (by kernel_rfl) (by kernel_rfl) rfl PanicOk.auto (Ent.refl _) ?_ | refine Nx.zp (fun hc => ?_) (fun hc => ?_))
    | (refine Nx.zo ?_; first | refine Nx.opr rfl rfl ?_ | refine Nx.callv rfl rfl rfl (by kernel_rfl) rfl (zeros_spec _ ha' I hT) ?_ | refine Nx.callv rfl rfl rfl (by kernel_rfl) rfl (zeros_spec _ hb' I hT) ?_ | refine Nx.binr rfl rfl (eql_wide _ _ _ _) rfl ?_ | refine Nx.callv rfl rfl rfl (by kernel_rfl) rfl (frright_spec a (zerN a) hz ha' I) ?_ | refine Nx.so ?_ | refine Nx.sb (fun bx => ?_) | refine Nx.sa (fun A2 c2 => ?_))
    | refine Nx.za ?_ | refine Nx.zr (fun hc => ?_) (fun hc => ?_)
    | refine Nx.zq ?_ | refine Nx.zu (fun hc => ?_) (fun hc => ?_)
    | refine Nx.zx ?_ | fail
  · rw [zero_bool hwb, decide_eq_true_eq] at hc
    obtain rfl : b = 0 := by omega
    rw [Nat.gcd_zero_right]
    refine Nx.ret_cell 0 rfl rfl rfl rfl rfl rfl [] ⟨rfl, rfl⟩ ?_
    (exact Ent.auto)
  · rw [zero_bool hwb, decide_eq_false_iff_not] at hc
    rename_i ba bb
    have hb0 : b ≠ 0 := by omega
    have hzb := hzb hb0
    obtain ⟨v, hv, _⟩ := zerN_spec hb0 hb'
    have hgcd : Nat.gcd a b = 2 ^ (min (zerN a) (zerN b)) * Nat.gcd (2 * u + 1) b := by
      have h1 : Nat.gcd a b = 2 ^ (min (zerN a) (zerN b)) * Nat.gcd (2 * u + 1) (2 * v + 1) := by
        conv => lhs; rw [hu, hv]
        exact gcd_twos (by omega) (by omega)
      have h2 : Nat.gcd (2 * u + 1) b = Nat.gcd (2 * u + 1) (2 * v + 1) := by
        conv => lhs; rw [hv]
        exact gcd_odd (by omega)
      rw [h1, h2]
    have hgle : Nat.gcd a b ≤ a := Nat.le_of_dvd ha0 (Nat.gcd_dvd_left a b)
    rw [hua]
    refine Nx.p_loop (σ := Nat × Nat) (fun _ => [(5, .int .i64 (min (zerN a : Int) (zerN b : Int))), (4, .pointer (some ⟨bx, 0, none⟩)), (3, .pointer (some ⟨bb, 0, none⟩)), (2, .pointer (some ⟨ba, 0, none⟩))])
      (fun s => [Blk ba 200 (wideL (s.1 : Int)), Blk bb 200 (wideL (s.2 : Int)), Blk bx 200 [.int .u64 0, .int .u64 0], F])
      (fun s => s.1 < H127 ∧ s.2 < H127 ∧ s.1 % 2 = 1 ∧ Nat.gcd s.1 s.2 = Nat.gcd (2 * u + 1) b) (fun s => s.1 + s.2) (2 * u + 1, b) rfl ⟨by omega, hb, by omega, rfl⟩ ⟨rfl, rfl, rfl, rfl, trivial⟩ (by (exact Ent.auto)) ?_
    rintro ⟨x, y⟩ ⟨hx, hy, ho, hg⟩
    simp only at hx hy ho hg ⊢
    have hx' : x < 170141183460469231731687303715884105728 := hx
    have hy' : y < 170141183460469231731687303715884105728 := hy
    have hwy : InW (y : Int) := by unfold InW; omega
    by_cases h0 : y = 0
    · subst h0
      rw [Nat.gcd_zero_right] at hg
      subst hg
      rw [show min (zerN a : Int) (zerN b : Int) = ((min (zerN a) (zerN b) : Nat) : Int) by omega]
      have hlt : Nat.gcd (2 * u + 1) b * 2 ^ (min (zerN a) (zerN b)) < W128 := by rw [Nat.mul_comm, ← hgcd]; omega
      repeat' first
        | ((with_reducible refine Nx.is_wp ?_); first | refine Nx.wo ?_ | refine Nx.zp (fun hc => ?_) (fun hc => ?_))
        | (refine Nx.zo ?_; first | refine Nx.opr rfl rfl ?_ | refine Nx.binr rfl rfl (neq0 _ hwy) rfl ?_ | refine Nx.callv rfl rfl rfl (by kernel_rfl) rfl (left_spec _ _ (by omega) hlt I) ?_ | refine Nx.so ?_ | refine Nx.sb (fun bx => ?_) | refine Nx.sa (fun A2 c2 => ?_))
        | refine Nx.za ?_ | refine Nx.zr (fun hc => ?_) (fun hc => ?_)
        | refine Nx.zq ?_ | refine Nx.zu (fun hc => ?_) (fun hc => ?_)
        | refine Nx.zx ?_ | fail
      refine Nx.ret_cell 0 rfl rfl rfl rfl rfl rfl [] ⟨congrArg wideV ?_, rfl⟩ ?_
      · rw [hgcd, Nat.mul_comm]
      · (exact Ent.auto)
    · obtain ⟨m, hm1, hm2, hm3, hzy⟩ := gcd_mul_odd ho h0 (by unfold W128; omega)
      have hml : 2 * m + 1 ≤ y := by rw [← hm1]; exact Nat.div_le_self _ _
      have hr := frright_spec y (zerN y) hzy (by unfold W128; omega) I
      rw [hm1] at hr
      repeat' first
        | ((with_reducible refine Nx.is_wp ?_); first | refine Nx.wo ?_ | refine Nx.p_drawF (id := 3) rfl [0, 2, 1] [1] [3, 4, 5] _ rfl rfl (by kernel_rfl) (by kernel_rfl) rfl PanicOk.auto (Ent.refl _) ?_ | refine Nx.p_drawF (id := 4) rfl [0, 1, 2] [2] [3, 4] _ rfl rfl (by kernel_rfl) (by kernel_rfl) rfl PanicOk.auto (Ent.refl _) ?_ | refine Nx.p_drawF (id := 6) rfl [0, 1, 2] [2] [3, 4] _ rfl rfl (by kernel_rfl) (by kernel_rfl) rfl PanicOk.auto (Ent.refl _) ?_ | refine Nx.zp (fun hc => ?_) (fun hc => ?_))
        | (refine Nx.zo ?_; first | refine Nx.opr rfl rfl ?_ | refine Nx.callv rfl rfl rfl (by kernel_rfl) rfl (zeros_spec y (by unfold W128; omega) I hT) ?_ | refine Nx.binr rfl rfl (neq0 _ hwy) rfl ?_ | refine Nx.callv rfl rfl rfl (by kernel_rfl) rfl hr ?_ | refine Nx.callv rfl rfl rfl (by kernel_rfl) rfl (minus_spec _ _ I) ?_ | refine Nx.callv rfl rfl rfl (by kernel_rfl) rfl (sign_spec _ (by unfold InW; omega) I) ?_ | refine Nx.so ?_ | refine Nx.sb (fun bx => ?_) | refine Nx.sa (fun A2 c2 => ?_))
        | refine Nx.za ?_ | refine Nx.zr (fun hc => ?_) (fun hc => ?_)
        | refine Nx.zq ?_ | refine Nx.zu (fun hc => ?_) (fun hc => ?_)
        | refine Nx.zx ?_ | fail
      · have hlt : 2 * m + 1 < x := by
          have := Int.sign_neg_iff.1 hc
          omega
        refine Nx.again (2 * m + 1, x - (2 * m + 1)) ⟨by omega, by show x - (2 * m + 1) < H127; omega, by show (2 * m + 1) % 2 = 1; omega, ?_⟩ (by show 2 * m + 1 + (x - (2 * m + 1)) < x + y; omega) ⟨rfl, rfl, rfl, rfl, trivial⟩ ?_
        · show Nat.gcd (2 * m + 1) (x - (2 * m + 1)) = _
          rw [gcd_sub (by omega), Nat.gcd_comm, ← hm2, hg]
        · show Ent _ [Blk ba _ _, Blk bb _ (wideL ((x - (2 * m + 1) : Nat) : Int)), _, _]
          rw [show ((x - (2 * m + 1) : Nat) : Int) = (x : Int) - ((2 * m + 1 : Nat) : Int) by omega]
          exact Ent.pickE 1 rfl rfl (Ent.pickE 0 rfl rfl (by (exact Ent.auto)))
      · have hle : x ≤ 2 * m + 1 := by
          have : ¬ ((2 * m + 1 : Nat) : Int) - (x : Int) < 0 := fun h => hc (Int.sign_neg_iff.2 h)
          omega
        refine Nx.again (x, 2 * m + 1 - x) ⟨hx, by show 2 * m + 1 - x < H127; omega, ho, ?_⟩ (by show x + (2 * m + 1 - x) < x + y; omega) ⟨rfl, rfl, rfl, rfl, trivial⟩ ?_
        · show Nat.gcd x (2 * m + 1 - x) = _
          rw [gcd_sub hle, ← hm2, hg]
        · show Ent _ [Blk ba _ _, Blk bb _ (wideL ((2 * m + 1 - x : Nat) : Int)), _, _]
          rw [show ((2 * m + 1 - x : Nat) : Int) = ((2 * m + 1 : Nat) : Int) - (x : Int) by omega]
          exact Ent.pickE 1 rfl rfl (Ent.pickE 0 rfl rfl (by (exact Ent.auto)))
end Go.Proofs.YtpcnapidlhpbkaaGreatDoor
namespace Go.Eng
section
variable {P : Program} {t : TypeId} {x y : Operand} {p q : Int}
theorem run_remT (hq : q ≠ 0) : pureRun P (do eqGuard .rem t x y (.int .i64 p) (.int .i64 q); binOp .rem t (.int .i64 p) (.int .i64 q)) = some (.int .i64 (p.tmod q)) := by
  rw [eqGuard_rem, binOp_rem]
  unfold pureRun
  simp [Op.intDiv, hq]; rfl
end
def RB (q : Rat) : Prop := q.num.natAbs ≤ 1152921504606846976 ∧ q.den ≤ 1152921504606846976
instance (q : Rat) : Decidable (RB q) := by unfold RB; infer_instance
def FOk (n d : Int) : Prop := 1 ≤ d ∧ d ≤ 1152921504606846976 ∧ -1152921504606846976 ≤ n ∧ n ≤ 1152921504606846976 ∧ Nat.gcd n.natAbs d.natAbs = 1
instance (n d : Int) : Decidable (FOk n d) := by unfold FOk; infer_instance
def fracV (n d : Int) : Value := .agg #[.int .i64 n, .int .i64 d]
def ratV (q : Rat) : Value := fracV q.num q.den
def redN (q : Rat) : Int := if RB q then q.num else 0
def redD (q : Rat) : Int := if RB q then q.den else 0
def redE (q : Rat) : Int := if RB q then 0 else 14
def redV (q : Rat) : Value := .tuple #[.agg #[.int .i64 (redN q), .int .i64 (redD q)], .int .i64 (redE q)]
theorem redV_pos {q : Rat} (h : RB q) : redV q = .tuple #[ratV q, .int .i64 0] := by
  unfold redV redN redD redE
  rw [if_pos h, if_pos h, if_pos h]; rfl
theorem redV_neg {q : Rat} (h : ¬RB q) : redV q = .tuple #[fracV 0 0, .int .i64 14] := by
  unfold redV redN redD redE
  rw [if_neg h, if_neg h, if_neg h]; rfl
theorem FOk.rat {n d : Int} (h : FOk n d) : ∃ q : Rat, q.num = n ∧ (q.den : Int) = d ∧ RB q := by
  obtain ⟨h1, h2, h3, h4, h5⟩ := h
  refine ⟨⟨n, d.natAbs, by omega, h5⟩, rfl, ?_, ?_⟩
  · show ((d.natAbs : Nat) : Int) = d
    omega
  · show n.natAbs ≤ 1152921504606846976 ∧ d.natAbs ≤ 1152921504606846976
    omega
theorem RB.fok {q : Rat} (h : RB q) : FOk q.num q.den := by
  have h0 := q.den_pos
  have hr := q.reduced
  unfold RB at h
  refine ⟨by omega, by omega, by omega, by omega, ?_⟩
  rw [Int.natAbs_natCast]
  exact hr
theorem div_parts (z : Int) {D : Nat} (hD : 0 < D) : (Rat.divInt z D).den = D / Nat.gcd D z.natAbs ∧ (Rat.divInt z D).num.natAbs = z.natAbs / Nat.gcd D z.natAbs ∧ (Rat.divInt z D).num = ((z.natAbs / Nat.gcd D z.natAbs : Nat) : Int) * z.sign := by
  have hg : Int.gcd (D : Int) z = Nat.gcd D z.natAbs := rfl
  have hg0 : 0 < Nat.gcd D z.natAbs := Nat.gcd_pos_of_pos_left _ hD
  obtain ⟨k, hk⟩ := Nat.gcd_dvd_right D z.natAbs
  have hkd : z.natAbs / Nat.gcd D z.natAbs = k := by
    conv => lhs; arg 1; rw [hk]
    exact Nat.mul_div_cancel_left _ hg0
  have hs : (D : Int).sign = 1 := Int.sign_eq_one_of_pos (by omega)
  have hz : z = (Nat.gcd D z.natAbs : Int) * ((k : Int) * z.sign) := by
    have h1 : z = (z.natAbs : Int) * z.sign := by rw [Int.mul_comm]; exact (Int.sign_mul_natAbs z).symm
    conv => lhs; rw [h1, hk]
    rw [Int.natCast_mul, Int.mul_assoc]
  have hnum : (Rat.divInt z D).num = (k : Int) * z.sign := by
    rw [Rat.num_divInt, hs, Int.one_mul, hg]
    conv => lhs; arg 1; rw [hz]
    exact Int.mul_ediv_cancel_left _ (by omega)
  rw [hkd]
  refine ⟨?_, ?_, hnum⟩
  · rw [Rat.den_divInt, if_neg (by omega), hg, Int.natAbs_natCast]
  · rw [hnum, Int.natAbs_mul]
    by_cases h0 : z = 0
    · subst h0
      have : k = 0 := by
        rw [← hkd]; simp
      simp [this]
    · rw [Int.natAbs_sign_of_ne_zero h0]
      simp
def opV (n d m e : Int) (q : Rat) : Value := if FOk n d ∧ FOk m e then redV q else .tuple #[fracV 0 0, .int .i64 11]
theorem opV_congr {n d m e : Int} {p q : Rat} (h : FOk n d ∧ FOk m e → p = q) : opV n d m e p = opV n d m e q := by
  unfold opV
  split
  · rename_i h'; rw [h h']
  · rfl
def divV (n d m e : Int) : Value := if FOk n d ∧ FOk m e then (if m = 0 then .tuple #[fracV 0 0, .int .i64 18] else redV (Rat.divInt n d / Rat.divInt m e)) else .tuple #[fracV 0 0, .int .i64 11]
theorem rat_div_eq (n d m e : Int) : Rat.divInt n d / Rat.divInt m e = Rat.divInt (n * e) (d * m) := by
  rw [Rat.div_def, Rat.inv_divInt, Rat.divInt_mul_divInt]
end Go.Eng
namespace Go.Proofs.YtpcnapidlhpbkaaGreatDoor
open Go.Eng
attribute [local irreducible] opK wpList Code.wp Exit.then Exit.inBlock fnPost bodyPost Nx Calls Oper.wp Rd Rds Wr Ent Stars Blk Again Vec FnSpec wpMix QRun Stop Upto wpAt
set_option maxRecDepth 10000 in
theorem gcd_spec (a b : Int) (ha : a.natAbs ≤ 9223372036854775807) (hb : b.natAbs ≤ 9223372036854775807) (I : PH) : FnSpec Tryz.prog 100 [.int .i64 a, .int .i64 b] I [] (fun v R' => v = .int .i64 (Nat.gcd a.natAbs b.natAbs : Nat) ∧ R' = []) := by
  refine FnSpec.enterP Tryz.func100 rfl Tryz.ntmps100 rfl fun w F => ?_
  repeat' first
    | ((with_reducible refine Nx.is_wp ?_); first | refine Nx.wo ?_ | refine Nx.zp (fun hc => ?_) (fun hc => ?_))
    | (refine Nx.zo ?_; first | refine Nx.opr rfl rfl ?_ | refine Nx.so ?_ | refine Nx.sb (fun bx => ?_) | refine Nx.sa (fun A2 c2 => ?_))
    | refine Nx.za ?_ | refine Nx.zr (fun hc => ?_) (fun hc => ?_)
    | refine Nx.zq ?_ | refine Nx.zu (fun hc => ?_) (fun hc => ?_)
    | refine Nx.zx ?_ | fail
  refine Nx.p_loop (σ := Int × Int) (fun s => [(0, .int .i64 s.1), (1, .int .i64 s.2)]) (fun _ => [F]) (fun s => s.1.natAbs ≤ 9223372036854775807 ∧ s.2.natAbs ≤ 9223372036854775807 ∧ Nat.gcd s.1.natAbs s.2.natAbs = Nat.gcd a.natAbs b.natAbs) (fun s => s.2.natAbs) (a, b) rfl ⟨ha, hb, rfl⟩ ⟨rfl, rfl, trivial⟩ (Ent.refl _) ?_
  rintro ⟨x, y⟩ ⟨hx, hy, hg⟩
  simp only at hx hy hg ⊢
  by_cases h0 : y = 0
  · subst h0
    rw [Int.natAbs_zero, Nat.gcd_zero_right] at hg
    repeat' first
      | ((with_reducible refine Nx.is_wp ?_); first | refine Nx.wo ?_ | refine Nx.zp (fun hc => ?_) (fun hc => ?_))
      | (refine Nx.zo ?_; first | refine Nx.opr rfl rfl ?_ | refine Nx.so ?_ | refine Nx.sb (fun bx => ?_) | refine Nx.sa (fun A2 c2 => ?_))
      | refine Nx.za ?_ | refine Nx.zr (fun hc => ?_) (fun hc => ?_)
      | refine Nx.zq ?_ | refine Nx.zu (fun hc => ?_) (fun hc => ?_)
      | refine Nx.zx ?_ | fail
    exact Nx.ret_fn rfl [] ⟨by rw [← hg]; exact congrArg (Value.int .i64) (by omega), rfl⟩ (Ent.refl _)
  · have hm : (x.tmod y).natAbs = x.natAbs % y.natAbs := Int.natAbs_tmod x y
    have hlt : x.natAbs % y.natAbs < y.natAbs := Nat.mod_lt _ (by omega)
    repeat' first
      | ((with_reducible refine Nx.is_wp ?_); first | refine Nx.wo ?_ | refine Nx.p_drawF (id := 2) rfl [0, 1, 2, 3, 4, 5] [] [] _ rfl rfl (by kernel_rfl) (by kernel_rfl) rfl PanicOk.auto (Ent.refl _) ?_ | refine Nx.zp (fun hc => ?_) (fun hc => ?_))
      | (refine Nx.zo ?_; first | refine Nx.opr rfl rfl ?_ | refine Nx.so ?_ | refine Nx.sb (fun bx => ?_) | refine Nx.sa (fun A2 c2 => ?_))
      | refine Nx.za ?_ | refine Nx.zr (fun hc => ?_) (fun hc => ?_)
      | ((with_reducible refine Nx.is_mix ?_); first | refine Nx.m_quiet rfl rfl rfl rfl rfl (by first | exact QRun.opr rfl | exact QRun.bin rfl rfl (run_remT h0)) ?_ | refine Nx.m_quiet_do rfl rfl rfl rfl rfl rfl rfl (by first | exact QRun.opr rfl | exact QRun.bin rfl rfl (run_remT h0)) ?_ | refine Nx.m ?_ | refine Nx.zm ?_ | refine Nx.zt (fun hc => ?_) (fun hc => ?_))
      | refine Nx.zx ?_ | fail
    refine Nx.again (y, x.tmod y) ⟨hy, by show (x.tmod y).natAbs ≤ _; omega, ?_⟩ (by show (x.tmod y).natAbs < y.natAbs; omega) ⟨rfl, rfl, trivial⟩ (Ent.refl _)
    show Nat.gcd y.natAbs (x.tmod y).natAbs = _
    rw [hm, Nat.gcd_comm, ← Nat.gcd_rec, Nat.gcd_comm]
    exact hg
set_option maxRecDepth 10000 in
theorem divisor_spec (a b : Nat) (ha : a ≤ 9223372036854775807) (hb : b ≤ 9223372036854775807) (I : PH) : FnSpec Tryz.prog 107 [.int .i64 (a : Int), .int .i64 (b : Int)] I [] (fun v R' => v = .int .i64 (Nat.gcd a b : Nat) ∧ R' = []) := by
  refine FnSpec.enterP Tryz.func107 rfl Tryz.ntmps107 rfl fun w F => ?_
  repeat' first
    | ((with_reducible refine Nx.is_wp ?_); first | refine Nx.wo ?_ | refine Nx.zp (fun hc => ?_) (fun hc => ?_))
    | (refine Nx.zo ?_; first | refine Nx.opr rfl rfl ?_ | refine Nx.so ?_ | refine Nx.sb (fun bx => ?_) | refine Nx.sa (fun A2 c2 => ?_))
    | refine Nx.za ?_ | refine Nx.zr (fun hc => ?_) (fun hc => ?_)
    | refine Nx.zq ?_ | refine Nx.zu (fun hc => ?_) (fun hc => ?_)
    | refine Nx.zx ?_ | fail
  refine Nx.p_loop (σ := Nat × Nat) (fun s => [(0, .int .i64 (s.1 : Int)), (1, .int .i64 (s.2 : Int))]) (fun _ => [F]) (fun s => s.1 ≤ 9223372036854775807 ∧ s.2 ≤ 9223372036854775807 ∧ Nat.gcd s.1 s.2 = Nat.gcd a b) (fun s => s.2) (a, b) rfl ⟨ha, hb, rfl⟩ ⟨rfl, rfl, trivial⟩ (Ent.refl _) ?_
  rintro ⟨x, y⟩ ⟨hx, hy, hg⟩
  simp only at hx hy hg ⊢
  by_cases h0 : y = 0
  · subst h0
    rw [Nat.gcd_zero_right] at hg
    repeat' first
      | ((with_reducible refine Nx.is_wp ?_); first | refine Nx.wo ?_ | refine Nx.zp (fun hc => ?_) (fun hc => ?_))
      | (refine Nx.zo ?_; first | refine Nx.opr rfl rfl ?_ | refine Nx.so ?_ | refine Nx.sb (fun bx => ?_) | refine Nx.sa (fun A2 c2 => ?_))
      | refine Nx.za ?_ | refine Nx.zr (fun hc => ?_) (fun hc => ?_)
      | refine Nx.zq ?_ | refine Nx.zu (fun hc => ?_) (fun hc => ?_)
      | refine Nx.zx ?_ | fail
    exact Nx.ret_fn rfl [] ⟨by rw [← hg], rfl⟩ (Ent.refl _)
  · have hlt : x % y < y := Nat.mod_lt _ (by omega)
    repeat' first
      | ((with_reducible refine Nx.is_wp ?_); first | refine Nx.wo ?_ | refine Nx.p_drawF (id := 2) rfl [0, 1, 2, 3, 4, 5] [] [] _ rfl rfl (by kernel_rfl) (by kernel_rfl) rfl PanicOk.auto (Ent.refl _) ?_ | refine Nx.zp (fun hc => ?_) (fun hc => ?_))
      | (refine Nx.zo ?_; first | refine Nx.opr rfl rfl ?_ | refine Nx.so ?_ | refine Nx.sb (fun bx => ?_) | refine Nx.sa (fun A2 c2 => ?_))
      | refine Nx.za ?_ | refine Nx.zr (fun hc => ?_) (fun hc => ?_)
      | ((with_reducible refine Nx.is_mix ?_); first | refine Nx.m_quiet rfl rfl rfl rfl rfl (by first | exact QRun.opr rfl | exact QRun.bin rfl rfl (run_remT (by omega))) ?_ | refine Nx.m_quiet_do rfl rfl rfl rfl rfl rfl rfl (by first | exact QRun.opr rfl | exact QRun.bin rfl rfl (run_remT (by omega))) ?_ | refine Nx.m ?_ | refine Nx.zm ?_ | refine Nx.zt (fun hc => ?_) (fun hc => ?_))
      | refine Nx.zx ?_ | fail
    refine Nx.again (y, x % y) ⟨hy, by show x % y ≤ _; omega, ?_⟩ hlt ⟨rfl, by rw [Int.tmod_eq_emod_of_nonneg (by omega), ← Int.natCast_emod]; rfl, trivial⟩ (Ent.refl _)
    show Nat.gcd y (x % y) = _
    rw [Nat.gcd_comm, ← Nat.gcd_rec, Nat.gcd_comm]
    exact hg
set_option maxRecDepth 10000 in
theorem frValid_spec (n d : Int) (hn : I64 n) (hd : I64 d) (I : PH) : FnSpec Tryz.prog 43 [fracV n d] I [] (fun v R' => v = .bool (decide (FOk n d)) ∧ R' = []) := by
  unfold I64 at hn hd
  refine FnSpec.enterP Tryz.func43 rfl Tryz.ntmps43 rfl fun w F => ?_
  by_cases h : 1 ≤ d ∧ d ≤ 1152921504606846976 ∧ -1152921504606846976 ≤ n ∧ n ≤ 1152921504606846976
  · obtain ⟨h1, h2, h3, h4⟩ := h
    repeat' first
      | ((with_reducible refine Nx.is_wp ?_); first | refine Nx.wo ?_ | refine Nx.zp (fun hc => ?_) (fun hc => ?_))
      | (refine Nx.zo ?_; first | refine Nx.opr rfl rfl ?_ | refine Nx.callv rfl rfl rfl (by kernel_rfl) rfl (gcd_spec n d (by omega) (by omega) I) ?_ | refine Nx.so ?_ | refine Nx.sb (fun bx => ?_) | refine Nx.sa (fun A2 c2 => ?_))
      | refine Nx.za ?_ | refine Nx.zr (fun hc => ?_) (fun hc => ?_)
      | refine Nx.zq ?_ | refine Nx.zu (fun hc => ?_) (fun hc => ?_)
      | refine Nx.zx ?_ | fail
    refine Nx.ret_fn rfl [] ⟨bool_congr ?_, rfl⟩ (by (exact Ent.auto))
    unfold FOk
    constructor
    · intro h; exact ⟨h1, h2, h3, h4, by omega⟩
    · rintro ⟨_, _, _, _, h⟩; omega
  · have hno : decide (FOk n d) = false := decide_eq_false fun h' => h ⟨h'.1, h'.2.1, h'.2.2.1, h'.2.2.2.1⟩
    rw [hno]
    repeat' first
      | ((with_reducible refine Nx.is_wp ?_); first | refine Nx.wo ?_ | refine Nx.zp (fun hc => ?_) (fun hc => ?_))
      | (refine Nx.zo ?_; first | refine Nx.opr rfl rfl ?_ | refine Nx.so ?_ | refine Nx.sb (fun bx => ?_) | refine Nx.sa (fun A2 c2 => ?_))
      | refine Nx.za ?_ | refine Nx.zr (fun hc => ?_) (fun hc => ?_)
      | refine Nx.zq ?_ | refine Nx.zu (fun hc => ?_) (fun hc => ?_)
      | refine Nx.zx ?_ | fail
    all_goals first
      | exact Nx.ret_fn rfl [] ⟨rfl, rfl⟩ (by (exact Ent.auto))
      | skip
    all_goals trace_state
set_option maxRecDepth 10000 in
theorem rValid_spec (n d : Int) (hn : I64 n) (hd : I64 d) (I : PH) : FnSpec Tryz.prog 50 [fracV n d] I [] (fun v R' => v = .bool (decide (FOk n d)) ∧ R' = []) := by
  unfold I64 at hn hd
  refine FnSpec.enterP Tryz.func50 rfl Tryz.ntmps50 rfl fun w F => ?_
  by_cases h : 1 ≤ d ∧ d ≤ 1152921504606846976 ∧ -1152921504606846976 ≤ n ∧ n ≤ 1152921504606846976
  · obtain ⟨h1, h2, h3, h4⟩ := h
    repeat' first
      | ((with_reducible refine Nx.is_wp ?_); first | refine Nx.wo ?_ | refine Nx.zp (fun hc => ?_) (fun hc => ?_))
      | (refine Nx.zo ?_; first | refine Nx.opr rfl rfl ?_ | refine Nx.call (al := [.int .i64 ((d.natAbs : Nat) : Int), .int .i64 ((n.natAbs : Nat) : Int)]) (Rpre := []) rfl rfl (by rw [show ((d.natAbs : Nat) : Int) = d by omega, show ((n.natAbs : Nat) : Int) = max n (-n) by omega]; rfl) (by kernel_rfl) rfl (divisor_spec d.natAbs n.natAbs (by omega) (by omega) I) (Ent.refl _) ?_; rintro _ _ ⟨rfl, rfl⟩ | refine Nx.so ?_ | refine Nx.sb (fun bx => ?_) | refine Nx.sa (fun A2 c2 => ?_))
      | refine Nx.za ?_ | refine Nx.zr (fun hc => ?_) (fun hc => ?_)
      | refine Nx.zq ?_ | refine Nx.zu (fun hc => ?_) (fun hc => ?_)
      | refine Nx.zx ?_ | fail
    refine Nx.ret_fn rfl [] ⟨bool_congr ?_, rfl⟩ (by (exact Ent.auto))
    unfold FOk
    rw [Nat.gcd_comm n.natAbs]
    constructor
    · intro h; exact ⟨h1, h2, h3, h4, by omega⟩
    · rintro ⟨_, _, _, _, h⟩; omega
  · have hno : decide (FOk n d) = false := decide_eq_false fun h' => h ⟨h'.1, h'.2.1, h'.2.2.1, h'.2.2.2.1⟩
    rw [hno]
    repeat' first
      | ((with_reducible refine Nx.is_wp ?_); first | refine Nx.wo ?_ | refine Nx.zp (fun hc => ?_) (fun hc => ?_))
      | (refine Nx.zo ?_; first | refine Nx.opr rfl rfl ?_ | refine Nx.so ?_ | refine Nx.sb (fun bx => ?_) | refine Nx.sa (fun A2 c2 => ?_))
      | refine Nx.za ?_ | refine Nx.zr (fun hc => ?_) (fun hc => ?_)
      | refine Nx.zq ?_ | refine Nx.zu (fun hc => ?_) (fun hc => ?_)
      | refine Nx.zx ?_ | fail
    all_goals first
      | exact Nx.ret_fn rfl [] ⟨rfl, rfl⟩ (by (exact Ent.auto))
      | skip
    all_goals trace_state
end Go.Proofs.YtpcnapidlhpbkaaGreatDoor
namespace Go.Proofs.YtpcnapidlhpbkaaGreatDoor
open Go.Eng
attribute [local irreducible] opK wpList Code.wp Exit.then Exit.inBlock fnPost bodyPost Nx Calls Oper.wp Rd Rds Wr Ent Stars Blk Again Vec FnSpec wpMix QRun Stop Upto wpAt
theorem opp2 (z : Int) (I : PH) : FnSpec Tryz.prog 214 [wideV (-z)] I [] (fun v R' => v = wideV z ∧ R' = []) := by
  have := opposite_spec (-z) I
  rw [Int.neg_neg] at this
  exact this
theorem redV_ok {z : Int} {D : Nat} (hD : 0 < D) (h1 : z.natAbs / Nat.gcd D z.natAbs ≤ 1152921504606846976) (h2 : D / Nat.gcd D z.natAbs ≤ 1152921504606846976) :
    redV (Rat.divInt z D) = .tuple #[.agg #[.int .i64 (((z.natAbs / Nat.gcd D z.natAbs : Nat) : Int) * z.sign), .int .i64 ((D / Nat.gcd D z.natAbs : Nat) : Int)], .int .i64 0] := by
  obtain ⟨e1, e2, e3⟩ := div_parts z hD
  rw [redV_pos (by unfold RB; rw [e1, e2]; exact ⟨h1, h2⟩)]
  unfold ratV fracV
  rw [e1, e3]
theorem redV_no {z : Int} {D : Nat} (hD : 0 < D) (h : ¬ (z.natAbs / Nat.gcd D z.natAbs ≤ 1152921504606846976 ∧ D / Nat.gcd D z.natAbs ≤ 1152921504606846976)) :
    redV (Rat.divInt z D) = .tuple #[.agg #[.int .i64 0, .int .i64 0], .int .i64 14] := by
  obtain ⟨e1, e2, e3⟩ := div_parts z hD
  rw [redV_neg (by unfold RB; rw [e1, e2]; exact h)]
  rfl
attribute [local irreducible] wH wL
set_option maxRecDepth 10000 in
theorem Reduced_spec (n d : Int) (hn : n.natAbs < H127) (hd0 : d ≠ 0) (hd : d.natAbs < H127) (I : PH) (hT : TabI I) : FnSpec Tryz.prog 164 [wideV n, wideV d] I [] (fun v R' => v = redV (Rat.divInt n d) ∧ R' = []) := by
  have hn' : n.natAbs < 170141183460469231731687303715884105728 := hn
  have hd' : d.natAbs < 170141183460469231731687303715884105728 := hd
  by_cases hneg : d < 0
  · obtain ⟨D, rfl⟩ : ∃ D : Nat, d = -(D : Int) := ⟨d.natAbs, by omega⟩
    obtain ⟨z, rfl⟩ : ∃ z : Int, n = -z := ⟨-n, by omega⟩
    rw [Rat.neg_divInt_neg]
    have hD : 0 < D := by omega
    have hs : (-(D : Int)).sign < 0 := Int.sign_neg_iff.2 hneg
    have hg0 : 0 < Nat.gcd D z.natAbs := Nat.gcd_pos_of_pos_left _ hD
    have hgD : Nat.gcd D z.natAbs ≤ D := Nat.gcd_le_left _ hD
    refine FnSpec.enterP Tryz.func164 rfl Tryz.ntmps164 rfl fun w F => ?_
    repeat' first
      | ((with_reducible refine Nx.is_wp ?_); first | refine Nx.wo ?_ | refine Nx.p_drawF (id := 2) rfl [0, 2, 1] [1] [3, 4, 5] _ rfl rfl (by kernel_rfl) (by kernel_rfl) rfl PanicOk.auto (Ent.refl _) ?_ | refine Nx.p_poolF (id := 3) rfl [0, 1, 2, 3] [2, 3] [] [5] [5] [⟨4, 6, 200, _⟩] rfl rfl (by kernel_rfl) (by kernel_rfl) (by decide) (PoolFit.cons ⟨⟨_, _, _, rfl⟩, rfl, rfl⟩ PoolFit.nil) PanicOk.auto (Ent.refl _) ?_ | refine Nx.p_drawF (id := 4) rfl [0, 2, 1, 3, 4, 5, 6, 7, 8] [1, 3] [] _ rfl rfl (by kernel_rfl) (by kernel_rfl) rfl PanicOk.auto (Ent.refl _) ?_ | refine Nx.zp (fun hc => ?_) (fun hc => ?_))
      | ((first | refine Nx.at_op rfl rfl ?_ | refine Nx.m_loud rfl rfl rfl ?_ | refine Nx.at_do rfl rfl rfl rfl ?_ | refine Nx.m_loud_do rfl rfl rfl rfl rfl ?_ | refine GoodF.loud_ rfl rfl rfl rfl (fun ex X => ?_)); first | refine Nx.opr rfl rfl ?_ | refine Nx.callv rfl rfl rfl (by kernel_rfl) rfl (sign_spec (-(D : Int)) (by unfold InW; omega) I) ?_ | refine Nx.callv rfl rfl rfl (by kernel_rfl) rfl (opp2 _ I) ?_ | refine Nx.callv rfl rfl rfl (by kernel_rfl) rfl (size_spec z (by unfold InW; omega) I) ?_ | refine Nx.callv rfl rfl rfl (by kernel_rfl) rfl (common_spec D z.natAbs hD (by unfold H127; omega) (by unfold H127; omega) I hT) ?_ | refine Nx.call (Rpre := []) rfl rfl rfl (by kernel_rfl) rfl (over_spec z.natAbs _ (by unfold H127; omega) hg0 (by unfold H127; omega) I) (Ent.refl _) ?_; rintro _ _ ⟨q1, rfl, rfl, hq1, hb1, hb2⟩ | refine Nx.call (Rpre := []) rfl rfl rfl (by kernel_rfl) rfl (over_spec D _ (by unfold H127; omega) hg0 (by unfold H127; omega) I) (Ent.refl _) ?_; rintro _ _ ⟨q2, rfl, rfl, hq2, hb3, hb4⟩ | refine Nx.callv rfl rfl rfl (by kernel_rfl) rfl (sign_spec z (by unfold InW; omega) I) ?_ | refine Nx.mul rfl rfl (by rcases Int.sign_trichotomy z with h | h | h <;> rw [h] <;> unfold I64 <;> omega) rfl ?_ | refine Nx.so ?_ | refine Nx.sb (fun bx => ?_) | refine Nx.sa (fun A2 c2 => ?_))
      | refine Nx.za ?_ | refine Nx.zr (fun hc => ?_) (fun hc => ?_)
      | refine Nx.zq ?_ | refine Nx.zu (fun hc => ?_) (fun hc => ?_)
      | ((with_reducible refine GoodF.is ?_); first | refine GoodF.quiet rfl rfl rfl rfl rfl rfl (by first | exact QRun.opr rfl |  exact QRun.std) ?_ | refine GoodF.done1 rfl (fun bx => ?_) | refine GoodF.done2 rfl (fun bx by_ => ?_) | refine GoodF.done3 rfl (fun bx by_ bz => ?_))
      | ((fail_if_success (with_reducible refine Nx.is_at ?_)); (fail_if_success (with_reducible refine Nx.is_wp ?_)); (fail_if_success (with_reducible refine Nx.is_mix ?_)); first | refine Nx.ex ?_ | refine Nx.pool_nextF 0 rfl (by exact Ent.auto) ?_ | refine Nx.pool_nextF 1 rfl (by exact Ent.auto) ?_ | refine Nx.pool_nextF 2 rfl (by exact Ent.auto) ?_ | refine Nx.pool_nextF 3 rfl (by exact Ent.auto) ?_)
    · have hc : ¬ z.natAbs / Nat.gcd D z.natAbs ≤ 1152921504606846976 := by simpa using hc
      refine Nx.ret2 rfl (ROne.cell 0 rfl rfl rfl rfl rfl) (ROne.tmp rfl) [] ⟨?_, rfl⟩ (by (exact Ent.auto))
      rw [redV_no hD (fun h => hc h.1)]
    · have hc : ¬ D / Nat.gcd D z.natAbs ≤ 1152921504606846976 := by simpa using hc
      refine Nx.ret2 rfl (ROne.cell 0 rfl rfl rfl rfl rfl) (ROne.tmp rfl) [] ⟨?_, rfl⟩ (by (exact Ent.auto))
      rw [redV_no hD (fun h => hc h.2)]
    · rename_i hc0
      have hc0 : z.natAbs / Nat.gcd D z.natAbs ≤ 1152921504606846976 := by simpa using hc0
      have hc : D / Nat.gcd D z.natAbs ≤ 1152921504606846976 := by simpa using hc
      refine Nx.ret2 rfl (ROne.cell 0 rfl rfl rfl rfl rfl) (ROne.tmp rfl) [] ⟨?_, rfl⟩ (by (exact Ent.auto))
      rw [redV_ok hD hc0 hc, hq1 hc0, hq2 hc]
  · obtain ⟨D, rfl⟩ : ∃ D : Nat, d = (D : Int) := ⟨d.natAbs, by omega⟩
    obtain ⟨z, rfl⟩ : ∃ z : Int, z = n := ⟨n, rfl⟩
    have hD : 0 < D := by omega
    have hs : ¬ (D : Int).sign < 0 := fun h => hneg (Int.sign_neg_iff.1 h)
    have hg0 : 0 < Nat.gcd D z.natAbs := Nat.gcd_pos_of_pos_left _ hD
    have hgD : Nat.gcd D z.natAbs ≤ D := Nat.gcd_le_left _ hD
    refine FnSpec.enterP Tryz.func164 rfl Tryz.ntmps164 rfl fun w F => ?_
    repeat' first
      | ((with_reducible refine Nx.is_wp ?_); first | refine Nx.wo ?_ | refine Nx.p_drawF (id := 2) rfl [0, 2, 1] [1] [3, 4, 5] _ rfl rfl (by kernel_rfl) (by kernel_rfl) rfl PanicOk.auto (Ent.refl _) ?_ | refine Nx.p_poolF (id := 3) rfl [0, 1, 2, 3] [2, 3] [] [5] [5] [⟨4, 6, 200, _⟩] rfl rfl (by kernel_rfl) (by kernel_rfl) (by decide) (PoolFit.cons ⟨⟨_, _, _, rfl⟩, rfl, rfl⟩ PoolFit.nil) PanicOk.auto (Ent.refl _) ?_ | refine Nx.p_drawF (id := 4) rfl [0, 2, 1, 3, 4, 5, 6, 7, 8] [1, 3] [] _ rfl rfl (by kernel_rfl) (by kernel_rfl) rfl PanicOk.auto (Ent.refl _) ?_ | refine Nx.zp (fun hc => ?_) (fun hc => ?_))
      | ((first | refine Nx.at_op rfl rfl ?_ | refine Nx.m_loud rfl rfl rfl ?_ | refine Nx.at_do rfl rfl rfl rfl ?_ | refine Nx.m_loud_do rfl rfl rfl rfl rfl ?_ | refine GoodF.loud_ rfl rfl rfl rfl (fun ex X => ?_)); first | refine Nx.opr rfl rfl ?_ | refine Nx.callv rfl rfl rfl (by kernel_rfl) rfl (sign_spec (D : Int) (by unfold InW; omega) I) ?_ | refine Nx.callv rfl rfl rfl (by kernel_rfl) rfl (size_spec z (by unfold InW; omega) I) ?_ | refine Nx.callv rfl rfl rfl (by kernel_rfl) rfl (common_spec D z.natAbs hD (by unfold H127; omega) (by unfold H127; omega) I hT) ?_ | refine Nx.call (Rpre := []) rfl rfl rfl (by kernel_rfl) rfl (over_spec z.natAbs _ (by unfold H127; omega) hg0 (by unfold H127; omega) I) (Ent.refl _) ?_; rintro _ _ ⟨q1, rfl, rfl, hq1, hb1, hb2⟩ | refine Nx.call (Rpre := []) rfl rfl rfl (by kernel_rfl) rfl (over_spec D _ (by unfold H127; omega) hg0 (by unfold H127; omega) I) (Ent.refl _) ?_; rintro _ _ ⟨q2, rfl, rfl, hq2, hb3, hb4⟩ | refine Nx.callv rfl rfl rfl (by kernel_rfl) rfl (sign_spec z (by unfold InW; omega) I) ?_ | refine Nx.mul rfl rfl (by rcases Int.sign_trichotomy z with h | h | h <;> rw [h] <;> unfold I64 <;> omega) rfl ?_ | refine Nx.so ?_ | refine Nx.sb (fun bx => ?_) | refine Nx.sa (fun A2 c2 => ?_))
      | refine Nx.za ?_ | refine Nx.zr (fun hc => ?_) (fun hc => ?_)
      | refine Nx.zq ?_ | refine Nx.zu (fun hc => ?_) (fun hc => ?_)
      | ((with_reducible refine GoodF.is ?_); first | refine GoodF.quiet rfl rfl rfl rfl rfl rfl (by first | exact QRun.opr rfl |  exact QRun.std) ?_ | refine GoodF.done1 rfl (fun bx => ?_) | refine GoodF.done2 rfl (fun bx by_ => ?_) | refine GoodF.done3 rfl (fun bx by_ bz => ?_))
      | ((fail_if_success (with_reducible refine Nx.is_at ?_)); (fail_if_success (with_reducible refine Nx.is_wp ?_)); (fail_if_success (with_reducible refine Nx.is_mix ?_)); first | refine Nx.ex ?_ | refine Nx.pool_nextF 0 rfl (by exact Ent.auto) ?_ | refine Nx.pool_nextF 1 rfl (by exact Ent.auto) ?_ | refine Nx.pool_nextF 2 rfl (by exact Ent.auto) ?_ | refine Nx.pool_nextF 3 rfl (by exact Ent.auto) ?_)
    · have hc : ¬ z.natAbs / Nat.gcd D z.natAbs ≤ 1152921504606846976 := by simpa using hc
      refine Nx.ret2 rfl (ROne.cell 0 rfl rfl rfl rfl rfl) (ROne.tmp rfl) [] ⟨?_, rfl⟩ (by (exact Ent.auto))
      rw [redV_no hD (fun h => hc h.1)]
    · have hc : ¬ D / Nat.gcd D z.natAbs ≤ 1152921504606846976 := by simpa using hc
      refine Nx.ret2 rfl (ROne.cell 0 rfl rfl rfl rfl rfl) (ROne.tmp rfl) [] ⟨?_, rfl⟩ (by (exact Ent.auto))
      rw [redV_no hD (fun h => hc h.2)]
    · rename_i hc0
      have hc0 : z.natAbs / Nat.gcd D z.natAbs ≤ 1152921504606846976 := by simpa using hc0
      have hc : D / Nat.gcd D z.natAbs ≤ 1152921504606846976 := by simpa using hc
      refine Nx.ret2 rfl (ROne.cell 0 rfl rfl rfl rfl rfl) (ROne.tmp rfl) [] ⟨?_, rfl⟩ (by (exact Ent.auto))
      rw [redV_ok hD hc0 hc, hq1 hc0, hq2 hc]
theorem rminus0 (z : Int) (I : PH) : FnSpec Tryz.prog 59 [wideV 0, wideV (-z)] I [] (fun v R' => v = wideV z ∧ R' = []) := by
  have := rminus_spec 0 (-z) I
  rw [show (0 : Int) - -z = z by omega] at this
  exact this
end Go.Proofs.YtpcnapidlhpbkaaGreatDoor
namespace Go.Proofs.YtpcnapidlhpbkaaGreatDoor
open Go.Eng
attribute [local irreducible] opK wpList Code.wp Exit.then Exit.inBlock fnPost bodyPost Nx Calls Oper.wp Rd Rds Wr Ent Stars Blk Again Vec FnSpec wpMix QRun Stop Upto wpAt
theorem wide0 : wideV 0 = .agg #[.int .u64 0, .int .u64 0] := by unfold wideV wideL; rw [show wH 0 = 0 by decide, show wL 0 = 0 by decide]; rfl
theorem wideM : wideV ((1152921504606846976 : Nat) : Int) = .agg #[.int .u64 0, .int .u64 1152921504606846976] := by unfold wideV wideL; rw [show wH ((1152921504606846976 : Nat) : Int) = 0 by decide, show wL ((1152921504606846976 : Nat) : Int) = 1152921504606846976 by decide]; rfl
theorem wL_small {N : Nat} (h : N ≤ 1152921504606846976) : (wL (N : Int) : Int) = N := by rw [wL_nat]; omega
theorem I64_wL {N : Nat} (h : N ≤ 1152921504606846976) : I64 (wL (N : Int)) := by rw [wL_small h]; unfold I64; omega
theorem I64_nwL {N : Nat} (h : N ≤ 1152921504606846976) : I64 (-(wL (N : Int) : Int)) := by rw [wL_small h]; unfold I64; omega
attribute [local irreducible] wH wL
set_option maxRecDepth 10000 in
theorem Reduce_spec (n d : Int) (hn : n.natAbs < H127) (hd0 : d ≠ 0) (hd : d.natAbs < H127) (I : PH) : FnSpec Tryz.prog 108 [wideV n, wideV d] I [] (fun v R' => v = redV (Rat.divInt n d) ∧ R' = []) := by
  have hn' : n.natAbs < 170141183460469231731687303715884105728 := hn
  have hd' : d.natAbs < 170141183460469231731687303715884105728 := hd
  by_cases hneg : d < 0
  · obtain ⟨D, rfl⟩ : ∃ D : Nat, d = -(D : Int) := ⟨d.natAbs, by omega⟩
    obtain ⟨z, rfl⟩ : ∃ z : Int, n = -z := ⟨-n, by omega⟩
    rw [Rat.neg_divInt_neg]
    have hD : 0 < D := by omega
    have hg0 : 0 < Nat.gcd D z.natAbs := Nat.gcd_pos_of_pos_left _ hD
    have hgD : Nat.gcd D z.natAbs ≤ D := Nat.gcd_le_left _ hD
    have hN : z.natAbs / Nat.gcd D z.natAbs ≤ z.natAbs := Nat.div_le_self _ _
    have hE : D / Nat.gcd D z.natAbs ≤ D := Nat.div_le_self _ _
    refine FnSpec.enterP Tryz.func108 rfl Tryz.ntmps108 rfl fun w F => ?_
    repeat' first
      | ((with_reducible refine Nx.is_wp ?_); first | refine Nx.wo ?_ | refine Nx.p_drawF (id := 2) rfl [0, 1, 3, 4, 2] [2] [5, 6, 7] _ rfl rfl (by kernel_rfl) (by kernel_rfl) rfl PanicOk.auto (Ent.refl _) ?_ | refine Nx.zp (fun hc => ?_) (fun hc => ?_))
      | (refine Nx.zo ?_; first | refine Nx.opr rfl rfl ?_ | refine Nx.callv rfl rfl rfl (by kernel_rfl) rfl (negative_spec (-(D : Int)) (by unfold InW; omega) I) ?_ | refine Nx.callv rfl rfl rfl (by kernel_rfl) rfl (negative_spec z (by unfold InW; omega) I) ?_ | refine Nx.call (al := [wideV 0, wideV (-z)]) (Rpre := []) rfl rfl (by rw [wide0]; rfl) (by kernel_rfl) rfl (rminus0 z I) (Ent.refl _) ?_; rintro _ _ ⟨rfl, rfl⟩ | refine Nx.call (al := [wideV 0, wideV (-(D : Int))]) (Rpre := []) rfl rfl (by rw [wide0]; rfl) (by kernel_rfl) rfl (rminus0 D I) (Ent.refl _) ?_; rintro _ _ ⟨rfl, rfl⟩ | refine Nx.callv rfl rfl rfl (by kernel_rfl) rfl (rsize_spec z (by unfold InW; omega) I) ?_ | refine Nx.callv rfl rfl rfl (by kernel_rfl) rfl (rcommon_spec D z.natAbs (by unfold H127; omega) (by unfold H127; omega) I) ?_ | refine Nx.callv rfl rfl rfl (by kernel_rfl) rfl (Over_spec z.natAbs _ (by unfold H127; omega) hg0 (by unfold H127; omega) I) ?_ | refine Nx.callv rfl rfl rfl (by kernel_rfl) rfl (Over_spec D _ (by unfold H127; omega) hg0 (by unfold H127; omega) I) ?_ | refine Nx.call (al := [wideV ((1152921504606846976 : Nat) : Int), wideV ((z.natAbs / Nat.gcd D z.natAbs : Nat) : Int)]) (Rpre := []) rfl rfl (by rw [wideM]; rfl) (by kernel_rfl) rfl (belowN _ _ (by unfold W128; omega) (by unfold W128; omega) I) (Ent.refl _) ?_; rintro _ _ ⟨rfl, rfl⟩ | refine Nx.call (al := [wideV ((1152921504606846976 : Nat) : Int), wideV ((D / Nat.gcd D z.natAbs : Nat) : Int)]) (Rpre := []) rfl rfl (by rw [wideM]; rfl) (by kernel_rfl) rfl (belowN _ _ (by unfold W128; omega) (by unfold W128; omega) I) (Ent.refl _) ?_; rintro _ _ ⟨rfl, rfl⟩ | refine Nx.conv_i64 rfl rfl rfl (I64_wL (by omega)) rfl ?_ | refine Nx.neg rfl (I64_nwL (by omega)) rfl ?_ | refine Nx.so ?_ | refine Nx.sb (fun bx => ?_) | refine Nx.sa (fun A2 c2 => ?_))
      | refine Nx.za ?_ | refine Nx.zr (fun hc => ?_) (fun hc => ?_)
      | refine Nx.zq ?_ | refine Nx.zu (fun hc => ?_) (fun hc => ?_)
      | refine Nx.zx ?_ | fail
    · refine Nx.ret2 rfl (ROne.cell 0 rfl rfl rfl rfl rfl) (ROne.tmp rfl) [] ⟨?_, rfl⟩ (by (exact Ent.auto))
      rw [redV_no hD (fun h => by have := h.1; omega)]
    · refine Nx.ret2 rfl (ROne.cell 0 rfl rfl rfl rfl rfl) (ROne.tmp rfl) [] ⟨?_, rfl⟩ (by (exact Ent.auto))
      rw [redV_no hD (fun h => by have := h.2; omega)]
    · rename_i h1 h2
      refine Nx.ret2 rfl (ROne.cell 0 rfl rfl rfl rfl rfl) (ROne.tmp rfl) [] ⟨?_, rfl⟩ (by (exact Ent.auto))
      rw [redV_ok hD (by omega) (by omega), wL_small (by omega), wL_small (by omega), Int.sign_eq_neg_one_of_neg hc, Int.mul_neg_one]
    · rename_i h1 h2
      refine Nx.ret2 rfl (ROne.cell 0 rfl rfl rfl rfl rfl) (ROne.tmp rfl) [] ⟨?_, rfl⟩ (by (exact Ent.auto))
      rw [redV_ok hD (by omega) (by omega), wL_small (by omega), wL_small (by omega)]
      by_cases h0 : z = 0
      · subst h0; simp
      · rw [Int.sign_eq_one_of_pos (by omega), Int.mul_one]
  · obtain ⟨D, rfl⟩ : ∃ D : Nat, d = (D : Int) := ⟨d.natAbs, by omega⟩
    obtain ⟨z, rfl⟩ : ∃ z : Int, z = n := ⟨n, rfl⟩
    have hD : 0 < D := by omega
    have hg0 : 0 < Nat.gcd D z.natAbs := Nat.gcd_pos_of_pos_left _ hD
    have hgD : Nat.gcd D z.natAbs ≤ D := Nat.gcd_le_left _ hD
    have hN : z.natAbs / Nat.gcd D z.natAbs ≤ z.natAbs := Nat.div_le_self _ _
    have hE : D / Nat.gcd D z.natAbs ≤ D := Nat.div_le_self _ _
    refine FnSpec.enterP Tryz.func108 rfl Tryz.ntmps108 rfl fun w F => ?_
    repeat' first
      | ((with_reducible refine Nx.is_wp ?_); first | refine Nx.wo ?_ | refine Nx.p_drawF (id := 2) rfl [0, 1, 3, 4, 2] [2] [5, 6, 7] _ rfl rfl (by kernel_rfl) (by kernel_rfl) rfl PanicOk.auto (Ent.refl _) ?_ | refine Nx.zp (fun hc => ?_) (fun hc => ?_))
      | (refine Nx.zo ?_; first | refine Nx.opr rfl rfl ?_ | refine Nx.callv rfl rfl rfl (by kernel_rfl) rfl (negative_spec (D : Int) (by unfold InW; omega) I) ?_ | refine Nx.callv rfl rfl rfl (by kernel_rfl) rfl (negative_spec z (by unfold InW; omega) I) ?_ | refine Nx.callv rfl rfl rfl (by kernel_rfl) rfl (rsize_spec z (by unfold InW; omega) I) ?_ | refine Nx.callv rfl rfl rfl (by kernel_rfl) rfl (rcommon_spec D z.natAbs (by unfold H127; omega) (by unfold H127; omega) I) ?_ | refine Nx.callv rfl rfl rfl (by kernel_rfl) rfl (Over_spec z.natAbs _ (by unfold H127; omega) hg0 (by unfold H127; omega) I) ?_ | refine Nx.callv rfl rfl rfl (by kernel_rfl) rfl (Over_spec D _ (by unfold H127; omega) hg0 (by unfold H127; omega) I) ?_ | refine Nx.call (al := [wideV ((1152921504606846976 : Nat) : Int), wideV ((z.natAbs / Nat.gcd D z.natAbs : Nat) : Int)]) (Rpre := []) rfl rfl (by rw [wideM]; rfl) (by kernel_rfl) rfl (belowN _ _ (by unfold W128; omega) (by unfold W128; omega) I) (Ent.refl _) ?_; rintro _ _ ⟨rfl, rfl⟩ | refine Nx.call (al := [wideV ((1152921504606846976 : Nat) : Int), wideV ((D / Nat.gcd D z.natAbs : Nat) : Int)]) (Rpre := []) rfl rfl (by rw [wideM]; rfl) (by kernel_rfl) rfl (belowN _ _ (by unfold W128; omega) (by unfold W128; omega) I) (Ent.refl _) ?_; rintro _ _ ⟨rfl, rfl⟩ | refine Nx.conv_i64 rfl rfl rfl (I64_wL (by omega)) rfl ?_ | refine Nx.neg rfl (I64_nwL (by omega)) rfl ?_ | refine Nx.so ?_ | refine Nx.sb (fun bx => ?_) | refine Nx.sa (fun A2 c2 => ?_))
      | refine Nx.za ?_ | refine Nx.zr (fun hc => ?_) (fun hc => ?_)
      | refine Nx.zq ?_ | refine Nx.zu (fun hc => ?_) (fun hc => ?_)
      | refine Nx.zx ?_ | fail
    · refine Nx.ret2 rfl (ROne.cell 0 rfl rfl rfl rfl rfl) (ROne.tmp rfl) [] ⟨?_, rfl⟩ (by (exact Ent.auto))
      rw [redV_no hD (fun h => by have := h.1; omega)]
    · refine Nx.ret2 rfl (ROne.cell 0 rfl rfl rfl rfl rfl) (ROne.tmp rfl) [] ⟨?_, rfl⟩ (by (exact Ent.auto))
      rw [redV_no hD (fun h => by have := h.2; omega)]
    · rename_i h1 h2
      refine Nx.ret2 rfl (ROne.cell 0 rfl rfl rfl rfl rfl) (ROne.tmp rfl) [] ⟨?_, rfl⟩ (by (exact Ent.auto))
      rw [redV_ok hD (by omega) (by omega), wL_small (by omega), wL_small (by omega), Int.sign_eq_neg_one_of_neg hc, Int.mul_neg_one]
    · rename_i h1 h2
      refine Nx.ret2 rfl (ROne.cell 0 rfl rfl rfl rfl rfl) (ROne.tmp rfl) [] ⟨?_, rfl⟩ (by (exact Ent.auto))
      rw [redV_ok hD (by omega) (by omega), wL_small (by omega), wL_small (by omega)]
      by_cases h0 : z = 0
      · subst h0; simp
      · rw [Int.sign_eq_one_of_pos (by omega), Int.mul_one]
end Go.Proofs.YtpcnapidlhpbkaaGreatDoor
namespace Go.Proofs.YtpcnapidlhpbkaaGreatDoor
open Go.Eng
attribute [local irreducible] opK wpList Code.wp Exit.then Exit.inBlock fnPost bodyPost Nx Calls Oper.wp Rd Rds Wr Ent Stars Blk Again Vec FnSpec wpMix QRun Stop Upto wpAt
theorem Valid_t {n d : Int} (h : FOk n d) (I : PH) : FnSpec Tryz.prog 43 [fracV n d] I [] (fun v R' => v = .bool true ∧ R' = []) := by
  have := frValid_spec n d (by have := h.2.2.1; have := h.2.2.2.1; unfold I64; omega) (by have := h.1; have := h.2.1; unfold I64; omega) I
  rw [decide_eq_true h] at this; exact this
theorem Valid_f {n d : Int} (hn : I64 n) (hd : I64 d) (h : ¬FOk n d) (I : PH) : FnSpec Tryz.prog 43 [fracV n d] I [] (fun v R' => v = .bool false ∧ R' = []) := by
  have := frValid_spec n d hn hd I
  rw [decide_eq_false h] at this; exact this
theorem rValid_t {n d : Int} (h : FOk n d) (I : PH) : FnSpec Tryz.prog 50 [fracV n d] I [] (fun v R' => v = .bool true ∧ R' = []) := by
  have := rValid_spec n d (by have := h.2.2.1; have := h.2.2.2.1; unfold I64; omega) (by have := h.1; have := h.2.1; unfold I64; omega) I
  rw [decide_eq_true h] at this; exact this
theorem rValid_f {n d : Int} (hn : I64 n) (hd : I64 d) (h : ¬FOk n d) (I : PH) : FnSpec Tryz.prog 50 [fracV n d] I [] (fun v R' => v = .bool false ∧ R' = []) := by
  have := rValid_spec n d hn hd I
  rw [decide_eq_false h] at this; exact this
theorem prod_bd {a b : Int} (ha : a.natAbs ≤ 1152921504606846976) (hb : b.natAbs ≤ 1152921504606846976) : (a * b).natAbs ≤ 1329227995784915872903807060280344576 := by
  rw [Int.natAbs_mul]
  exact Nat.mul_le_mul ha hb
theorem fok_abs {n d : Int} (h : FOk n d) : n.natAbs ≤ 1152921504606846976 ∧ d.natAbs ≤ 1152921504606846976 ∧ 0 < d := by
  obtain ⟨h1, h2, h3, h4, _⟩ := h
  omega
theorem fok_i64 {n d : Int} (h : FOk n d) : I64 n ∧ I64 d := by
  obtain ⟨h1, h2, h3, h4, _⟩ := h
  unfold I64; omega
set_option maxRecDepth 10000 in
theorem crossed_spec (n d m e : Int) (hn : I64 n) (hd : I64 d) (hm : I64 m) (he : I64 e) (I : PH) : FnSpec Tryz.prog 168 [fracV n d, fracV m e] I [] (fun v R' => v = .tuple #[wideV (n * e), wideV (m * d)] ∧ R' = []) := by
  refine FnSpec.enterP Tryz.func168 rfl Tryz.ntmps168 rfl fun w F => ?_
  repeat' first
    | ((with_reducible refine Nx.is_wp ?_); first | refine Nx.wo ?_ | refine Nx.p_drawF (id := 1) rfl [0, 1, 3, 4, 7, 8, 10, 11, 2, 5, 6, 9] [2, 5, 6, 9] [12, 13, 14, 15] _ rfl rfl (by kernel_rfl) (by kernel_rfl) rfl PanicOk.auto (Ent.refl _) ?_ | refine Nx.zp (fun hc => ?_) (fun hc => ?_))
    | (refine Nx.zo ?_; first | refine Nx.opr rfl rfl ?_ | refine Nx.callv rfl rfl rfl (by kernel_rfl) rfl (whole_spec _ hn I) ?_ | refine Nx.callv rfl rfl rfl (by kernel_rfl) rfl (whole_spec _ hd I) ?_ | refine Nx.callv rfl rfl rfl (by kernel_rfl) rfl (whole_spec _ hm I) ?_ | refine Nx.callv rfl rfl rfl (by kernel_rfl) rfl (whole_spec _ he I) ?_ | refine Nx.callv rfl rfl rfl (by kernel_rfl) rfl (times_spec _ _ I) ?_ | refine Nx.so ?_ | refine Nx.sb (fun bx => ?_) | refine Nx.sa (fun A2 c2 => ?_))
    | refine Nx.za ?_ | refine Nx.zr (fun hc => ?_) (fun hc => ?_)
    | refine Nx.zq ?_ | refine Nx.zu (fun hc => ?_) (fun hc => ?_)
    | refine Nx.zx ?_ | fail
  exact Nx.ret2 rfl (ROne.cell 1 rfl rfl rfl rfl rfl) (ROne.cell 0 rfl rfl rfl rfl rfl) [] ⟨rfl, rfl⟩ (by (exact Ent.auto))
set_option maxRecDepth 10000 in
theorem combine_spec (n d m e : Int) (hn : I64 n) (hd : I64 d) (hm : I64 m) (he : I64 e) (I : PH) (hT : TabI I) (fo : FuncId) (f : Int → Int → Int) (hcal : callable Tryz.prog fo = true)
    (hf : ∀ a b, FnSpec Tryz.prog fo [wideV a, wideV b] I [] (fun v R' => v = wideV (f a b) ∧ R' = []))
    (hbd : ∀ a b : Int, a.natAbs ≤ 1329227995784915872903807060280344576 → b.natAbs ≤ 1329227995784915872903807060280344576 → (f a b).natAbs < H127) :
    FnSpec Tryz.prog 212 [fracV n d, fracV m e, .func (.func fo) #[] #[]] I [] (fun v R' => v = opV n d m e (Rat.divInt (f (n * e) (m * d)) (d * e)) ∧ R' = []) := by
  unfold opV
  by_cases h1 : FOk n d
  · by_cases h2 : FOk m e
    · obtain ⟨a1, a2, a3⟩ := fok_abs h1
      obtain ⟨b1, b2, b3⟩ := fok_abs h2
      rw [if_pos ⟨h1, h2⟩]
      have hde := prod_bd a2 b2
      have hpos : 0 < d * e := Int.mul_pos a3 b3
      refine FnSpec.enterP Tryz.func212 rfl Tryz.ntmps212 rfl fun w F => ?_
      repeat' first
        | ((with_reducible refine Nx.is_wp ?_); first | refine Nx.wo ?_ | refine Nx.p_drawF (id := 3) rfl [0, 1, 2, 7, 8, 10, 11, 3, 4, 5, 6, 9, 12, 13, 14, 15, 16] [3, 6, 9, 12, 13, 14] [17, 18] _ rfl rfl (by kernel_rfl) (by kernel_rfl) rfl PanicOk.auto (Ent.refl _) ?_ | refine Nx.zp (fun hc => ?_) (fun hc => ?_))
        | (refine Nx.zo ?_; first | refine Nx.opr rfl rfl ?_ | refine Nx.callv rfl rfl rfl (by kernel_rfl) rfl (Valid_t h1 I) ?_ | refine Nx.callv rfl rfl rfl (by kernel_rfl) rfl (Valid_t h2 I) ?_ | refine Nx.callv rfl rfl rfl (by kernel_rfl) rfl (crossed_spec n d m e hn hd hm he I) ?_ | refine Nx.callv rfl rfl rfl (by kernel_rfl) rfl (whole_spec _ hd I) ?_ | refine Nx.callv rfl rfl rfl (by kernel_rfl) rfl (whole_spec _ he I) ?_ | refine Nx.callv rfl rfl rfl (by kernel_rfl) rfl (times_spec _ _ I) ?_ | refine Nx.callv rfl rfl rfl (by kernel_rfl) rfl (Reduced_spec _ _ (hbd _ _ (prod_bd a1 b2) (prod_bd b1 a2)) (by omega) (by unfold H127; omega) I hT) ?_ | refine Nx.callv rfl rfl rfl hcal rfl (hf _ _) ?_ | refine Nx.so ?_ | refine Nx.sb (fun bx => ?_) | refine Nx.sa (fun A2 c2 => ?_))
        | refine Nx.za ?_ | refine Nx.zr (fun hc => ?_) (fun hc => ?_)
        | refine Nx.zq ?_ | refine Nx.zu (fun hc => ?_) (fun hc => ?_)
        | refine Nx.zx ?_ | fail
      exact Nx.ret2 rfl (ROne.cell 0 rfl rfl rfl rfl rfl) (ROne.tmp rfl) [] ⟨rfl, rfl⟩ (by (exact Ent.auto))
    · rw [if_neg (fun h => h2 h.2)]
      refine FnSpec.enterP Tryz.func212 rfl Tryz.ntmps212 rfl fun w F => ?_
      repeat' first
        | ((with_reducible refine Nx.is_wp ?_); first | refine Nx.wo ?_ | refine Nx.zp (fun hc => ?_) (fun hc => ?_))
        | (refine Nx.zo ?_; first | refine Nx.opr rfl rfl ?_ | refine Nx.callv rfl rfl rfl (by kernel_rfl) rfl (Valid_t h1 I) ?_ | refine Nx.callv rfl rfl rfl (by kernel_rfl) rfl (Valid_f hm he h2 I) ?_ | refine Nx.so ?_ | refine Nx.sb (fun bx => ?_) | refine Nx.sa (fun A2 c2 => ?_))
        | refine Nx.za ?_ | refine Nx.zr (fun hc => ?_) (fun hc => ?_)
        | refine Nx.zq ?_ | refine Nx.zu (fun hc => ?_) (fun hc => ?_)
        | refine Nx.zx ?_ | fail
      exact Nx.ret2 rfl (ROne.cell 0 rfl rfl rfl rfl rfl) (ROne.tmp rfl) [] ⟨rfl, rfl⟩ (by (exact Ent.auto))
  · rw [if_neg (fun h => h1 h.1)]
    refine FnSpec.enterP Tryz.func212 rfl Tryz.ntmps212 rfl fun w F => ?_
    repeat' first
      | ((with_reducible refine Nx.is_wp ?_); first | refine Nx.wo ?_ | refine Nx.zp (fun hc => ?_) (fun hc => ?_))
      | (refine Nx.zo ?_; first | refine Nx.opr rfl rfl ?_ | refine Nx.callv rfl rfl rfl (by kernel_rfl) rfl (Valid_f hn hd h1 I) ?_ | refine Nx.so ?_ | refine Nx.sb (fun bx => ?_) | refine Nx.sa (fun A2 c2 => ?_))
      | refine Nx.za ?_ | refine Nx.zr (fun hc => ?_) (fun hc => ?_)
      | refine Nx.zq ?_ | refine Nx.zu (fun hc => ?_) (fun hc => ?_)
      | refine Nx.zx ?_ | fail
    exact Nx.ret2 rfl (ROne.cell 0 rfl rfl rfl rfl rfl) (ROne.tmp rfl) [] ⟨rfl, rfl⟩ (by (exact Ent.auto))
end Go.Proofs.YtpcnapidlhpbkaaGreatDoor
namespace Go.Proofs.YtpcnapidlhpbkaaGreatDoor
open Go.Eng
attribute [local irreducible] opK wpList Code.wp Exit.then Exit.inBlock fnPost bodyPost Nx Calls Oper.wp Rd Rds Wr Ent Stars Blk Again Vec FnSpec wpMix QRun Stop Upto wpAt
theorem add_mul_bd {a b : Int} (ha : a.natAbs ≤ 1329227995784915872903807060280344576) (hb : b.natAbs ≤ 1329227995784915872903807060280344576) : (a + b).natAbs < H127 ∧ (a - b).natAbs < H127 := by
  unfold H127; omega
set_option maxRecDepth 10000 in
theorem Add_spec (n d m e : Int) (hn : I64 n) (hd : I64 d) (hm : I64 m) (he : I64 e) (I : PH) (hT : TabI I) : FnSpec Tryz.prog 163 [fracV n d, fracV m e] I [] (fun v R' => v = opV n d m e (Rat.divInt n d + Rat.divInt m e) ∧ R' = []) := by
  have hc := combine_spec n d m e hn hd hm he I hT 213 (fun a b => a + b) (by kernel_rfl) (fun a b => plus_spec a b I) (fun a b ha hb => (add_mul_bd ha hb).1)
  rw [show opV n d m e (Rat.divInt ((fun a b : Int => a + b) (n * e) (m * d)) (d * e)) = opV n d m e (Rat.divInt n d + Rat.divInt m e) from opV_congr fun h => by
    rw [Rat.divInt_add_divInt _ _ (by have := h.1.1; omega) (by have := h.2.1; omega)]] at hc
  refine FnSpec.enterP Tryz.func163 rfl Tryz.ntmps163 rfl fun w F => ?_
  by_cases h : FOk n d ∧ FOk m e
  · unfold opV at *
    rw [if_pos h] at *
    repeat' first
      | ((with_reducible refine Nx.is_wp ?_); first | refine Nx.wo ?_ | refine Nx.zp (fun hc => ?_) (fun hc => ?_))
      | (refine Nx.zo ?_; first | refine Nx.opr rfl rfl ?_ | refine Nx.callv rfl rfl rfl (by kernel_rfl) rfl (hc) ?_ | refine Nx.so ?_ | refine Nx.sb (fun bx => ?_) | refine Nx.sa (fun A2 c2 => ?_))
      | refine Nx.za ?_ | refine Nx.zr (fun hc => ?_) (fun hc => ?_)
      | refine Nx.zq ?_ | refine Nx.zu (fun hc => ?_) (fun hc => ?_)
      | refine Nx.zx ?_ | fail
    exact Nx.ret2 rfl (ROne.cell 0 rfl rfl rfl rfl rfl) (ROne.tmp rfl) [] ⟨rfl, rfl⟩ (by (exact Ent.auto))
  · unfold opV at *
    rw [if_neg h] at *
    repeat' first
      | ((with_reducible refine Nx.is_wp ?_); first | refine Nx.wo ?_ | refine Nx.zp (fun hc => ?_) (fun hc => ?_))
      | (refine Nx.zo ?_; first | refine Nx.opr rfl rfl ?_ | refine Nx.callv rfl rfl rfl (by kernel_rfl) rfl (hc) ?_ | refine Nx.so ?_ | refine Nx.sb (fun bx => ?_) | refine Nx.sa (fun A2 c2 => ?_))
      | refine Nx.za ?_ | refine Nx.zr (fun hc => ?_) (fun hc => ?_)
      | refine Nx.zq ?_ | refine Nx.zu (fun hc => ?_) (fun hc => ?_)
      | refine Nx.zx ?_ | fail
    exact Nx.ret2 rfl (ROne.cell 0 rfl rfl rfl rfl rfl) (ROne.tmp rfl) [] ⟨rfl, rfl⟩ (by (exact Ent.auto))
set_option maxRecDepth 10000 in
theorem Sub_spec (n d m e : Int) (hn : I64 n) (hd : I64 d) (hm : I64 m) (he : I64 e) (I : PH) (hT : TabI I) : FnSpec Tryz.prog 221 [fracV n d, fracV m e] I [] (fun v R' => v = opV n d m e (Rat.divInt n d - Rat.divInt m e) ∧ R' = []) := by
  have hc := combine_spec n d m e hn hd hm he I hT 169 (fun a b => a - b) (by kernel_rfl) (fun a b => minus_spec a b I) (fun a b ha hb => (add_mul_bd ha hb).2)
  rw [show opV n d m e (Rat.divInt ((fun a b : Int => a - b) (n * e) (m * d)) (d * e)) = opV n d m e (Rat.divInt n d - Rat.divInt m e) from opV_congr fun h => by
    rw [Rat.divInt_sub_divInt _ _ (by have := h.1.1; omega) (by have := h.2.1; omega)]] at hc
  refine FnSpec.enterP Tryz.func221 rfl Tryz.ntmps221 rfl fun w F => ?_
  by_cases h : FOk n d ∧ FOk m e
  · unfold opV at *
    rw [if_pos h] at *
    repeat' first
      | ((with_reducible refine Nx.is_wp ?_); first | refine Nx.wo ?_ | refine Nx.zp (fun hc => ?_) (fun hc => ?_))
      | (refine Nx.zo ?_; first | refine Nx.opr rfl rfl ?_ | refine Nx.callv rfl rfl rfl (by kernel_rfl) rfl (hc) ?_ | refine Nx.so ?_ | refine Nx.sb (fun bx => ?_) | refine Nx.sa (fun A2 c2 => ?_))
      | refine Nx.za ?_ | refine Nx.zr (fun hc => ?_) (fun hc => ?_)
      | refine Nx.zq ?_ | refine Nx.zu (fun hc => ?_) (fun hc => ?_)
      | refine Nx.zx ?_ | fail
    exact Nx.ret2 rfl (ROne.cell 0 rfl rfl rfl rfl rfl) (ROne.tmp rfl) [] ⟨rfl, rfl⟩ (by (exact Ent.auto))
  · unfold opV at *
    rw [if_neg h] at *
    repeat' first
      | ((with_reducible refine Nx.is_wp ?_); first | refine Nx.wo ?_ | refine Nx.zp (fun hc => ?_) (fun hc => ?_))
      | (refine Nx.zo ?_; first | refine Nx.opr rfl rfl ?_ | refine Nx.callv rfl rfl rfl (by kernel_rfl) rfl (hc) ?_ | refine Nx.so ?_ | refine Nx.sb (fun bx => ?_) | refine Nx.sa (fun A2 c2 => ?_))
      | refine Nx.za ?_ | refine Nx.zr (fun hc => ?_) (fun hc => ?_)
      | refine Nx.zq ?_ | refine Nx.zu (fun hc => ?_) (fun hc => ?_)
      | refine Nx.zx ?_ | fail
    exact Nx.ret2 rfl (ROne.cell 0 rfl rfl rfl rfl rfl) (ROne.tmp rfl) [] ⟨rfl, rfl⟩ (by (exact Ent.auto))
set_option maxRecDepth 10000 in
theorem Mul_spec (n d m e : Int) (hn : I64 n) (hd : I64 d) (hm : I64 m) (he : I64 e) (I : PH) (hT : TabI I) : FnSpec Tryz.prog 104 [fracV n d, fracV m e] I [] (fun v R' => v = opV n d m e (Rat.divInt n d * Rat.divInt m e) ∧ R' = []) := by
  unfold opV
  by_cases h1 : FOk n d
  · by_cases h2 : FOk m e
    · obtain ⟨a1, a2, a3⟩ := fok_abs h1
      obtain ⟨b1, b2, b3⟩ := fok_abs h2
      rw [if_pos ⟨h1, h2⟩, Rat.divInt_mul_divInt]
      have hde := prod_bd a2 b2
      have hnm := prod_bd a1 b1
      have hpos : 0 < d * e := Int.mul_pos a3 b3
      refine FnSpec.enterP Tryz.func104 rfl Tryz.ntmps104 rfl fun w F => ?_
      repeat' first
        | ((with_reducible refine Nx.is_wp ?_); first | refine Nx.wo ?_ | refine Nx.p_drawF (id := 3) rfl [0, 1, 3, 4, 7, 8, 10, 11, 2, 5, 6, 9, 12, 13, 14, 15, 16] [2, 5, 6, 9, 12, 13, 14] [17, 18] _ rfl rfl (by kernel_rfl) (by kernel_rfl) rfl PanicOk.auto (Ent.refl _) ?_ | refine Nx.zp (fun hc => ?_) (fun hc => ?_))
        | (refine Nx.zo ?_; first | refine Nx.opr rfl rfl ?_ | refine Nx.callv rfl rfl rfl (by kernel_rfl) rfl (Valid_t h1 I) ?_ | refine Nx.callv rfl rfl rfl (by kernel_rfl) rfl (Valid_t h2 I) ?_ | refine Nx.callv rfl rfl rfl (by kernel_rfl) rfl (whole_spec _ hn I) ?_ | refine Nx.callv rfl rfl rfl (by kernel_rfl) rfl (whole_spec _ hd I) ?_ | refine Nx.callv rfl rfl rfl (by kernel_rfl) rfl (whole_spec _ hm I) ?_ | refine Nx.callv rfl rfl rfl (by kernel_rfl) rfl (whole_spec _ he I) ?_ | refine Nx.callv rfl rfl rfl (by kernel_rfl) rfl (times_spec _ _ I) ?_ | refine Nx.callv rfl rfl rfl (by kernel_rfl) rfl (Reduced_spec _ _ (by unfold H127; omega) (by omega) (by unfold H127; omega) I hT) ?_ | refine Nx.so ?_ | refine Nx.sb (fun bx => ?_) | refine Nx.sa (fun A2 c2 => ?_))
        | refine Nx.za ?_ | refine Nx.zr (fun hc => ?_) (fun hc => ?_)
        | refine Nx.zq ?_ | refine Nx.zu (fun hc => ?_) (fun hc => ?_)
        | refine Nx.zx ?_ | fail
      exact Nx.ret2 rfl (ROne.cell 0 rfl rfl rfl rfl rfl) (ROne.tmp rfl) [] ⟨rfl, rfl⟩ (by (exact Ent.auto))
    · rw [if_neg (fun h => h2 h.2)]
      refine FnSpec.enterP Tryz.func104 rfl Tryz.ntmps104 rfl fun w F => ?_
      repeat' first
        | ((with_reducible refine Nx.is_wp ?_); first | refine Nx.wo ?_ | refine Nx.zp (fun hc => ?_) (fun hc => ?_))
        | (refine Nx.zo ?_; first | refine Nx.opr rfl rfl ?_ | refine Nx.callv rfl rfl rfl (by kernel_rfl) rfl (Valid_t h1 I) ?_ | refine Nx.callv rfl rfl rfl (by kernel_rfl) rfl (Valid_f hm he h2 I) ?_ | refine Nx.so ?_ | refine Nx.sb (fun bx => ?_) | refine Nx.sa (fun A2 c2 => ?_))
        | refine Nx.za ?_ | refine Nx.zr (fun hc => ?_) (fun hc => ?_)
        | refine Nx.zq ?_ | refine Nx.zu (fun hc => ?_) (fun hc => ?_)
        | refine Nx.zx ?_ | fail
      exact Nx.ret2 rfl (ROne.cell 0 rfl rfl rfl rfl rfl) (ROne.tmp rfl) [] ⟨rfl, rfl⟩ (by (exact Ent.auto))
  · rw [if_neg (fun h => h1 h.1)]
    refine FnSpec.enterP Tryz.func104 rfl Tryz.ntmps104 rfl fun w F => ?_
    repeat' first
      | ((with_reducible refine Nx.is_wp ?_); first | refine Nx.wo ?_ | refine Nx.zp (fun hc => ?_) (fun hc => ?_))
      | (refine Nx.zo ?_; first | refine Nx.opr rfl rfl ?_ | refine Nx.callv rfl rfl rfl (by kernel_rfl) rfl (Valid_f hn hd h1 I) ?_ | refine Nx.so ?_ | refine Nx.sb (fun bx => ?_) | refine Nx.sa (fun A2 c2 => ?_))
      | refine Nx.za ?_ | refine Nx.zr (fun hc => ?_) (fun hc => ?_)
      | refine Nx.zq ?_ | refine Nx.zu (fun hc => ?_) (fun hc => ?_)
      | refine Nx.zx ?_ | fail
    exact Nx.ret2 rfl (ROne.cell 0 rfl rfl rfl rfl rfl) (ROne.tmp rfl) [] ⟨rfl, rfl⟩ (by (exact Ent.auto))
set_option maxRecDepth 10000 in
theorem Div_spec (n d m e : Int) (hn : I64 n) (hd : I64 d) (hm : I64 m) (he : I64 e) (I : PH) (hT : TabI I) : FnSpec Tryz.prog 220 [fracV n d, fracV m e] I [] (fun v R' => v = divV n d m e ∧ R' = []) := by
  unfold divV
  by_cases h1 : FOk n d
  · by_cases h2 : FOk m e
    · obtain ⟨a1, a2, a3⟩ := fok_abs h1
      obtain ⟨b1, b2, b3⟩ := fok_abs h2
      rw [if_pos ⟨h1, h2⟩]
      by_cases h0 : m = 0
      · rw [if_pos h0]
        subst h0
        refine FnSpec.enterP Tryz.func220 rfl Tryz.ntmps220 rfl fun w F => ?_
        repeat' first
          | ((with_reducible refine Nx.is_wp ?_); first | refine Nx.wo ?_ | refine Nx.zp (fun hc => ?_) (fun hc => ?_))
          | (refine Nx.zo ?_; first | refine Nx.opr rfl rfl ?_ | refine Nx.callv rfl rfl rfl (by kernel_rfl) rfl (Valid_t h1 I) ?_ | refine Nx.callv rfl rfl rfl (by kernel_rfl) rfl (Valid_t h2 I) ?_ | refine Nx.so ?_ | refine Nx.sb (fun bx => ?_) | refine Nx.sa (fun A2 c2 => ?_))
          | refine Nx.za ?_ | refine Nx.zr (fun hc => ?_) (fun hc => ?_)
          | refine Nx.zq ?_ | refine Nx.zu (fun hc => ?_) (fun hc => ?_)
          | refine Nx.zx ?_ | fail
        exact Nx.ret2 rfl (ROne.cell 0 rfl rfl rfl rfl rfl) (ROne.tmp rfl) [] ⟨rfl, rfl⟩ (by (exact Ent.auto))
      · rw [if_neg h0, rat_div_eq, Int.mul_comm d m]
        have hmd := prod_bd b1 a2
        rw [Int.mul_comm] at hmd
        have hne := prod_bd a1 b2
        have hnz : m * d ≠ 0 := Int.mul_ne_zero (by omega) (by omega)
        refine FnSpec.enterP Tryz.func220 rfl Tryz.ntmps220 rfl fun w F => ?_
        repeat' first
          | ((with_reducible refine Nx.is_wp ?_); first | refine Nx.wo ?_ | refine Nx.zp (fun hc => ?_) (fun hc => ?_))
          | (refine Nx.zo ?_; first | refine Nx.opr rfl rfl ?_ | refine Nx.callv rfl rfl rfl (by kernel_rfl) rfl (Valid_t h1 I) ?_ | refine Nx.callv rfl rfl rfl (by kernel_rfl) rfl (Valid_t h2 I) ?_ | refine Nx.callv rfl rfl rfl (by kernel_rfl) rfl (crossed_spec n d m e hn hd hm he I) ?_ | refine Nx.callv rfl rfl rfl (by kernel_rfl) rfl (whole_spec _ hn I) ?_ | refine Nx.callv rfl rfl rfl (by kernel_rfl) rfl (whole_spec _ hd I) ?_ | refine Nx.callv rfl rfl rfl (by kernel_rfl) rfl (whole_spec _ hm I) ?_ | refine Nx.callv rfl rfl rfl (by kernel_rfl) rfl (whole_spec _ he I) ?_ | refine Nx.callv rfl rfl rfl (by kernel_rfl) rfl (times_spec _ _ I) ?_ | refine Nx.callv rfl rfl rfl (by kernel_rfl) rfl (Reduced_spec _ _ (by unfold H127; omega) hnz (by unfold H127; first | omega | (rw [Int.mul_comm]; omega)) I hT) ?_ | refine Nx.so ?_ | refine Nx.sb (fun bx => ?_) | refine Nx.sa (fun A2 c2 => ?_))
          | refine Nx.za ?_ | refine Nx.zr (fun hc => ?_) (fun hc => ?_)
          | refine Nx.zq ?_ | refine Nx.zu (fun hc => ?_) (fun hc => ?_)
          | refine Nx.zx ?_ | fail
        exact Nx.ret2 rfl (ROne.cell 0 rfl rfl rfl rfl rfl) (ROne.tmp rfl) [] ⟨rfl, rfl⟩ (by (exact Ent.auto))
    · rw [if_neg (fun h => h2 h.2)]
      refine FnSpec.enterP Tryz.func220 rfl Tryz.ntmps220 rfl fun w F => ?_
      repeat' first
        | ((with_reducible refine Nx.is_wp ?_); first | refine Nx.wo ?_ | refine Nx.zp (fun hc => ?_) (fun hc => ?_))
        | (refine Nx.zo ?_; first | refine Nx.opr rfl rfl ?_ | refine Nx.callv rfl rfl rfl (by kernel_rfl) rfl (Valid_t h1 I) ?_ | refine Nx.callv rfl rfl rfl (by kernel_rfl) rfl (Valid_f hm he h2 I) ?_ | refine Nx.so ?_ | refine Nx.sb (fun bx => ?_) | refine Nx.sa (fun A2 c2 => ?_))
        | refine Nx.za ?_ | refine Nx.zr (fun hc => ?_) (fun hc => ?_)
        | refine Nx.zq ?_ | refine Nx.zu (fun hc => ?_) (fun hc => ?_)
        | refine Nx.zx ?_ | fail
      exact Nx.ret2 rfl (ROne.cell 0 rfl rfl rfl rfl rfl) (ROne.tmp rfl) [] ⟨rfl, rfl⟩ (by (exact Ent.auto))
  · rw [if_neg (fun h => h1 h.1)]
    refine FnSpec.enterP Tryz.func220 rfl Tryz.ntmps220 rfl fun w F => ?_
    repeat' first
      | ((with_reducible refine Nx.is_wp ?_); first | refine Nx.wo ?_ | refine Nx.zp (fun hc => ?_) (fun hc => ?_))
      | (refine Nx.zo ?_; first | refine Nx.opr rfl rfl ?_ | refine Nx.callv rfl rfl rfl (by kernel_rfl) rfl (Valid_f hn hd h1 I) ?_ | refine Nx.so ?_ | refine Nx.sb (fun bx => ?_) | refine Nx.sa (fun A2 c2 => ?_))
      | refine Nx.za ?_ | refine Nx.zr (fun hc => ?_) (fun hc => ?_)
      | refine Nx.zq ?_ | refine Nx.zu (fun hc => ?_) (fun hc => ?_)
      | refine Nx.zx ?_ | fail
    exact Nx.ret2 rfl (ROne.cell 0 rfl rfl rfl rfl rfl) (ROne.tmp rfl) [] ⟨rfl, rfl⟩ (by (exact Ent.auto))
set_option maxRecDepth 10000 in
theorem Less_spec (n d m e : Int) (hn : I64 n) (hd : I64 d) (hm : I64 m) (he : I64 e) (I : PH) : FnSpec Tryz.prog 106 [fracV n d, fracV m e] I [] (fun v R' => v = .bool (decide (FOk n d ∧ FOk m e ∧ n * e < m * d)) ∧ R' = []) := by
  by_cases h1 : FOk n d
  · by_cases h2 : FOk m e
    · obtain ⟨a1, a2, a3⟩ := fok_abs h1
      obtain ⟨b1, b2, b3⟩ := fok_abs h2
      rw [show decide (FOk n d ∧ FOk m e ∧ n * e < m * d) = decide (n * e < m * d) from decide_eq_decide.2 ⟨fun h => h.2.2, fun h => ⟨h1, h2, h⟩⟩]
      have hmd := prod_bd b1 a2
      have hne := prod_bd a1 b2
      have hw : InW (n * e - m * d) := by unfold InW; omega
      refine FnSpec.enterP Tryz.func106 rfl Tryz.ntmps106 rfl fun w F => ?_
      repeat' first
        | ((with_reducible refine Nx.is_wp ?_); first | refine Nx.wo ?_ | refine Nx.zp (fun hc => ?_) (fun hc => ?_))
        | (refine Nx.zo ?_; first | refine Nx.opr rfl rfl ?_ | refine Nx.callv rfl rfl rfl (by kernel_rfl) rfl (Valid_t h1 I) ?_ | refine Nx.callv rfl rfl rfl (by kernel_rfl) rfl (Valid_t h2 I) ?_ | refine Nx.callv rfl rfl rfl (by kernel_rfl) rfl (crossed_spec n d m e hn hd hm he I) ?_ | refine Nx.callv rfl rfl rfl (by kernel_rfl) rfl (whole_spec _ hn I) ?_ | refine Nx.callv rfl rfl rfl (by kernel_rfl) rfl (whole_spec _ hd I) ?_ | refine Nx.callv rfl rfl rfl (by kernel_rfl) rfl (whole_spec _ hm I) ?_ | refine Nx.callv rfl rfl rfl (by kernel_rfl) rfl (whole_spec _ he I) ?_ | refine Nx.callv rfl rfl rfl (by kernel_rfl) rfl (times_spec _ _ I) ?_ | refine Nx.callv rfl rfl rfl (by kernel_rfl) rfl (minus_spec _ _ I) ?_ | refine Nx.callv rfl rfl rfl (by kernel_rfl) rfl (sign_spec _ hw I) ?_ | refine Nx.so ?_ | refine Nx.sb (fun bx => ?_) | refine Nx.sa (fun A2 c2 => ?_))
        | refine Nx.za ?_ | refine Nx.zr (fun hc => ?_) (fun hc => ?_)
        | refine Nx.zq ?_ | refine Nx.zu (fun hc => ?_) (fun hc => ?_)
        | refine Nx.zx ?_ | fail
      all_goals refine Nx.ret_fn rfl [] ⟨bool_congr ?_, rfl⟩ (by (exact Ent.auto))
      all_goals first
        | (rw [Int.sign_neg_iff]; omega)
        | omega
    · rw [decide_eq_false (fun h => h2 h.2.1)]
      refine FnSpec.enterP Tryz.func106 rfl Tryz.ntmps106 rfl fun w F => ?_
      repeat' first
        | ((with_reducible refine Nx.is_wp ?_); first | refine Nx.wo ?_ | refine Nx.zp (fun hc => ?_) (fun hc => ?_))
        | (refine Nx.zo ?_; first | refine Nx.opr rfl rfl ?_ | refine Nx.callv rfl rfl rfl (by kernel_rfl) rfl (crossed_spec n d m e hn hd hm he I) ?_ | refine Nx.callv rfl rfl rfl (by kernel_rfl) rfl (Valid_t h1 I) ?_ | refine Nx.callv rfl rfl rfl (by kernel_rfl) rfl (Valid_f hm he h2 I) ?_ | refine Nx.so ?_ | refine Nx.sb (fun bx => ?_) | refine Nx.sa (fun A2 c2 => ?_))
        | refine Nx.za ?_ | refine Nx.zr (fun hc => ?_) (fun hc => ?_)
        | refine Nx.zq ?_ | refine Nx.zu (fun hc => ?_) (fun hc => ?_)
        | refine Nx.zx ?_ | fail
      exact Nx.ret_fn rfl [] ⟨rfl, rfl⟩ (by (exact Ent.auto))
  · rw [decide_eq_false (fun h => h1 h.1)]
    refine FnSpec.enterP Tryz.func106 rfl Tryz.ntmps106 rfl fun w F => ?_
    repeat' first
      | ((with_reducible refine Nx.is_wp ?_); first | refine Nx.wo ?_ | refine Nx.zp (fun hc => ?_) (fun hc => ?_))
      | (refine Nx.zo ?_; first | refine Nx.opr rfl rfl ?_ | refine Nx.callv rfl rfl rfl (by kernel_rfl) rfl (crossed_spec n d m e hn hd hm he I) ?_ | refine Nx.callv rfl rfl rfl (by kernel_rfl) rfl (Valid_f hn hd h1 I) ?_ | refine Nx.so ?_ | refine Nx.sb (fun bx => ?_) | refine Nx.sa (fun A2 c2 => ?_))
      | refine Nx.za ?_ | refine Nx.zr (fun hc => ?_) (fun hc => ?_)
      | refine Nx.zq ?_ | refine Nx.zu (fun hc => ?_) (fun hc => ?_)
      | refine Nx.zx ?_ | fail
    exact Nx.ret_fn rfl [] ⟨rfl, rfl⟩ (by (exact Ent.auto))
end Go.Proofs.YtpcnapidlhpbkaaGreatDoor
namespace Go.Eng
open Go.Sort (grow)
section
variable {P : Program} {t : TypeId} {x y : Operand} {a b : List UInt8}
theorem run_booleq {t : TypeId} {x y : Operand} (ht : P.underlying t = some .bool) (b c : Bool) (w : World) : (do eqGuard .eql t x y (.bool b) (.bool c); binOp .eql t (.bool b) (.bool c)).run P w = .ok (.bool (b == c)) w := by
  rw [eqGuard_at_bool]
  show (do pure (Value.bool (← Op.equal t (.bool b) (.bool c))) : Sem Value).run P w = _
  rw [Sem.run_bind, run_equal_bool w t b c ht]; rfl
theorem run_boolne {t : TypeId} {x y : Operand} (ht : P.underlying t = some .bool) (b c : Bool) (w : World) : (do eqGuard .neq t x y (.bool b) (.bool c); binOp .neq t (.bool b) (.bool c)).run P w = .ok (.bool (!(b == c))) w := by
  rw [eqGuard_at_bool]
  show (do pure (Value.bool (!(← Op.equal t (.bool b) (.bool c)))) : Sem Value).run P w = _
  rw [Sem.run_bind, run_equal_bool w t b c ht]; rfl
end
end Go.Eng
namespace Go.Proofs.YtpcnapidlhpbkaaGreatDoor
open Go.Eng
theorem part_frac0 (a b : Int) (w : World) : (part 3 #[.int .i64 a, .int .i64 b] 0).run Tryz.prog w = .ok (.int .i64 a) w := run_of_pureRun (by kernel_rfl) w
theorem part_frac1 (a b : Int) (w : World) : (part 3 #[.int .i64 a, .int .i64 b] 1).run Tryz.prog w = .ok (.int .i64 b) w := run_of_pureRun (by kernel_rfl) w
theorem eqFields_frac (a b c d : Int) (w : World) (fs : List Field) (hf : fs.map (fun f => (f.name, f.type, f.offset)) = [("Num", 3, 0), ("Den", 3, 1)]) :
    (Op.eqFields 9999 #[.int .i64 a, .int .i64 b] #[.int .i64 c, .int .i64 d] fs).run Tryz.prog w = .ok (a == c && b == d) w := by
  obtain ⟨f, g, rfl⟩ : ∃ f g, fs = [f, g] := by
    rcases fs with _ | ⟨f, _ | ⟨g, _ | ⟨k, r⟩⟩⟩
    · simp at hf
    · simp at hf
    · exact ⟨f, g, rfl⟩
    · simp at hf
  · simp only [List.map_cons, List.map_nil, List.cons.injEq, Prod.mk.injEq, and_true] at hf
    obtain ⟨⟨h1, h2, h3⟩, h4, h5, h6⟩ := hf
    simp only [Op.eqFields, h1, h2, h3, h4, h5, h6]
    rw [if_pos (by decide), if_pos (by decide), Sem.run_bind, part_frac0, Result.andThen_ok, Sem.run_bind, part_frac0, Result.andThen_ok, Sem.run_bind, run_equalIn_int _ 9998 _ .i64 .i64 a c Tryz.underlying3, Result.andThen_ok]
    cases (a == c)
    · rfl
    · rw [if_neg (by decide), Sem.run_bind, part_frac1, Result.andThen_ok, Sem.run_bind, part_frac1, Result.andThen_ok, Sem.run_bind, run_equalIn_int _ 9998 _ .i64 .i64 b d Tryz.underlying3, Result.andThen_ok]
      cases (b == d) <;> rfl
theorem frac_bool (a b c d : Int) : (a == c && b == d) = decide (a = c ∧ b = d) := by
  rw [Bool.eq_iff_iff]
  simp
theorem eql_frac {x y : Operand} (a b c d : Int) (w : World) :
    (do eqGuard .eql 24 x y (.agg #[.int .i64 a, .int .i64 b]) (.agg #[.int .i64 c, .int .i64 d]); binOp .eql 24 (.agg #[.int .i64 a, .int .i64 b]) (.agg #[.int .i64 c, .int .i64 d])).run Tryz.prog w = .ok (.bool (decide (a = c ∧ b = d))) w := by
  rw [Sem.run_bind, run_eqGuard_agg _ _ _ _ _ _ _ Tryz.eqGuardType24, Result.andThen_ok, run_eql_struct, run_equalIn_struct _ 9999 24 _ _ (by kernel_rfl) Tryz.stoodInHeld24,
    eqFields_frac a b c d w _ (by kernel_rfl), frac_bool]
  rfl
theorem neq_frac {x y : Operand} (a b c d : Int) (w : World) :
    (do eqGuard .neq 24 x y (.agg #[.int .i64 a, .int .i64 b]) (.agg #[.int .i64 c, .int .i64 d]); binOp .neq 24 (.agg #[.int .i64 a, .int .i64 b]) (.agg #[.int .i64 c, .int .i64 d])).run Tryz.prog w = .ok (.bool (decide (¬(a = c ∧ b = d)))) w := by
  rw [Sem.run_bind, run_eqGuard_agg _ _ _ _ _ _ _ Tryz.eqGuardType24, Result.andThen_ok, run_neq_struct, run_equalIn_struct _ 9999 24 _ _ (by kernel_rfl) Tryz.stoodInHeld24,
    eqFields_frac a b c d w _ (by kernel_rfl), frac_bool, show decide (¬(a = c ∧ b = d)) = !decide (a = c ∧ b = d) by simp]
  rfl
end Go.Proofs.YtpcnapidlhpbkaaGreatDoor
namespace Go.Proofs.YtpcnapidlhpbkaaGreatDoor
open Go.Eng
attribute [local irreducible] opK wpList Code.wp Exit.then Exit.inBlock fnPost bodyPost Nx Calls Oper.wp Rd Rds Wr Ent Stars Blk Again Vec FnSpec wpMix QRun Stop Upto wpAt
end Go.Proofs.YtpcnapidlhpbkaaGreatDoor
