/-
  The proof engine, part R: fractions as rational numbers.
-/
import Derived.Test.YtaoeapmdhpkidaaEngW
namespace Go.Eng
section
variable {P : Program} {t : TypeId} {x y : Operand} {p q : Int}
theorem run_remT (hq : q ≠ 0) : pureRun P (do eqGuard .rem t x y (.int .i64 p) (.int .i64 q); binOp .rem t (.int .i64 p) (.int .i64 q)) = some (.int .i64 (p.tmod q)) := by
  rw [eqGuard_rem, binOp_rem]
  unfold pureRun
  simp [Op.intDiv, hq]; rfl
theorem run_quoT (hq : q ≠ 0) (hr : I64 (p.tdiv q)) : pureRun P (do eqGuard .quo t x y (.int .i64 p) (.int .i64 q); binOp .quo t (.int .i64 p) (.int .i64 q)) = some (.int .i64 (p.tdiv q)) := by
  rw [eqGuard_quo, binOp_quo]
  have hw : IntKind.i64.wrap (p.tdiv q) = p.tdiv q := wrap_i64 hr
  unfold pureRun
  simp [Op.intDiv, hq, hw]; rfl
end
/-- 2^60 -/
abbrev M60 : Nat := 1152921504606846976
/-- A fraction's two numbers, not too large. -/
def RB (q : Rat) : Prop := q.num.natAbs ≤ 1152921504606846976 ∧ q.den ≤ 1152921504606846976
instance (q : Rat) : Decidable (RB q) := by unfold RB; infer_instance
def FOk (n d : Int) : Prop := 1 ≤ d ∧ d ≤ 1152921504606846976 ∧ -1152921504606846976 ≤ n ∧ n ≤ 1152921504606846976 ∧ Nat.gcd n.natAbs d.natAbs = 1
instance (n d : Int) : Decidable (FOk n d) := by unfold FOk; infer_instance
def fracV (n d : Int) : Value := .agg #[.int .i64 n, .int .i64 d]
def ratV (q : Rat) : Value := fracV q.num q.den
/-- What an operation returns: the fraction, or the error. -/
def redN (q : Rat) : Int := if RB q then q.num else 0
def redD (q : Rat) : Int := if RB q then q.den else 0
def redE (q : Rat) : Int := if RB q then 0 else 14
def redV (q : Rat) : Value := .tuple #[.agg #[.int .i64 (redN q), .int .i64 (redD q)], .int .i64 (redE q)]
theorem redV_pos {q : Rat} (h : RB q) : redV q = .tuple #[ratV q, .int .i64 0] := by
  unfold redV redN redD redE
  rw [if_pos h, if_pos h, if_pos h]; rfl
theorem redV_neg {q : Rat} (h : ¬RB q) : redV q = .tuple #[fracV 0 0, .int .i64 14] := by
  unfold redV redN redD redE
  rw [if_neg h, if_neg h, if_neg h]; rfl
theorem FOk.rat {n d : Int} (h : FOk n d) : ∃ q : Rat, q.num = n ∧ (q.den : Int) = d ∧ RB q := by
  obtain ⟨h1, h2, h3, h4, h5⟩ := h
  refine ⟨⟨n, d.natAbs, by omega, h5⟩, rfl, ?_, ?_⟩
  · show ((d.natAbs : Nat) : Int) = d
    omega
  · show n.natAbs ≤ 1152921504606846976 ∧ d.natAbs ≤ 1152921504606846976
    omega
theorem RB.fok {q : Rat} (h : RB q) : FOk q.num q.den := by
  have h0 := q.den_pos
  have hr := q.reduced
  unfold RB at h
  refine ⟨by omega, by omega, by omega, by omega, ?_⟩
  rw [Int.natAbs_natCast]
  exact hr
/-- Num and Den of a fraction whose denominator is positive. -/
theorem div_parts (z : Int) {D : Nat} (hD : 0 < D) : (Rat.divInt z D).den = D / Nat.gcd D z.natAbs ∧ (Rat.divInt z D).num.natAbs = z.natAbs / Nat.gcd D z.natAbs ∧ (Rat.divInt z D).num = ((z.natAbs / Nat.gcd D z.natAbs : Nat) : Int) * z.sign := by
  have hg : Int.gcd (D : Int) z = Nat.gcd D z.natAbs := rfl
  have hg0 : 0 < Nat.gcd D z.natAbs := Nat.gcd_pos_of_pos_left _ hD
  obtain ⟨k, hk⟩ := Nat.gcd_dvd_right D z.natAbs
  have hkd : z.natAbs / Nat.gcd D z.natAbs = k := by
    conv => lhs; arg 1; rw [hk]
    exact Nat.mul_div_cancel_left _ hg0
  have hs : (D : Int).sign = 1 := Int.sign_eq_one_of_pos (by omega)
  have hz : z = (Nat.gcd D z.natAbs : Int) * ((k : Int) * z.sign) := by
    have h1 : z = (z.natAbs : Int) * z.sign := by rw [Int.mul_comm]; exact (Int.sign_mul_natAbs z).symm
    conv => lhs; rw [h1, hk]
    rw [Int.natCast_mul, Int.mul_assoc]
  have hnum : (Rat.divInt z D).num = (k : Int) * z.sign := by
    rw [Rat.num_divInt, hs, Int.one_mul, hg]
    conv => lhs; arg 1; rw [hz]
    exact Int.mul_ediv_cancel_left _ (by omega)
  rw [hkd]
  refine ⟨?_, ?_, hnum⟩
  · rw [Rat.den_divInt, if_neg (by omega), hg, Int.natAbs_natCast]
  · rw [hnum, Int.natAbs_mul]
    by_cases h0 : z = 0
    · subst h0
      have : k = 0 := by
        rw [← hkd]; simp
      simp [this]
    · rw [Int.natAbs_sign_of_ne_zero h0]
      simp
/-- An operation on valid fractions, or the error. -/
def opV (n d m e : Int) (q : Rat) : Value := if FOk n d ∧ FOk m e then redV q else .tuple #[fracV 0 0, .int .i64 11]
theorem opV_congr {n d m e : Int} {p q : Rat} (h : FOk n d ∧ FOk m e → p = q) : opV n d m e p = opV n d m e q := by
  unfold opV
  split
  · rename_i h'; rw [h h']
  · rfl
def divV (n d m e : Int) : Value := if FOk n d ∧ FOk m e then (if m = 0 then .tuple #[fracV 0 0, .int .i64 18] else redV (Rat.divInt n d / Rat.divInt m e)) else .tuple #[fracV 0 0, .int .i64 11]
def ofV (n d : Int) : Value := if d = 0 then .tuple #[fracV 0 0, .int .i64 18] else redV (Rat.divInt n d)
theorem rat_div_eq (n d m e : Int) : Rat.divInt n d / Rat.divInt m e = Rat.divInt (n * e) (d * m) := by
  rw [Rat.div_def, Rat.inv_divInt, Rat.divInt_mul_divInt]
theorem floor_parts (n : Int) {d : Int} (hd : 0 < d) : (n.tmod d < 0 → n.tdiv d - 1 = n / d) ∧ (¬ n.tmod d < 0 → n.tdiv d = n / d) ∧ ((n.tdiv d).natAbs ≤ n.natAbs) := by
  have h1 := Int.mul_tdiv_add_tmod n d
  have h2 : (n.tmod d).natAbs < d.natAbs := by rw [Int.natAbs_tmod]; exact Nat.mod_lt _ (by omega)
  have h3 : (n.tdiv d).natAbs ≤ n.natAbs := by rw [Int.natAbs_tdiv]; exact Nat.div_le_self _ _
  refine ⟨fun h => ?_, fun h => ?_, h3⟩
  · refine ((Int.ediv_emod_unique hd).2 ⟨?_, ?_, ?_⟩ : n / d = n.tdiv d - 1 ∧ n % d = n.tmod d + d).1.symm
    · rw [Int.mul_sub]; omega
    · omega
    · omega
  · refine ((Int.ediv_emod_unique hd).2 ⟨?_, ?_, ?_⟩ : n / d = n.tdiv d ∧ n % d = n.tmod d).1.symm
    · omega
    · omega
    · omega
end Go.Eng
