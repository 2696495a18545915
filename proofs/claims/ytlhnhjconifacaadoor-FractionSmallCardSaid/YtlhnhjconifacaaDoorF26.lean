/- Contracts of functions of the given program, and lemmas about plain lists and numbers: what the laws of this seat lean on. -/
import Derived.Test.YtlhnhjconifacaaDoorF25
namespace Go.Proofs.YtlhnhjconifacaaDoor
open Go.Eng
attribute [local irreducible] opK wpList Code.wp Exit.then Exit.inBlock fnPost bodyPost Nx Calls Oper.wp Rd Rds Wr Ent Stars Blk Again Vec FnSpec wpMix QRun Stop Upto wpAt
theorem rat_cross (n d : Int) (h0 : d ≠ 0) : (Rat.divInt n d).num * d = n * (Rat.divInt n d).den := by
  have hz : ((Rat.divInt n d).den : Int) ≠ 0 := by have := (Rat.divInt n d).den_pos; omega
  have := (Rat.divInt_eq_divInt_iff h0 hz).1 (Rat.num_divInt_den (Rat.divInt n d)).symm
  exact this.symm
theorem rat_less {n d m e : Int} (hd : 0 < d) (he : 0 < e) : Rat.divInt n d < Rat.divInt m e ↔ n * e < m * d := by
  have h1 : (0 : Rat) < (d : Rat) := Rat.intCast_pos.2 hd
  have h2 : (0 : Rat) < (e : Rat) := Rat.intCast_pos.2 he
  rw [Rat.divInt_eq_div, Rat.divInt_eq_div, Rat.div_lt_iff h1, Rat.div_def, Rat.mul_assoc, Rat.mul_comm _ (d : Rat), ← Rat.mul_assoc, ← Rat.div_def, Rat.lt_div_iff h2, ← Rat.intCast_mul, ← Rat.intCast_mul, Rat.intCast_lt_intCast]
theorem mul_abs {x y : Int} {p q : Nat} (hx : x.natAbs ≤ p) (hy : y.natAbs ≤ q) : (x * y).natAbs ≤ p * q := by
  rw [Int.natAbs_mul]; exact Nat.mul_le_mul hx hy
theorem abs_i64 {x : Int} {p : Nat} (hx : x.natAbs ≤ p) (hp : p ≤ 9223372036854775807) : I64 x := by unfold I64; omega
set_option maxHeartbeats 16000000 in
theorem FractionSmall_spec (a b p q : Int) (ha : -32768 ≤ a ∧ a < 32768) (hb : -32768 ≤ b ∧ b < 32768) (hp : 0 ≤ p ∧ p < 256) (hq : 0 ≤ q ∧ q < 256) (I : PH) (hT : TabI I) (hN : TenI I) :
    FnSpec Tryd.prog 5 [.int .i16 a, .int .i16 b, .int .u8 p, .int .u8 q] I [] (fun v R' => v = .bool true ∧ R' = []) := by
  have hAw := awake_spec I hT hN
  have hu : 1 ≤ p + 1 ∧ p + 1 ≤ 256 := by omega
  have hv : 1 ≤ q + 1 ∧ q + 1 ≤ 256 := by omega
  obtain ⟨r1, e1⟩ := ofV_ok a (p + 1) (by omega) (by omega)
  obtain ⟨r2, e2⟩ := ofV_ok b (q + 1) (by omega) (by omega)
  have hO1 := Of_spec a (p + 1) (by unfold I64; omega) (by unfold I64; omega) I hT
  have hO2 := Of_spec b (q + 1) (by unfold I64; omega) (by unfold I64; omega) I hT
  rw [e1] at hO1
  rw [e2] at hO2
  have hV1 := Valid_t r1.fok I
  have hV2 := Valid_t r2.fok I
  have hA := Add_rat _ _ r1 r2 I hT
  have hM := Mul_rat _ _ r1 r2 I hT
  have hLs := Less_rat _ _ r1 r2 I
  rw [show decide (Rat.divInt a (p + 1) < Rat.divInt b (q + 1)) = decide (a * (q + 1) < b * (p + 1)) from decide_eq_decide.2 (rat_less (by omega) (by omega))] at hLs
  rw [Rat.divInt_add_divInt _ _ (by omega) (by omega)] at hA
  rw [Rat.divInt_mul_divInt] at hM
  have x1 : (a * (q + 1)).natAbs ≤ 32768 * 256 := mul_abs (by omega) (by omega)
  have x2 : (b * (p + 1)).natAbs ≤ 32768 * 256 := mul_abs (by omega) (by omega)
  have x3 : (a * b).natAbs ≤ 32768 * 32768 := mul_abs (by omega) (by omega)
  have x4 : ((p + 1) * (q + 1)).natAbs ≤ 256 * 256 := mul_abs (by omega) (by omega)
  have x5 : (a * (q + 1) + b * (p + 1)).natAbs ≤ 16777216 := by omega
  have hpos : 0 < (p + 1) * (q + 1) := Int.mul_pos (by omega) (by omega)
  obtain ⟨d1, d2⟩ := div_bd (a * (q + 1) + b * (p + 1)) ((p + 1) * (q + 1)) (by omega)
  obtain ⟨d3, d4⟩ := div_bd (a * b) ((p + 1) * (q + 1)) (by omega)
  have rA : RB (Rat.divInt (a * (q + 1) + b * (p + 1)) ((p + 1) * (q + 1))) := ⟨by omega, by omega⟩
  have rM : RB (Rat.divInt (a * b) ((p + 1) * (q + 1))) := ⟨by omega, by omega⟩
  have cA := rat_cross (a * (q + 1) + b * (p + 1)) ((p + 1) * (q + 1)) (by omega)
  have cM := rat_cross (a * b) ((p + 1) * (q + 1)) (by omega)
  rw [redV_ok0 rA] at hA
  rw [redV_ok0 rM] at hM
  generalize Rat.divInt (a * (q + 1) + b * (p + 1)) ((p + 1) * (q + 1)) = s at *
  generalize Rat.divInt (a * b) ((p + 1) * (q + 1)) = m at *
  generalize Rat.divInt a (p + 1) = y1 at *
  generalize Rat.divInt b (q + 1) = y2 at *
  rw [← Int.mul_assoc] at cA cM
  have i1 : I64 (s.num * (p + 1)) := abs_i64 (mul_abs (p := 16777216) (q := 256) (by omega) (by omega)) (by decide)
  have i2 : I64 (s.num * (p + 1) * (q + 1)) := abs_i64 (mul_abs (mul_abs (p := 16777216) (q := 256) (by omega) (by omega)) (by omega : (q + 1).natAbs ≤ 256)) (by decide)
  have i3 : I64 (a * (q + 1)) := abs_i64 x1 (by decide)
  have i4 : I64 (b * (p + 1)) := abs_i64 x2 (by decide)
  have i5 : I64 (a * (q + 1) + b * (p + 1)) := abs_i64 x5 (by decide)
  have i6 : I64 ((a * (q + 1) + b * (p + 1)) * s.den) := by rw [← cA]; exact i2
  have i7 : I64 (m.num * (p + 1)) := abs_i64 (mul_abs (p := 1073741824) (q := 256) (by omega) (by omega)) (by decide)
  have i8 : I64 (m.num * (p + 1) * (q + 1)) := abs_i64 (mul_abs (mul_abs (p := 1073741824) (q := 256) (by omega) (by omega)) (by omega : (q + 1).natAbs ≤ 256)) (by decide)
  have i9 : I64 (a * b) := abs_i64 x3 (by decide)
  have i10 : I64 (a * b * m.den) := by rw [← cM]; exact i8
  clear e1 e2 d1 d2 d3 d4 x1 x2 x3 x4 x5 hpos
  refine FnSpec.enterP Tryd.func5 rfl Tryd.ntmps5 rfl fun w F => ?_
  repeat' first
    | ((with_reducible refine Nx.is_wp ?_); first | refine Nx.wo ?_ | refine Nx.p_dec rfl rfl (fun hc => ?_) (fun hc => ?_) | refine Nx.p_bool rfl rfl (fun hc => ?_) (fun hc => ?_))
    | ((first | refine Nx.at_op rfl rfl ?_ | refine Nx.m_loud rfl rfl rfl ?_ | refine Nx.at_do rfl rfl rfl rfl ?_ | refine Nx.m_loud_do rfl rfl rfl rfl rfl ?_); first | refine Nx.opr rfl rfl ?_ | refine Nx.callv rfl rfl rfl (by kernel_rfl) rfl hO1 ?_ | refine Nx.callv rfl rfl rfl (by kernel_rfl) rfl hO2 ?_ | refine Nx.callv rfl rfl rfl (by kernel_rfl) rfl hV1 ?_ | refine Nx.callv rfl rfl rfl (by kernel_rfl) rfl hV2 ?_ | refine Nx.callv rfl rfl rfl (by kernel_rfl) rfl hA ?_ | refine Nx.callv rfl rfl rfl (by kernel_rfl) rfl hM ?_ | refine Nx.callv rfl rfl rfl (by kernel_rfl) rfl hLs ?_ | refine Nx.callv rfl rfl rfl (by kernel_rfl) rfl hAw ?_ | refine Nx.mul rfl rfl (by assumption) rfl ?_ | refine Nx.add rfl rfl (by assumption) rfl ?_ | refine Nx.so ?_ | refine Nx.sb (fun bx => ?_) | refine Nx.sa (fun A2 c2 => ?_))
    | ((with_reducible refine Nx.is_at ?_); first | refine Nx.a ?_ | ((fail_if_success refine Nx.at_do rfl rfl rfl rfl ?_); first | refine Nx.at_dec_t rfl rfl rfl rfl (by first | assumption | omega) ?_ | refine Nx.at_dec_f rfl rfl rfl rfl (by first | assumption | omega) ?_ | refine Nx.at_split rfl rfl rfl rfl (fun hc => ?_) (fun hc => ?_) | refine Nx.at_splitb rfl rfl rfl rfl (fun hc => ?_) (fun hc => ?_)))
    | ((with_reducible refine Nx.is_mix ?_); first | refine Nx.m ?_ | ((fail_if_success refine Nx.m_quiet_do rfl rfl rfl rfl rfl rfl rfl ?_ ?_); (fail_if_success refine Nx.m_loud_do rfl rfl rfl rfl rfl ?_); first | refine Nx.m_dec_t rfl rfl rfl rfl (by first | assumption | omega) ?_ | refine Nx.m_dec_f rfl rfl rfl rfl (by first | assumption | omega) ?_ | refine Nx.m_split rfl rfl rfl rfl (fun hc => ?_) (fun hc => ?_) | refine Nx.m_splitb rfl rfl rfl rfl (fun hc => ?_) (fun hc => ?_)))
    | ((fail_if_success (with_reducible refine Nx.is_at ?_)); (fail_if_success (with_reducible refine Nx.is_wp ?_)); (fail_if_success (with_reducible refine Nx.is_mix ?_)); first | refine Nx.ex ?_)
  all_goals first
    | exact Nx.ret_fn rfl [] ⟨rfl, rfl⟩ (by (first | done | (repeat first | exact Ent.refl _ | exact Ent.nil _ | refine Ent.pick 0 rfl ?_ | refine Ent.pick 1 rfl ?_ | refine Ent.pick 2 rfl ?_ | refine Ent.pick 3 rfl ?_ | refine Ent.pick 4 rfl ?_ | refine Ent.pick 5 rfl ?_ | refine Ent.pick 6 rfl ?_ | refine Ent.pick 7 rfl ?_ | refine Ent.pick 8 rfl ?_ | refine Ent.pick 9 rfl ?_ | refine Ent.pick 10 rfl ?_ | refine Ent.pick 11 rfl ?_ | refine Ent.pick 12 rfl ?_ | refine Ent.pick 13 rfl ?_ | refine Ent.pick 14 rfl ?_)))
    | (exfalso; simp at hc; done)
    | (exfalso; exact hc cA)
    | (exfalso; exact hc cM)
    | trace_state
end Go.Proofs.YtlhnhjconifacaaDoor
