/- Contracts of functions of the given program, and lemmas about plain lists and numbers: what the laws of this seat lean on. -/
import Derived.Test.YtlhnhjconifacaaDoorF18
import Derived.Test.YtlhnhjconifacaaDoorF20
namespace Go.Proofs.YtlhnhjconifacaaDoor
open Go.Eng
theorem part_frac0 (a b : Int) (w : World) : (part 3 #[.int .i64 a, .int .i64 b] 0).run Tryd.prog w = .ok (.int .i64 a) w := run_of_pureRun (by kernel_rfl) w
theorem part_frac1 (a b : Int) (w : World) : (part 3 #[.int .i64 a, .int .i64 b] 1).run Tryd.prog w = .ok (.int .i64 b) w := run_of_pureRun (by kernel_rfl) w
theorem eqFields_frac (a b c d : Int) (w : World) (fs : List Field) (hf : fs.map (fun f => (f.name, f.type, f.offset)) = [("Num", 3, 0), ("Den", 3, 1)]) :
    (Op.eqFields 9999 #[.int .i64 a, .int .i64 b] #[.int .i64 c, .int .i64 d] fs).run Tryd.prog w = .ok (a == c && b == d) w := by
  obtain ⟨f, g, rfl⟩ : ∃ f g, fs = [f, g] := by
    rcases fs with _ | ⟨f, _ | ⟨g, _ | ⟨k, r⟩⟩⟩
    · simp at hf
    · simp at hf
    · exact ⟨f, g, rfl⟩
    · simp at hf
  · simp only [List.map_cons, List.map_nil, List.cons.injEq, Prod.mk.injEq, and_true] at hf
    obtain ⟨⟨h1, h2, h3⟩, h4, h5, h6⟩ := hf
    simp only [Op.eqFields, h1, h2, h3, h4, h5, h6]
    rw [if_pos (by decide), if_pos (by decide), Sem.run_bind, part_frac0, Result.andThen_ok, Sem.run_bind, part_frac0, Result.andThen_ok, Sem.run_bind, run_equalIn_int _ 9998 _ .i64 .i64 a c Tryd.underlying3, Result.andThen_ok]
    cases (a == c)
    · rfl
    · rw [if_neg (by decide), Sem.run_bind, part_frac1, Result.andThen_ok, Sem.run_bind, part_frac1, Result.andThen_ok, Sem.run_bind, run_equalIn_int _ 9998 _ .i64 .i64 b d Tryd.underlying3, Result.andThen_ok]
      cases (b == d) <;> rfl
theorem frac_bool (a b c d : Int) : (a == c && b == d) = decide (a = c ∧ b = d) := by
  rw [Bool.eq_iff_iff]
  simp
theorem eql_frac {x y : Operand} (a b c d : Int) (w : World) :
    (do eqGuard .eql 26 x y (.agg #[.int .i64 a, .int .i64 b]) (.agg #[.int .i64 c, .int .i64 d]); binOp .eql 26 (.agg #[.int .i64 a, .int .i64 b]) (.agg #[.int .i64 c, .int .i64 d])).run Tryd.prog w = .ok (.bool (decide (a = c ∧ b = d))) w := by
  rw [Sem.run_bind, run_eqGuard_agg _ _ _ _ _ _ _ Tryd.eqGuardType26, Result.andThen_ok, run_eql_struct, run_equalIn_struct _ 9999 26 _ _ (by kernel_rfl) Tryd.stoodInHeld26,
    eqFields_frac a b c d w _ (by kernel_rfl), frac_bool]
  rfl
theorem neq_frac {x y : Operand} (a b c d : Int) (w : World) :
    (do eqGuard .neq 26 x y (.agg #[.int .i64 a, .int .i64 b]) (.agg #[.int .i64 c, .int .i64 d]); binOp .neq 26 (.agg #[.int .i64 a, .int .i64 b]) (.agg #[.int .i64 c, .int .i64 d])).run Tryd.prog w = .ok (.bool (decide (¬(a = c ∧ b = d)))) w := by
  rw [Sem.run_bind, run_eqGuard_agg _ _ _ _ _ _ _ Tryd.eqGuardType26, Result.andThen_ok, run_neq_struct, run_equalIn_struct _ 9999 26 _ _ (by kernel_rfl) Tryd.stoodInHeld26,
    eqFields_frac a b c d w _ (by kernel_rfl), frac_bool, show decide (¬(a = c ∧ b = d)) = !decide (a = c ∧ b = d) by simp]
  rfl
end Go.Proofs.YtlhnhjconifacaaDoor
namespace Go.Proofs.YtlhnhjconifacaaDoor
open Go.Eng
attribute [local irreducible] opK wpList Code.wp Exit.then Exit.inBlock fnPost bodyPost Nx Calls Oper.wp Rd Rds Wr Ent Stars Blk Again Vec FnSpec wpMix QRun Stop Upto wpAt
theorem awake_add : opV 1 6 1 3 (Rat.divInt 1 6 + Rat.divInt 1 3) = .tuple #[.agg #[.int .i64 1, .int .i64 2], .int .i64 0] := by
  unfold opV
  rw [if_pos (by decide), redV_pos (by decide +kernel)]
  unfold ratV fracV
  rw [show (Rat.divInt 1 6 + Rat.divInt 1 3).num = 1 by decide +kernel, show (Rat.divInt 1 6 + Rat.divInt 1 3).den = 2 by decide +kernel]
  rfl
theorem awake_of : ofV (-6) (-4) = .tuple #[.agg #[.int .i64 3, .int .i64 2], .int .i64 0] := by
  unfold ofV
  rw [if_neg (by decide), redV_pos (by decide +kernel)]
  unfold ratV fracV
  rw [show (Rat.divInt (-6) (-4)).num = 3 by decide +kernel, show (Rat.divInt (-6) (-4)).den = 2 by decide +kernel]
  rfl
theorem awake_spec (I : PH) (hT : TabI I) (hN : TenI I) : FnSpec Tryd.prog 11 [] I [] (fun v R' => v = .bool true ∧ R' = []) := by
  have hA := Add_spec 1 6 1 3 (by unfold I64; omega) (by unfold I64; omega) (by unfold I64; omega) (by unfold I64; omega) I hT
  rw [awake_add] at hA
  have hO := Of_spec (-6) (-4) (by unfold I64; omega) (by unfold I64; omega) I hT
  rw [awake_of] at hO
  have hF := Floor_spec (-1) 2 (by unfold I64; omega) (by unfold I64; omega) I
  rw [show (if FOk (-1) 2 then (-1 : Int) / 2 else 0) = -1 by decide] at hF
  have hX := Text_spec 1 2 (by unfold I64; omega) (by unfold I64; omega) I hN
  rw [show textL 1 2 = [49, 47, 50] by decide +kernel] at hX
  have hL := Less_spec 1 2 3 2 (by unfold I64; omega) (by unfold I64; omega) (by unfold I64; omega) (by unfold I64; omega) I
  rw [show decide (FOk 1 2 ∧ FOk 3 2 ∧ (1 : Int) * 2 < 3 * 2) = true by decide] at hL
  refine FnSpec.enterP Tryd.func11 rfl Tryd.ntmps11 rfl fun w F => ?_
  repeat' first
    | ((with_reducible refine Nx.is_wp ?_); first | refine Nx.wo ?_ | refine Nx.p_dec rfl rfl (fun hc => ?_) (fun hc => ?_) | refine Nx.p_bool rfl rfl (fun hc => ?_) (fun hc => ?_))
    | ((first | refine Nx.at_op rfl rfl ?_ | refine Nx.m_loud rfl rfl rfl ?_ | refine Nx.at_do rfl rfl rfl rfl ?_ | refine Nx.m_loud_do rfl rfl rfl rfl rfl ?_); first | refine Nx.opr rfl rfl ?_ | refine Nx.callv rfl rfl rfl (by kernel_rfl) rfl hA ?_ | refine Nx.callv rfl rfl rfl (by kernel_rfl) rfl hO ?_ | refine Nx.callv rfl rfl rfl (by kernel_rfl) rfl hF ?_ | refine Nx.callv rfl rfl rfl (by kernel_rfl) rfl hX ?_ | refine Nx.callv rfl rfl rfl (by kernel_rfl) rfl hL ?_ | refine Nx.binr rfl rfl (eql_frac _ _ _ _) rfl ?_ | refine Nx.so ?_ | refine Nx.sb (fun bx => ?_) | refine Nx.sa (fun A2 c2 => ?_))
    | ((with_reducible refine Nx.is_at ?_); first | refine Nx.a ?_ | ((fail_if_success refine Nx.at_do rfl rfl rfl rfl ?_); first | refine Nx.at_dec_t rfl rfl rfl rfl (by first | assumption | omega) ?_ | refine Nx.at_dec_f rfl rfl rfl rfl (by first | assumption | omega) ?_ | refine Nx.at_split rfl rfl rfl rfl (fun hc => ?_) (fun hc => ?_) | refine Nx.at_splitb rfl rfl rfl rfl (fun hc => ?_) (fun hc => ?_)))
    | ((with_reducible refine Nx.is_mix ?_); first | refine Nx.m ?_ | ((fail_if_success refine Nx.m_quiet_do rfl rfl rfl rfl rfl rfl rfl ?_ ?_); (fail_if_success refine Nx.m_loud_do rfl rfl rfl rfl rfl ?_); first | refine Nx.m_dec_t rfl rfl rfl rfl (by first | assumption | omega) ?_ | refine Nx.m_dec_f rfl rfl rfl rfl (by first | assumption | omega) ?_ | refine Nx.m_split rfl rfl rfl rfl (fun hc => ?_) (fun hc => ?_) | refine Nx.m_splitb rfl rfl rfl rfl (fun hc => ?_) (fun hc => ?_)))
    | ((fail_if_success (with_reducible refine Nx.is_at ?_)); (fail_if_success (with_reducible refine Nx.is_wp ?_)); (fail_if_success (with_reducible refine Nx.is_mix ?_)); first | refine Nx.ex ?_)
  · exact Nx.ret_fn rfl [] ⟨rfl, rfl⟩ (by (first | done | (repeat first | exact Ent.refl _ | exact Ent.nil _ | refine Ent.pick 0 rfl ?_ | refine Ent.pick 1 rfl ?_ | refine Ent.pick 2 rfl ?_ | refine Ent.pick 3 rfl ?_ | refine Ent.pick 4 rfl ?_ | refine Ent.pick 5 rfl ?_ | refine Ent.pick 6 rfl ?_ | refine Ent.pick 7 rfl ?_ | refine Ent.pick 8 rfl ?_ | refine Ent.pick 9 rfl ?_ | refine Ent.pick 10 rfl ?_ | refine Ent.pick 11 rfl ?_ | refine Ent.pick 12 rfl ?_ | refine Ent.pick 13 rfl ?_ | refine Ent.pick 14 rfl ?_)))
  · exfalso
    simp at hc
end Go.Proofs.YtlhnhjconifacaaDoor
