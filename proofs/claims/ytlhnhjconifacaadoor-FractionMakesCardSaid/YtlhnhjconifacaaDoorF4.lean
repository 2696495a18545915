/- Contracts of functions of the given program, and lemmas about plain lists and numbers: what the laws of this seat lean on. -/
import Derived.Test.YtlhnhjconifacaaDoorF3
import Derived.Laws.StructEq
namespace Go.Proofs.YtlhnhjconifacaaDoor
open Go.Eng
theorem part_wide0 (a b : Int) (w : World) : (part 45 #[.int .u64 a, .int .u64 b] 0).run Tryd.prog w = .ok (.int .u64 a) w := run_of_pureRun (by kernel_rfl) w
theorem part_wide1 (a b : Int) (w : World) : (part 45 #[.int .u64 a, .int .u64 b] 1).run Tryd.prog w = .ok (.int .u64 b) w := run_of_pureRun (by kernel_rfl) w
theorem eqFields_wide (a b c d : Int) (w : World) (fs : List Field) (hf : fs.map (fun f => (f.name, f.type, f.offset)) = [("High", 45, 0), ("Low", 45, 1)]) :
    (Op.eqFields 9999 #[.int .u64 a, .int .u64 b] #[.int .u64 c, .int .u64 d] fs).run Tryd.prog w = .ok (a == c && b == d) w := by
  obtain ⟨f, g, rfl⟩ : ∃ f g, fs = [f, g] := by
    rcases fs with _ | ⟨f, _ | ⟨g, _ | ⟨k, r⟩⟩⟩
    · simp at hf
    · simp at hf
    · exact ⟨f, g, rfl⟩
    · simp at hf
  · simp only [List.map_cons, List.map_nil, List.cons.injEq, Prod.mk.injEq, and_true] at hf
    obtain ⟨⟨h1, h2, h3⟩, h4, h5, h6⟩ := hf
    simp only [Op.eqFields, h1, h2, h3, h4, h5, h6]
    rw [if_pos (by decide), if_pos (by decide), Sem.run_bind, part_wide0, Result.andThen_ok, Sem.run_bind, part_wide0, Result.andThen_ok, Sem.run_bind, run_equalIn_int _ 9998 _ .u64 .u64 a c Tryd.underlying45, Result.andThen_ok]
    cases (a == c)
    · rfl
    · rw [if_neg (by decide), Sem.run_bind, part_wide1, Result.andThen_ok, Sem.run_bind, part_wide1, Result.andThen_ok, Sem.run_bind, run_equalIn_int _ 9998 _ .u64 .u64 b d Tryd.underlying45, Result.andThen_ok]
      cases (b == d) <;> rfl
theorem eql_wide {x y : Operand} (a b c d : Int) (w : World) :
    (do eqGuard .eql 47 x y (.agg #[.int .u64 a, .int .u64 b]) (.agg #[.int .u64 c, .int .u64 d]); binOp .eql 47 (.agg #[.int .u64 a, .int .u64 b]) (.agg #[.int .u64 c, .int .u64 d])).run Tryd.prog w = .ok (.bool (a == c && b == d)) w := by
  rw [Sem.run_bind, run_eqGuard_agg _ _ _ _ _ _ _ Tryd.eqGuardType47, Result.andThen_ok, run_eql_struct, run_equalIn_struct _ 9999 47 _ _ (by kernel_rfl) Tryd.stoodInHeld47,
    eqFields_wide a b c d w _ (by kernel_rfl)]
  rfl
theorem neq_wide {x y : Operand} (a b c d : Int) (w : World) :
    (do eqGuard .neq 47 x y (.agg #[.int .u64 a, .int .u64 b]) (.agg #[.int .u64 c, .int .u64 d]); binOp .neq 47 (.agg #[.int .u64 a, .int .u64 b]) (.agg #[.int .u64 c, .int .u64 d])).run Tryd.prog w = .ok (.bool (!(a == c && b == d))) w := by
  rw [Sem.run_bind, run_eqGuard_agg _ _ _ _ _ _ _ Tryd.eqGuardType47, Result.andThen_ok, run_neq_struct, run_equalIn_struct _ 9999 47 _ _ (by kernel_rfl) Tryd.stoodInHeld47,
    eqFields_wide a b c d w _ (by kernel_rfl)]
  rfl
theorem eql_rwide {x y : Operand} (a b c d : Int) (w : World) :
    (do eqGuard .eql 50 x y (.agg #[.int .u64 a, .int .u64 b]) (.agg #[.int .u64 c, .int .u64 d]); binOp .eql 50 (.agg #[.int .u64 a, .int .u64 b]) (.agg #[.int .u64 c, .int .u64 d])).run Tryd.prog w = .ok (.bool (a == c && b == d)) w := by
  rw [Sem.run_bind, run_eqGuard_agg _ _ _ _ _ _ _ Tryd.eqGuardType50, Result.andThen_ok, run_eql_struct, run_equalIn_struct _ 9999 50 _ _ (by kernel_rfl) Tryd.stoodInHeld50,
    eqFields_wide a b c d w _ (by kernel_rfl)]
  rfl
end Go.Proofs.YtlhnhjconifacaaDoor
