/-
  The proof engine, part T: a library function that makes new memory and draws; strings.
-/
import Derived.Test.YtaoeapmdhpkidaaEngR
import Derived.Sort.Grow
import Derived.Lib.AppendIntMem
import Derived.Lib.ItoaLen
import Derived.Laws.Concat
import Derived.Laws.Strings
import Derived.Laws.StructEq
import Derived.Laws.Small
namespace Go.Eng
open Go.Sort (grow)
theorem St.grown {W w : World} {I : PH} {R : List Res} (h : St W I R w) (k : Nat) (os : Array Obj) : St W I R (grow (w.drewN k) os) := by
  obtain ⟨⟨m, hm, hs⟩, hst⟩ := h
  have hold : ∀ (i : Nat) (o : Obj), w.heap[i]? = some o → (grow (w.drewN k) os).heap[i]? = some o := fun i o hi => by
    have hlt := (Array.getElem?_eq_some_iff.1 hi).1
    show (w.heap ++ os)[i]? = some o
    rw [Array.getElem?_append_left hlt]
    exact hi
  refine ⟨⟨m, hm, ⟨fun i o hi => hold i o (hs.imm i o hi), fun i o hi => hold i o (hs.own i o hi), hs.dis⟩⟩, ⟨hst.os, hst.tape, hst.output, Nat.le_trans hst.size (Lib.size_grow w k os), Nat.le_trans hst.drawn (Nat.le_add_right _ _)⟩⟩
theorem FnSpec.of_grow {P : Program} {f : FuncId} {args : List Value} {I : PH} {v : Value} (h : ∀ (w W : World) (R : List Res), St W I R w → Calls P f args.toArray w fun e w' => e = .returned v ∧ ∃ k os, w' = grow (w.drewN k) os) :
    FnSpec P f args I [] (fun u R' => u = v ∧ R' = []) := fun w _ hw =>
  (h w w _ hw).mono fun _ _ ⟨he, k, os, hw'⟩ => ⟨v, [], he, ⟨rfl, rfl⟩, by rw [hw']; exact hw.grown k os⟩
/-- A text, by its bytes. -/
def strV (l : List UInt8) : Value := .string ⟨l.toArray⟩
section
variable {P : Program} {t : TypeId} {x y : Operand} {a b : List UInt8}
/-- Two texts, one behind the other. -/
theorem run_cat (h : a.length ≤ 8388608 ∧ b.length ≤ 8388608) (w : World) : (do eqGuard .add t x y (.string ⟨a.toArray⟩) (.string ⟨b.toArray⟩); binOp .add t (.string ⟨a.toArray⟩) (.string ⟨b.toArray⟩)).run P w = .ok (.string ⟨(a ++ b).toArray⟩) w := by
  rw [eqGuard_at_string, binOp_string_add]
  exact run_string_add_lists w a b (by omega) (by omega)
theorem run_streq (w : World) : (do eqGuard .eql t x y (.string ⟨a.toArray⟩) (.string ⟨b.toArray⟩); binOp .eql t (.string ⟨a.toArray⟩) (.string ⟨b.toArray⟩)).run P w = .ok (.bool (a == b)) w := by
  rw [eqGuard_at_string, binOp_string_eql, ByteArray.toList_mk, ByteArray.toList_mk]
  rfl
theorem run_strne (w : World) : (do eqGuard .neq t x y (.string ⟨a.toArray⟩) (.string ⟨b.toArray⟩); binOp .neq t (.string ⟨a.toArray⟩) (.string ⟨b.toArray⟩)).run P w = .ok (.bool (!(a == b))) w := by
  rw [eqGuard_at_string, binOp_string_neq, ByteArray.toList_mk, ByteArray.toList_mk]
  rfl
theorem run_booleq {t : TypeId} {x y : Operand} (ht : P.underlying t = some .bool) (b c : Bool) (w : World) : (do eqGuard .eql t x y (.bool b) (.bool c); binOp .eql t (.bool b) (.bool c)).run P w = .ok (.bool (b == c)) w := by
  rw [eqGuard_at_bool]
  show (do pure (Value.bool (← Op.equal t (.bool b) (.bool c))) : Sem Value).run P w = _
  rw [Sem.run_bind, run_equal_bool w t b c ht]; rfl
theorem run_boolne {t : TypeId} {x y : Operand} (ht : P.underlying t = some .bool) (b c : Bool) (w : World) : (do eqGuard .neq t x y (.bool b) (.bool c); binOp .neq t (.bool b) (.bool c)).run P w = .ok (.bool (!(b == c))) w := by
  rw [eqGuard_at_bool]
  show (do pure (Value.bool (!(← Op.equal t (.bool b) (.bool c)))) : Sem Value).run P w = _
  rw [Sem.run_bind, run_equal_bool w t b c ht]; rfl
theorem eq_true_run {s : Sem Value} {b : Bool} (h : ∀ w, s.run P w = .ok (.bool b) w) (hb : b = true) (w : World) : s.run P w = .ok (.bool true) w := by rw [h w, hb]
end
end Go.Eng
