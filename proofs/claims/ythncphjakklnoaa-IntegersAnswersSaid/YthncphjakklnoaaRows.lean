/-
  No cell of these rows narrows 'for every input' (looked for: loops, veiled, ifaces, maps, wideKeys, modest, calm, conditions, laid).
  DERIVED. THE GIVEN ROWS OF THIS SEAT. 5 by the template 'for every input the law returns true; each argument reads behind the call as it read before'; 0 by the template 'total and deterministic' (their statements: YthncphjakklnoaaTotals.lean).
  GIVEN WITH THE SEED: the statements are not yours to turn. If you find one false, say at which input.
  Laid BY PROGRAM, IN A SANDBOX (cutbox-rows.mjs): the forced cells as the released guide's own fill.sh prints them over the translation 1020b51e571712e5… (all of the seat's roots in one cut). By AI agents, Wed Nov 11 2026. No macro, syntax, notation, axiom, sorry.
-/
import Derived.Test.YthncphjakklnoaaChecked
import GoSem.Claim
import GoSem.ClaimJoined
import GoSem.ClaimMapViews
import Derived.JoinedTies
import Derived.KernelRfl
namespace Go.Proofs.Ythncphjakklnoaa
/- THE CELL 'sum', in the pinned program and in every row, IS THE sha256 OF THE DUMP (.gsa) THAT YthncphjakklnoaaProg.lean LOADS. Nothing in Lean hashes anything: it is a label: what it is worth is what the hold of that sum in a sandbox is worth. -/
noncomputable def Try.pinned : Pinned := { name := "ythncphjakklnoaa", sum := "1020b51e571712e5a9ca2cd2ec5b1527955d632f4e12c639aa067f3def58149d", checked := Try.checked }
namespace Rows
def none {H : Type} : Left H := { results := [], args := [] }

/-- 'dataenclavelaw31.IntegersSolve': WHATEVER THE INPUT: true; the input reads as it did. -/
def integersSolveSpec : ChangeSpec := { name := "integersSolve", fn := fun _ => fun
  | [d] => { results := [.lit (.bool true)], args := [d] }
  | _ => none }
def integersSolveRow : OpenClaim := { program := "ythncphjakklnoaa", sum := "1020b51e571712e5a9ca2cd2ec5b1527955d632f4e12c639aa067f3def58149d", func := "dataenclave/dataenclavelaw31.IntegersSolve", spec := "integersSolve", unfollowed := true, recurses := true, apart := false }
def IntegersSolveSaid : Prop := integersSolveRow.holds Try.pinned (OpenSpec.ofChange integersSolveSpec)

/-- ITS FALSE NEIGHBOUR: 'it returns false'. Refute it at one input. -/
def integersSolveWrong : ChangeSpec := { name := "integersSolve", fn := fun _ => fun
  | [d] => { results := [.lit (.bool false)], args := [d] }
  | _ => none }
def IntegersSolveWrongFalsely : Prop := integersSolveRow.holds Try.pinned (OpenSpec.ofChange integersSolveWrong)

/-- 'dataenclavelaw31.IntegersNarrow': WHATEVER THE INPUT: true; the input reads as it did. -/
def integersNarrowSpec : ChangeSpec := { name := "integersNarrow", fn := fun _ => fun
  | [d] => { results := [.lit (.bool true)], args := [d] }
  | _ => none }
def integersNarrowRow : OpenClaim := { program := "ythncphjakklnoaa", sum := "1020b51e571712e5a9ca2cd2ec5b1527955d632f4e12c639aa067f3def58149d", func := "dataenclave/dataenclavelaw31.IntegersNarrow", spec := "integersNarrow", unfollowed := true, recurses := true, apart := false }
def IntegersNarrowSaid : Prop := integersNarrowRow.holds Try.pinned (OpenSpec.ofChange integersNarrowSpec)

/-- ITS FALSE NEIGHBOUR: 'it returns false'. Refute it at one input. -/
def integersNarrowWrong : ChangeSpec := { name := "integersNarrow", fn := fun _ => fun
  | [d] => { results := [.lit (.bool false)], args := [d] }
  | _ => none }
def IntegersNarrowWrongFalsely : Prop := integersNarrowRow.holds Try.pinned (OpenSpec.ofChange integersNarrowWrong)

/-- 'dataenclavelaw31.IntegersTurn': WHATEVER THE INPUT: true; the input reads as it did. -/
def integersTurnSpec : ChangeSpec := { name := "integersTurn", fn := fun _ => fun
  | [d1, d2] => { results := [.lit (.bool true)], args := [d1, d2] }
  | _ => none }
def integersTurnRow : OpenClaim := { program := "ythncphjakklnoaa", sum := "1020b51e571712e5a9ca2cd2ec5b1527955d632f4e12c639aa067f3def58149d", func := "dataenclave/dataenclavelaw31.IntegersTurn", spec := "integersTurn", unfollowed := true, recurses := true, apart := false }
def IntegersTurnSaid : Prop := integersTurnRow.holds Try.pinned (OpenSpec.ofChange integersTurnSpec)

/-- ITS FALSE NEIGHBOUR: 'it returns false'. Refute it at one input. -/
def integersTurnWrong : ChangeSpec := { name := "integersTurn", fn := fun _ => fun
  | [d1, d2] => { results := [.lit (.bool false)], args := [d1, d2] }
  | _ => none }
def IntegersTurnWrongFalsely : Prop := integersTurnRow.holds Try.pinned (OpenSpec.ofChange integersTurnWrong)

/-- 'dataenclavelaw31.IntegersAnswers': WHATEVER THE INPUT: true; the input reads as it did. -/
def integersAnswersSpec : ChangeSpec := { name := "integersAnswers", fn := fun _ => fun
  | [d1, d2, d3, d4, d5] => { results := [.lit (.bool true)], args := [d1, d2, d3, d4, d5] }
  | _ => none }
def integersAnswersRow : OpenClaim := { program := "ythncphjakklnoaa", sum := "1020b51e571712e5a9ca2cd2ec5b1527955d632f4e12c639aa067f3def58149d", func := "dataenclave/dataenclavelaw31.IntegersAnswers", spec := "integersAnswers", unfollowed := true, recurses := true, apart := false }
def IntegersAnswersSaid : Prop := integersAnswersRow.holds Try.pinned (OpenSpec.ofChange integersAnswersSpec)

/-- ITS FALSE NEIGHBOUR: 'it returns false'. Refute it at one input. -/
def integersAnswersWrong : ChangeSpec := { name := "integersAnswers", fn := fun _ => fun
  | [d1, d2, d3, d4, d5] => { results := [.lit (.bool false)], args := [d1, d2, d3, d4, d5] }
  | _ => none }
def IntegersAnswersWrongFalsely : Prop := integersAnswersRow.holds Try.pinned (OpenSpec.ofChange integersAnswersWrong)

/-- 'dataenclavelaw31.IntegersPairs': WHATEVER THE INPUT: true; the input reads as it did. -/
def integersPairsSpec : ChangeSpec := { name := "integersPairs", fn := fun _ => fun
  | [d] => { results := [.lit (.bool true)], args := [d] }
  | _ => none }
def integersPairsRow : OpenClaim := { program := "ythncphjakklnoaa", sum := "1020b51e571712e5a9ca2cd2ec5b1527955d632f4e12c639aa067f3def58149d", func := "dataenclave/dataenclavelaw31.IntegersPairs", spec := "integersPairs", unfollowed := true, recurses := true, apart := false }
def IntegersPairsSaid : Prop := integersPairsRow.holds Try.pinned (OpenSpec.ofChange integersPairsSpec)

/-- ITS FALSE NEIGHBOUR: 'it returns false'. Refute it at one input. -/
def integersPairsWrong : ChangeSpec := { name := "integersPairs", fn := fun _ => fun
  | [d] => { results := [.lit (.bool false)], args := [d] }
  | _ => none }
def IntegersPairsWrongFalsely : Prop := integersPairsRow.holds Try.pinned (OpenSpec.ofChange integersPairsWrong)

/- THE SECOND FORM. 'bulk': how many values and letters a reading holds, each counted each time it is reached (what is shared counts as often as it is met; a slice's spare places count too). A statement '..UptoSaid' is the law's where the arguments, and the package variables that the reading takes, are together of bulk at most 1048576: NARROWER than '..Said'. Prove '..Said' where nothing that the law and all that it calls make is longer than what came in: it says more and counts as full. Else prove '..UptoSaid'. A law counts once. -/
mutual
def uptoBulk {H : Type} : DataW H → Nat
  | .lit (.string bytes) => bytes.length + 1
  | .lit _ => 1
  | .nil => 1
  | .ptr d => uptoBulk d + 1
  | .slice elems spare => uptoBulkAll elems + uptoBulkAll spare + 1
  | .agg parts => uptoBulkAll parts + 1
  | .iface _ d => uptoBulk d + 1
  | .map entries => uptoBulkEntries entries + 1
  | .held _ => 1
def uptoBulkAll {H : Type} : List (DataW H) → Nat
  | [] => 0
  | d :: r => uptoBulk d + uptoBulkAll r
def uptoBulkEntries {H : Type} : List (Lit × DataW H) → Nat
  | [] => 0
  | x :: r => uptoBulkEntry x + uptoBulkEntries r
def uptoBulkEntry {H : Type} : Lit × DataW H → Nat
  | (.string bytes, d) => bytes.length + uptoBulk d + 1
  | (_, d) => uptoBulk d + 1
 end
def uptoSmall : (H : Type) → List (DataW H) → Bool := fun _ ds => decide (uptoBulkAll ds ≤ 1048576)
def OpenSpec.upto (s : _root_.Go.ChangeSpec) : _root_.Go.OpenSpec := { _root_.Go.OpenSpec.ofChange s with cond := some uptoSmall }

/-- 'dataenclavelaw31.IntegersSolve', WHERE WHAT IT READS IS OF BULK AT MOST 1048576: true; the input reads as it did. -/
def integersSolveUptoRow : OpenClaim := { program := "ythncphjakklnoaa", sum := "1020b51e571712e5a9ca2cd2ec5b1527955d632f4e12c639aa067f3def58149d", func := "dataenclave/dataenclavelaw31.IntegersSolve", spec := "integersSolve", unfollowed := true, recurses := true, apart := false, narrowed := true }
def IntegersSolveUptoSaid : Prop := integersSolveUptoRow.holds Try.pinned (OpenSpec.upto integersSolveSpec)

/-- 'dataenclavelaw31.IntegersNarrow', WHERE WHAT IT READS IS OF BULK AT MOST 1048576: true; the input reads as it did. -/
def integersNarrowUptoRow : OpenClaim := { program := "ythncphjakklnoaa", sum := "1020b51e571712e5a9ca2cd2ec5b1527955d632f4e12c639aa067f3def58149d", func := "dataenclave/dataenclavelaw31.IntegersNarrow", spec := "integersNarrow", unfollowed := true, recurses := true, apart := false, narrowed := true }
def IntegersNarrowUptoSaid : Prop := integersNarrowUptoRow.holds Try.pinned (OpenSpec.upto integersNarrowSpec)

/-- 'dataenclavelaw31.IntegersTurn', WHERE WHAT IT READS IS OF BULK AT MOST 1048576: true; the input reads as it did. -/
def integersTurnUptoRow : OpenClaim := { program := "ythncphjakklnoaa", sum := "1020b51e571712e5a9ca2cd2ec5b1527955d632f4e12c639aa067f3def58149d", func := "dataenclave/dataenclavelaw31.IntegersTurn", spec := "integersTurn", unfollowed := true, recurses := true, apart := false, narrowed := true }
def IntegersTurnUptoSaid : Prop := integersTurnUptoRow.holds Try.pinned (OpenSpec.upto integersTurnSpec)

/-- 'dataenclavelaw31.IntegersAnswers', WHERE WHAT IT READS IS OF BULK AT MOST 1048576: true; the input reads as it did. -/
def integersAnswersUptoRow : OpenClaim := { program := "ythncphjakklnoaa", sum := "1020b51e571712e5a9ca2cd2ec5b1527955d632f4e12c639aa067f3def58149d", func := "dataenclave/dataenclavelaw31.IntegersAnswers", spec := "integersAnswers", unfollowed := true, recurses := true, apart := false, narrowed := true }
def IntegersAnswersUptoSaid : Prop := integersAnswersUptoRow.holds Try.pinned (OpenSpec.upto integersAnswersSpec)

/-- 'dataenclavelaw31.IntegersPairs', WHERE WHAT IT READS IS OF BULK AT MOST 1048576: true; the input reads as it did. -/
def integersPairsUptoRow : OpenClaim := { program := "ythncphjakklnoaa", sum := "1020b51e571712e5a9ca2cd2ec5b1527955d632f4e12c639aa067f3def58149d", func := "dataenclave/dataenclavelaw31.IntegersPairs", spec := "integersPairs", unfollowed := true, recurses := true, apart := false, narrowed := true }
def IntegersPairsUptoSaid : Prop := integersPairsUptoRow.holds Try.pinned (OpenSpec.upto integersPairsSpec)

end Rows
end Go.Proofs.Ythncphjakklnoaa
