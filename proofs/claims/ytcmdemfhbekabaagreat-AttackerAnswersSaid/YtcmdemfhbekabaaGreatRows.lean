/-
  No cell of these rows narrows 'for every input' (looked for: loops, veiled, ifaces, maps, wideKeys, modest, calm, conditions, laid).
  DERIVED. THE GIVEN ROWS OF THIS SEAT. 9 by the template 'for every input the law returns true; each argument reads behind the call as it read before'; 0 by the template 'total and deterministic' (their statements: YtcmdemfhbekabaaGreatTotals.lean).
  GIVEN WITH THE SEED: the statements are not yours to turn. If you find one false, say at which input.
  Laid BY PROGRAM, IN A SANDBOX (cutbox-rows.mjs): the forced cells as the released guide's own fill.sh prints them over the translation 90e975984d972523… (all of the seat's roots in one cut). By AI agents, Wed Nov 11 2026. No macro, syntax, notation, axiom, sorry.
-/
import Derived.Test.YtcmdemfhbekabaaGreatChecked
import GoSem.Claim
import GoSem.ClaimJoined
import GoSem.ClaimMapViews
import Derived.JoinedTies
import Derived.KernelRfl
namespace Go.Proofs.YtcmdemfhbekabaaGreat
/- THE CELL 'sum', in the pinned program and in every row, IS THE sha256 OF THE DUMP (.gsa) THAT YtcmdemfhbekabaaGreatProg.lean LOADS. Nothing in Lean hashes anything: it is a label: what it is worth is what the hold of that sum in a sandbox is worth. -/
noncomputable def Tryz.pinned : Pinned := { name := "ytcmdemfhbekabaagreat", sum := "90e975984d972523d190ea76bea1ff1aa5657da84146242c69dcde81b75a909a", checked := Tryz.checked }
namespace Rows
def none {H : Type} : Left H := { results := [], args := [] }

/-- 'dataenclavelaw32.DifferencingMargins': WHATEVER THE INPUT: true; the input reads as it did. -/
def differencingMarginsSpec : ChangeSpec := { name := "differencingMargins", fn := fun _ => fun
  | [d1, d2] => { results := [.lit (.bool true)], args := [d1, d2] }
  | _ => none }
def differencingMarginsRow : OpenClaim := { program := "ytcmdemfhbekabaagreat", sum := "90e975984d972523d190ea76bea1ff1aa5657da84146242c69dcde81b75a909a", func := "dataenclave/dataenclavelaw32.DifferencingMargins", spec := "differencingMargins", unfollowed := true, recurses := true, apart := false }
def DifferencingMarginsSaid : Prop := differencingMarginsRow.holds Tryz.pinned (OpenSpec.ofChange differencingMarginsSpec)

/-- ITS FALSE NEIGHBOUR: 'it returns false'. Refute it at one input. -/
def differencingMarginsWrong : ChangeSpec := { name := "differencingMargins", fn := fun _ => fun
  | [d1, d2] => { results := [.lit (.bool false)], args := [d1, d2] }
  | _ => none }
def DifferencingMarginsWrongFalsely : Prop := differencingMarginsRow.holds Tryz.pinned (OpenSpec.ofChange differencingMarginsWrong)

/-- 'dataenclavelaw32.DifferencingWitness': WHATEVER THE INPUT: true; the input reads as it did. -/
def differencingWitnessSpec : ChangeSpec := { name := "differencingWitness", fn := fun _ => fun
  | [d1, d2] => { results := [.lit (.bool true)], args := [d1, d2] }
  | _ => none }
def differencingWitnessRow : OpenClaim := { program := "ytcmdemfhbekabaagreat", sum := "90e975984d972523d190ea76bea1ff1aa5657da84146242c69dcde81b75a909a", func := "dataenclave/dataenclavelaw32.DifferencingWitness", spec := "differencingWitness", unfollowed := true, recurses := true, apart := false }
def DifferencingWitnessSaid : Prop := differencingWitnessRow.holds Tryz.pinned (OpenSpec.ofChange differencingWitnessSpec)

/-- ITS FALSE NEIGHBOUR: 'it returns false'. Refute it at one input. -/
def differencingWitnessWrong : ChangeSpec := { name := "differencingWitness", fn := fun _ => fun
  | [d1, d2] => { results := [.lit (.bool false)], args := [d1, d2] }
  | _ => none }
def DifferencingWitnessWrongFalsely : Prop := differencingWitnessRow.holds Tryz.pinned (OpenSpec.ofChange differencingWitnessWrong)

/-- 'dataenclavelaw43.AttackerReaches': WHATEVER THE INPUT: true; the input reads as it did. -/
def attackerReachesSpec : ChangeSpec := { name := "attackerReaches", fn := fun _ => fun
  | [d] => { results := [.lit (.bool true)], args := [d] }
  | _ => none }
def attackerReachesRow : OpenClaim := { program := "ytcmdemfhbekabaagreat", sum := "90e975984d972523d190ea76bea1ff1aa5657da84146242c69dcde81b75a909a", func := "dataenclave/dataenclavelaw43.AttackerReaches", spec := "attackerReaches", unfollowed := true, recurses := true, apart := false }
def AttackerReachesSaid : Prop := attackerReachesRow.holds Tryz.pinned (OpenSpec.ofChange attackerReachesSpec)

/-- ITS FALSE NEIGHBOUR: 'it returns false'. Refute it at one input. -/
def attackerReachesWrong : ChangeSpec := { name := "attackerReaches", fn := fun _ => fun
  | [d] => { results := [.lit (.bool false)], args := [d] }
  | _ => none }
def AttackerReachesWrongFalsely : Prop := attackerReachesRow.holds Tryz.pinned (OpenSpec.ofChange attackerReachesWrong)

/-- 'dataenclavelaw32.DifferencingAnswers': WHATEVER THE INPUT: true; the input reads as it did. -/
def differencingAnswersSpec : ChangeSpec := { name := "differencingAnswers", fn := fun _ => fun
  | [d1, d2, d3, d4, d5, d6] => { results := [.lit (.bool true)], args := [d1, d2, d3, d4, d5, d6] }
  | _ => none }
def differencingAnswersRow : OpenClaim := { program := "ytcmdemfhbekabaagreat", sum := "90e975984d972523d190ea76bea1ff1aa5657da84146242c69dcde81b75a909a", func := "dataenclave/dataenclavelaw32.DifferencingAnswers", spec := "differencingAnswers", unfollowed := true, recurses := true, apart := false }
def DifferencingAnswersSaid : Prop := differencingAnswersRow.holds Tryz.pinned (OpenSpec.ofChange differencingAnswersSpec)

/-- ITS FALSE NEIGHBOUR: 'it returns false'. Refute it at one input. -/
def differencingAnswersWrong : ChangeSpec := { name := "differencingAnswers", fn := fun _ => fun
  | [d1, d2, d3, d4, d5, d6] => { results := [.lit (.bool false)], args := [d1, d2, d3, d4, d5, d6] }
  | _ => none }
def DifferencingAnswersWrongFalsely : Prop := differencingAnswersRow.holds Tryz.pinned (OpenSpec.ofChange differencingAnswersWrong)

/-- 'dataenclavelaw43.AttackerAnswers': WHATEVER THE INPUT: true; the input reads as it did. -/
def attackerAnswersSpec : ChangeSpec := { name := "attackerAnswers", fn := fun _ => fun
  | [d1, d2, d3, d4, d5] => { results := [.lit (.bool true)], args := [d1, d2, d3, d4, d5] }
  | _ => none }
def attackerAnswersRow : OpenClaim := { program := "ytcmdemfhbekabaagreat", sum := "90e975984d972523d190ea76bea1ff1aa5657da84146242c69dcde81b75a909a", func := "dataenclave/dataenclavelaw43.AttackerAnswers", spec := "attackerAnswers", unfollowed := true, recurses := true, apart := false }
def AttackerAnswersSaid : Prop := attackerAnswersRow.holds Tryz.pinned (OpenSpec.ofChange attackerAnswersSpec)

/-- ITS FALSE NEIGHBOUR: 'it returns false'. Refute it at one input. -/
def attackerAnswersWrong : ChangeSpec := { name := "attackerAnswers", fn := fun _ => fun
  | [d1, d2, d3, d4, d5] => { results := [.lit (.bool false)], args := [d1, d2, d3, d4, d5] }
  | _ => none }
def AttackerAnswersWrongFalsely : Prop := attackerAnswersRow.holds Tryz.pinned (OpenSpec.ofChange attackerAnswersWrong)

/-- 'dataenclavelaw33.SuppressAnswers': WHATEVER THE INPUT: true; the input reads as it did. -/
def suppressAnswersSpec : ChangeSpec := { name := "suppressAnswers", fn := fun _ => fun
  | [d1, d2, d3, d4, d5] => { results := [.lit (.bool true)], args := [d1, d2, d3, d4, d5] }
  | _ => none }
def suppressAnswersRow : OpenClaim := { program := "ytcmdemfhbekabaagreat", sum := "90e975984d972523d190ea76bea1ff1aa5657da84146242c69dcde81b75a909a", func := "dataenclave/dataenclavelaw33.SuppressAnswers", spec := "suppressAnswers", unfollowed := true, recurses := true, apart := false }
def SuppressAnswersSaid : Prop := suppressAnswersRow.holds Tryz.pinned (OpenSpec.ofChange suppressAnswersSpec)

/-- ITS FALSE NEIGHBOUR: 'it returns false'. Refute it at one input. -/
def suppressAnswersWrong : ChangeSpec := { name := "suppressAnswers", fn := fun _ => fun
  | [d1, d2, d3, d4, d5] => { results := [.lit (.bool false)], args := [d1, d2, d3, d4, d5] }
  | _ => none }
def SuppressAnswersWrongFalsely : Prop := suppressAnswersRow.holds Tryz.pinned (OpenSpec.ofChange suppressAnswersWrong)

/-- 'dataenclavelaw33.SuppressLeast': WHATEVER THE INPUT: true; the input reads as it did. -/
def suppressLeastSpec : ChangeSpec := { name := "suppressLeast", fn := fun _ => fun
  | [d1, d2] => { results := [.lit (.bool true)], args := [d1, d2] }
  | _ => none }
def suppressLeastRow : OpenClaim := { program := "ytcmdemfhbekabaagreat", sum := "90e975984d972523d190ea76bea1ff1aa5657da84146242c69dcde81b75a909a", func := "dataenclave/dataenclavelaw33.SuppressLeast", spec := "suppressLeast", unfollowed := true, recurses := true, apart := false }
def SuppressLeastSaid : Prop := suppressLeastRow.holds Tryz.pinned (OpenSpec.ofChange suppressLeastSpec)

/-- ITS FALSE NEIGHBOUR: 'it returns false'. Refute it at one input. -/
def suppressLeastWrong : ChangeSpec := { name := "suppressLeast", fn := fun _ => fun
  | [d1, d2] => { results := [.lit (.bool false)], args := [d1, d2] }
  | _ => none }
def SuppressLeastWrongFalsely : Prop := suppressLeastRow.holds Tryz.pinned (OpenSpec.ofChange suppressLeastWrong)

/-- 'dataenclavelaw33.SuppressNothing': WHATEVER THE INPUT: true; the input reads as it did. -/
def suppressNothingSpec : ChangeSpec := { name := "suppressNothing", fn := fun _ => fun
  | [d1, d2] => { results := [.lit (.bool true)], args := [d1, d2] }
  | _ => none }
def suppressNothingRow : OpenClaim := { program := "ytcmdemfhbekabaagreat", sum := "90e975984d972523d190ea76bea1ff1aa5657da84146242c69dcde81b75a909a", func := "dataenclave/dataenclavelaw33.SuppressNothing", spec := "suppressNothing", unfollowed := true, recurses := true, apart := false }
def SuppressNothingSaid : Prop := suppressNothingRow.holds Tryz.pinned (OpenSpec.ofChange suppressNothingSpec)

/-- ITS FALSE NEIGHBOUR: 'it returns false'. Refute it at one input. -/
def suppressNothingWrong : ChangeSpec := { name := "suppressNothing", fn := fun _ => fun
  | [d1, d2] => { results := [.lit (.bool false)], args := [d1, d2] }
  | _ => none }
def SuppressNothingWrongFalsely : Prop := suppressNothingRow.holds Tryz.pinned (OpenSpec.ofChange suppressNothingWrong)

/-- 'dataenclavelaw33.SuppressMore': WHATEVER THE INPUT: true; the input reads as it did. -/
def suppressMoreSpec : ChangeSpec := { name := "suppressMore", fn := fun _ => fun
  | [d1, d2] => { results := [.lit (.bool true)], args := [d1, d2] }
  | _ => none }
def suppressMoreRow : OpenClaim := { program := "ytcmdemfhbekabaagreat", sum := "90e975984d972523d190ea76bea1ff1aa5657da84146242c69dcde81b75a909a", func := "dataenclave/dataenclavelaw33.SuppressMore", spec := "suppressMore", unfollowed := true, recurses := true, apart := false }
def SuppressMoreSaid : Prop := suppressMoreRow.holds Tryz.pinned (OpenSpec.ofChange suppressMoreSpec)

/-- ITS FALSE NEIGHBOUR: 'it returns false'. Refute it at one input. -/
def suppressMoreWrong : ChangeSpec := { name := "suppressMore", fn := fun _ => fun
  | [d1, d2] => { results := [.lit (.bool false)], args := [d1, d2] }
  | _ => none }
def SuppressMoreWrongFalsely : Prop := suppressMoreRow.holds Tryz.pinned (OpenSpec.ofChange suppressMoreWrong)

/- THE SECOND FORM. 'bulk': how many values and letters a reading holds, each counted each time it is reached (what is shared counts as often as it is met; a slice's spare places count too). A statement '..UptoSaid' is the law's where the arguments, and the package variables that the reading takes, are together of bulk at most 1048576: NARROWER than '..Said'. Prove '..Said' where nothing that the law and all that it calls make is longer than what came in: it says more and counts as full. Else prove '..UptoSaid'. A law counts once. -/
mutual
def uptoBulk {H : Type} : DataW H → Nat
  | .lit (.string bytes) => bytes.length + 1
  | .lit _ => 1
  | .nil => 1
  | .ptr d => uptoBulk d + 1
  | .slice elems spare => uptoBulkAll elems + uptoBulkAll spare + 1
  | .agg parts => uptoBulkAll parts + 1
  | .iface _ d => uptoBulk d + 1
  | .map entries => uptoBulkEntries entries + 1
  | .held _ => 1
def uptoBulkAll {H : Type} : List (DataW H) → Nat
  | [] => 0
  | d :: r => uptoBulk d + uptoBulkAll r
def uptoBulkEntries {H : Type} : List (Lit × DataW H) → Nat
  | [] => 0
  | x :: r => uptoBulkEntry x + uptoBulkEntries r
def uptoBulkEntry {H : Type} : Lit × DataW H → Nat
  | (.string bytes, d) => bytes.length + uptoBulk d + 1
  | (_, d) => uptoBulk d + 1
 end
def uptoSmall : (H : Type) → List (DataW H) → Bool := fun _ ds => decide (uptoBulkAll ds ≤ 1048576)
def OpenSpec.upto (s : _root_.Go.ChangeSpec) : _root_.Go.OpenSpec := { _root_.Go.OpenSpec.ofChange s with cond := some uptoSmall }

/-- 'dataenclavelaw32.DifferencingMargins', WHERE WHAT IT READS IS OF BULK AT MOST 1048576: true; the input reads as it did. -/
def differencingMarginsUptoRow : OpenClaim := { program := "ytcmdemfhbekabaagreat", sum := "90e975984d972523d190ea76bea1ff1aa5657da84146242c69dcde81b75a909a", func := "dataenclave/dataenclavelaw32.DifferencingMargins", spec := "differencingMargins", unfollowed := true, recurses := true, apart := false, narrowed := true }
def DifferencingMarginsUptoSaid : Prop := differencingMarginsUptoRow.holds Tryz.pinned (OpenSpec.upto differencingMarginsSpec)

/-- 'dataenclavelaw32.DifferencingWitness', WHERE WHAT IT READS IS OF BULK AT MOST 1048576: true; the input reads as it did. -/
def differencingWitnessUptoRow : OpenClaim := { program := "ytcmdemfhbekabaagreat", sum := "90e975984d972523d190ea76bea1ff1aa5657da84146242c69dcde81b75a909a", func := "dataenclave/dataenclavelaw32.DifferencingWitness", spec := "differencingWitness", unfollowed := true, recurses := true, apart := false, narrowed := true }
def DifferencingWitnessUptoSaid : Prop := differencingWitnessUptoRow.holds Tryz.pinned (OpenSpec.upto differencingWitnessSpec)

/-- 'dataenclavelaw43.AttackerReaches', WHERE WHAT IT READS IS OF BULK AT MOST 1048576: true; the input reads as it did. -/
def attackerReachesUptoRow : OpenClaim := { program := "ytcmdemfhbekabaagreat", sum := "90e975984d972523d190ea76bea1ff1aa5657da84146242c69dcde81b75a909a", func := "dataenclave/dataenclavelaw43.AttackerReaches", spec := "attackerReaches", unfollowed := true, recurses := true, apart := false, narrowed := true }
def AttackerReachesUptoSaid : Prop := attackerReachesUptoRow.holds Tryz.pinned (OpenSpec.upto attackerReachesSpec)

/-- 'dataenclavelaw32.DifferencingAnswers', WHERE WHAT IT READS IS OF BULK AT MOST 1048576: true; the input reads as it did. -/
def differencingAnswersUptoRow : OpenClaim := { program := "ytcmdemfhbekabaagreat", sum := "90e975984d972523d190ea76bea1ff1aa5657da84146242c69dcde81b75a909a", func := "dataenclave/dataenclavelaw32.DifferencingAnswers", spec := "differencingAnswers", unfollowed := true, recurses := true, apart := false, narrowed := true }
def DifferencingAnswersUptoSaid : Prop := differencingAnswersUptoRow.holds Tryz.pinned (OpenSpec.upto differencingAnswersSpec)

/-- 'dataenclavelaw43.AttackerAnswers', WHERE WHAT IT READS IS OF BULK AT MOST 1048576: true; the input reads as it did. -/
def attackerAnswersUptoRow : OpenClaim := { program := "ytcmdemfhbekabaagreat", sum := "90e975984d972523d190ea76bea1ff1aa5657da84146242c69dcde81b75a909a", func := "dataenclave/dataenclavelaw43.AttackerAnswers", spec := "attackerAnswers", unfollowed := true, recurses := true, apart := false, narrowed := true }
def AttackerAnswersUptoSaid : Prop := attackerAnswersUptoRow.holds Tryz.pinned (OpenSpec.upto attackerAnswersSpec)

/-- 'dataenclavelaw33.SuppressAnswers', WHERE WHAT IT READS IS OF BULK AT MOST 1048576: true; the input reads as it did. -/
def suppressAnswersUptoRow : OpenClaim := { program := "ytcmdemfhbekabaagreat", sum := "90e975984d972523d190ea76bea1ff1aa5657da84146242c69dcde81b75a909a", func := "dataenclave/dataenclavelaw33.SuppressAnswers", spec := "suppressAnswers", unfollowed := true, recurses := true, apart := false, narrowed := true }
def SuppressAnswersUptoSaid : Prop := suppressAnswersUptoRow.holds Tryz.pinned (OpenSpec.upto suppressAnswersSpec)

/-- 'dataenclavelaw33.SuppressLeast', WHERE WHAT IT READS IS OF BULK AT MOST 1048576: true; the input reads as it did. -/
def suppressLeastUptoRow : OpenClaim := { program := "ytcmdemfhbekabaagreat", sum := "90e975984d972523d190ea76bea1ff1aa5657da84146242c69dcde81b75a909a", func := "dataenclave/dataenclavelaw33.SuppressLeast", spec := "suppressLeast", unfollowed := true, recurses := true, apart := false, narrowed := true }
def SuppressLeastUptoSaid : Prop := suppressLeastUptoRow.holds Tryz.pinned (OpenSpec.upto suppressLeastSpec)

/-- 'dataenclavelaw33.SuppressNothing', WHERE WHAT IT READS IS OF BULK AT MOST 1048576: true; the input reads as it did. -/
def suppressNothingUptoRow : OpenClaim := { program := "ytcmdemfhbekabaagreat", sum := "90e975984d972523d190ea76bea1ff1aa5657da84146242c69dcde81b75a909a", func := "dataenclave/dataenclavelaw33.SuppressNothing", spec := "suppressNothing", unfollowed := true, recurses := true, apart := false, narrowed := true }
def SuppressNothingUptoSaid : Prop := suppressNothingUptoRow.holds Tryz.pinned (OpenSpec.upto suppressNothingSpec)

/-- 'dataenclavelaw33.SuppressMore', WHERE WHAT IT READS IS OF BULK AT MOST 1048576: true; the input reads as it did. -/
def suppressMoreUptoRow : OpenClaim := { program := "ytcmdemfhbekabaagreat", sum := "90e975984d972523d190ea76bea1ff1aa5657da84146242c69dcde81b75a909a", func := "dataenclave/dataenclavelaw33.SuppressMore", spec := "suppressMore", unfollowed := true, recurses := true, apart := false, narrowed := true }
def SuppressMoreUptoSaid : Prop := suppressMoreUptoRow.holds Tryz.pinned (OpenSpec.upto suppressMoreSpec)

end Rows
end Go.Proofs.YtcmdemfhbekabaaGreat
