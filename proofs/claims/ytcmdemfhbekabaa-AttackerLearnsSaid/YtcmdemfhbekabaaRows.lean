/-
  No cell of these rows narrows 'for every input' (looked for: loops, veiled, ifaces, maps, wideKeys, modest, calm, conditions, laid).
  DERIVED. THE GIVEN ROWS OF THIS SEAT. 3 by the template 'for every input the law returns true; each argument reads behind the call as it read before'; 0 by the template 'total and deterministic' (their statements: YtcmdemfhbekabaaTotals.lean).
  GIVEN WITH THE SEED: the statements are not yours to turn. If you find one false, say at which input.
  Laid BY PROGRAM, IN A SANDBOX (cutbox-rows.mjs): the forced cells as the released guide's own fill.sh prints them over the translation 0582eaf912658cc8… (all of the seat's roots in one cut). By AI agents, Wed Nov 11 2026. No macro, syntax, notation, axiom, sorry.
-/
import Derived.Test.YtcmdemfhbekabaaChecked
import GoSem.Claim
import GoSem.ClaimJoined
import GoSem.ClaimMapViews
import Derived.JoinedTies
import Derived.KernelRfl
namespace Go.Proofs.Ytcmdemfhbekabaa
/- THE CELL 'sum', in the pinned program and in every row, IS THE sha256 OF THE DUMP (.gsa) THAT YtcmdemfhbekabaaProg.lean LOADS. Nothing in Lean hashes anything: it is a label: what it is worth is what the hold of that sum in a sandbox is worth. -/
noncomputable def Try.pinned : Pinned := { name := "ytcmdemfhbekabaa", sum := "0582eaf912658cc84f2615a529429beac9b29006aa4ba372062ac0cd4e139ac8", checked := Try.checked }
namespace Rows
def none {H : Type} : Left H := { results := [], args := [] }

/-- 'dataenclavelaw32.DifferencingGrows': WHATEVER THE INPUT: true; the input reads as it did. -/
def differencingGrowsSpec : ChangeSpec := { name := "differencingGrows", fn := fun _ => fun
  | [d1, d2] => { results := [.lit (.bool true)], args := [d1, d2] }
  | _ => none }
def differencingGrowsRow : OpenClaim := { program := "ytcmdemfhbekabaa", sum := "0582eaf912658cc84f2615a529429beac9b29006aa4ba372062ac0cd4e139ac8", func := "dataenclave/dataenclavelaw32.DifferencingGrows", spec := "differencingGrows", unfollowed := true, recurses := true, apart := false }
def DifferencingGrowsSaid : Prop := differencingGrowsRow.holds Try.pinned (OpenSpec.ofChange differencingGrowsSpec)

/-- ITS FALSE NEIGHBOUR: 'it returns false'. Refute it at one input. -/
def differencingGrowsWrong : ChangeSpec := { name := "differencingGrows", fn := fun _ => fun
  | [d1, d2] => { results := [.lit (.bool false)], args := [d1, d2] }
  | _ => none }
def DifferencingGrowsWrongFalsely : Prop := differencingGrowsRow.holds Try.pinned (OpenSpec.ofChange differencingGrowsWrong)

/-- 'dataenclavelaw32.DifferencingCauses': WHATEVER THE INPUT: true; the input reads as it did. -/
def differencingCausesSpec : ChangeSpec := { name := "differencingCauses", fn := fun _ => fun
  | [d1, d2] => { results := [.lit (.bool true)], args := [d1, d2] }
  | _ => none }
def differencingCausesRow : OpenClaim := { program := "ytcmdemfhbekabaa", sum := "0582eaf912658cc84f2615a529429beac9b29006aa4ba372062ac0cd4e139ac8", func := "dataenclave/dataenclavelaw32.DifferencingCauses", spec := "differencingCauses", unfollowed := true, recurses := true, apart := false }
def DifferencingCausesSaid : Prop := differencingCausesRow.holds Try.pinned (OpenSpec.ofChange differencingCausesSpec)

/-- ITS FALSE NEIGHBOUR: 'it returns false'. Refute it at one input. -/
def differencingCausesWrong : ChangeSpec := { name := "differencingCauses", fn := fun _ => fun
  | [d1, d2] => { results := [.lit (.bool false)], args := [d1, d2] }
  | _ => none }
def DifferencingCausesWrongFalsely : Prop := differencingCausesRow.holds Try.pinned (OpenSpec.ofChange differencingCausesWrong)

/-- 'dataenclavelaw43.AttackerLearns': WHATEVER THE INPUT: true; the input reads as it did. -/
def attackerLearnsSpec : ChangeSpec := { name := "attackerLearns", fn := fun _ => fun
  | [d] => { results := [.lit (.bool true)], args := [d] }
  | _ => none }
def attackerLearnsRow : OpenClaim := { program := "ytcmdemfhbekabaa", sum := "0582eaf912658cc84f2615a529429beac9b29006aa4ba372062ac0cd4e139ac8", func := "dataenclave/dataenclavelaw43.AttackerLearns", spec := "attackerLearns", unfollowed := true, recurses := true, apart := false }
def AttackerLearnsSaid : Prop := attackerLearnsRow.holds Try.pinned (OpenSpec.ofChange attackerLearnsSpec)

/-- ITS FALSE NEIGHBOUR: 'it returns false'. Refute it at one input. -/
def attackerLearnsWrong : ChangeSpec := { name := "attackerLearns", fn := fun _ => fun
  | [d] => { results := [.lit (.bool false)], args := [d] }
  | _ => none }
def AttackerLearnsWrongFalsely : Prop := attackerLearnsRow.holds Try.pinned (OpenSpec.ofChange attackerLearnsWrong)

/- THE SECOND FORM. 'bulk': how many values and letters a reading holds, each counted each time it is reached (what is shared counts as often as it is met; a slice's spare places count too). A statement '..UptoSaid' is the law's where the arguments, and the package variables that the reading takes, are together of bulk at most 1048576: NARROWER than '..Said'. Prove '..Said' where nothing that the law and all that it calls make is longer than what came in: it says more and counts as full. Else prove '..UptoSaid'. A law counts once. -/
mutual
def uptoBulk {H : Type} : DataW H → Nat
  | .lit (.string bytes) => bytes.length + 1
  | .lit _ => 1
  | .nil => 1
  | .ptr d => uptoBulk d + 1
  | .slice elems spare => uptoBulkAll elems + uptoBulkAll spare + 1
  | .agg parts => uptoBulkAll parts + 1
  | .iface _ d => uptoBulk d + 1
  | .map entries => uptoBulkEntries entries + 1
  | .held _ => 1
def uptoBulkAll {H : Type} : List (DataW H) → Nat
  | [] => 0
  | d :: r => uptoBulk d + uptoBulkAll r
def uptoBulkEntries {H : Type} : List (Lit × DataW H) → Nat
  | [] => 0
  | x :: r => uptoBulkEntry x + uptoBulkEntries r
def uptoBulkEntry {H : Type} : Lit × DataW H → Nat
  | (.string bytes, d) => bytes.length + uptoBulk d + 1
  | (_, d) => uptoBulk d + 1
 end
def uptoSmall : (H : Type) → List (DataW H) → Bool := fun _ ds => decide (uptoBulkAll ds ≤ 1048576)
def OpenSpec.upto (s : _root_.Go.ChangeSpec) : _root_.Go.OpenSpec := { _root_.Go.OpenSpec.ofChange s with cond := some uptoSmall }

/-- 'dataenclavelaw32.DifferencingGrows', WHERE WHAT IT READS IS OF BULK AT MOST 1048576: true; the input reads as it did. -/
def differencingGrowsUptoRow : OpenClaim := { program := "ytcmdemfhbekabaa", sum := "0582eaf912658cc84f2615a529429beac9b29006aa4ba372062ac0cd4e139ac8", func := "dataenclave/dataenclavelaw32.DifferencingGrows", spec := "differencingGrows", unfollowed := true, recurses := true, apart := false, narrowed := true }
def DifferencingGrowsUptoSaid : Prop := differencingGrowsUptoRow.holds Try.pinned (OpenSpec.upto differencingGrowsSpec)

/-- 'dataenclavelaw32.DifferencingCauses', WHERE WHAT IT READS IS OF BULK AT MOST 1048576: true; the input reads as it did. -/
def differencingCausesUptoRow : OpenClaim := { program := "ytcmdemfhbekabaa", sum := "0582eaf912658cc84f2615a529429beac9b29006aa4ba372062ac0cd4e139ac8", func := "dataenclave/dataenclavelaw32.DifferencingCauses", spec := "differencingCauses", unfollowed := true, recurses := true, apart := false, narrowed := true }
def DifferencingCausesUptoSaid : Prop := differencingCausesUptoRow.holds Try.pinned (OpenSpec.upto differencingCausesSpec)

/-- 'dataenclavelaw43.AttackerLearns', WHERE WHAT IT READS IS OF BULK AT MOST 1048576: true; the input reads as it did. -/
def attackerLearnsUptoRow : OpenClaim := { program := "ytcmdemfhbekabaa", sum := "0582eaf912658cc84f2615a529429beac9b29006aa4ba372062ac0cd4e139ac8", func := "dataenclave/dataenclavelaw43.AttackerLearns", spec := "attackerLearns", unfollowed := true, recurses := true, apart := false, narrowed := true }
def AttackerLearnsUptoSaid : Prop := attackerLearnsUptoRow.holds Try.pinned (OpenSpec.upto attackerLearnsSpec)

end Rows
end Go.Proofs.Ytcmdemfhbekabaa
