/-
  No cell of these rows narrows 'for every input' (looked for: loops, veiled, ifaces, maps, wideKeys, modest, calm, conditions, laid).
  DERIVED. THE GIVEN ROWS OF THIS SEAT. 4 by the template 'for every input the law returns true; each argument reads behind the call as it read before'; 0 by the template 'total and deterministic' (their statements: YtddameoiafgfbaaTotals.lean).
  GIVEN WITH THE SEED: the statements are not yours to turn. If you find one false, say at which input.
  Laid BY PROGRAM, IN A SANDBOX (cutbox-rows.mjs): the forced cells as the released guide's own fill.sh prints them over the translation 7c9d798ca2c236c1… (all of the seat's roots in one cut). By AI agents, Wed Nov 11 2026. No macro, syntax, notation, axiom, sorry.
-/
import Derived.Test.YtddameoiafgfbaaChecked
import GoSem.Claim
import GoSem.ClaimJoined
import GoSem.ClaimMapViews
import Derived.JoinedTies
import Derived.KernelRfl
namespace Go.Proofs.Ytddameoiafgfbaa
/- THE CELL 'sum', in the pinned program and in every row, IS THE sha256 OF THE DUMP (.gsa) THAT YtddameoiafgfbaaProg.lean LOADS. Nothing in Lean hashes anything: it is a label: what it is worth is what the hold of that sum in a sandbox is worth. -/
noncomputable def Try.pinned : Pinned := { name := "ytddameoiafgfbaa", sum := "7c9d798ca2c236c13af425a89b0a18c883f51866065e38686172e047f610e921", checked := Try.checked }
namespace Rows
def none {H : Type} : Left H := { results := [], args := [] }

/-- 'dataenclavelaw15.LineageSets': WHATEVER THE INPUT: true; the input reads as it did. -/
def lineageSetsSpec : ChangeSpec := { name := "lineageSets", fn := fun _ => fun
  | [d1, d2, d3, d4, d5] => { results := [.lit (.bool true)], args := [d1, d2, d3, d4, d5] }
  | _ => none }
def lineageSetsRow : OpenClaim := { program := "ytddameoiafgfbaa", sum := "7c9d798ca2c236c13af425a89b0a18c883f51866065e38686172e047f610e921", func := "dataenclave/dataenclavelaw15.LineageSets", spec := "lineageSets", recurses := true, apart := false }
def LineageSetsSaid : Prop := lineageSetsRow.holds Try.pinned (OpenSpec.ofChange lineageSetsSpec)

/-- ITS FALSE NEIGHBOUR: 'it returns false'. Refute it at one input. -/
def lineageSetsWrong : ChangeSpec := { name := "lineageSets", fn := fun _ => fun
  | [d1, d2, d3, d4, d5] => { results := [.lit (.bool false)], args := [d1, d2, d3, d4, d5] }
  | _ => none }
def LineageSetsWrongFalsely : Prop := lineageSetsRow.holds Try.pinned (OpenSpec.ofChange lineageSetsWrong)

/-- 'dataenclavelaw15.LineageMembers': WHATEVER THE INPUT: true; the input reads as it did. -/
def lineageMembersSpec : ChangeSpec := { name := "lineageMembers", fn := fun _ => fun
  | [d1, d2, d3] => { results := [.lit (.bool true)], args := [d1, d2, d3] }
  | _ => none }
def lineageMembersRow : OpenClaim := { program := "ytddameoiafgfbaa", sum := "7c9d798ca2c236c13af425a89b0a18c883f51866065e38686172e047f610e921", func := "dataenclave/dataenclavelaw15.LineageMembers", spec := "lineageMembers", recurses := true, apart := false }
def LineageMembersSaid : Prop := lineageMembersRow.holds Try.pinned (OpenSpec.ofChange lineageMembersSpec)

/-- ITS FALSE NEIGHBOUR: 'it returns false'. Refute it at one input. -/
def lineageMembersWrong : ChangeSpec := { name := "lineageMembers", fn := fun _ => fun
  | [d1, d2, d3] => { results := [.lit (.bool false)], args := [d1, d2, d3] }
  | _ => none }
def LineageMembersWrongFalsely : Prop := lineageMembersRow.holds Try.pinned (OpenSpec.ofChange lineageMembersWrong)

/-- 'dataenclavelaw15.LineageLaws': WHATEVER THE INPUT: true; the input reads as it did. -/
def lineageLawsSpec : ChangeSpec := { name := "lineageLaws", fn := fun _ => fun
  | [d1, d2, d3] => { results := [.lit (.bool true)], args := [d1, d2, d3] }
  | _ => none }
def lineageLawsRow : OpenClaim := { program := "ytddameoiafgfbaa", sum := "7c9d798ca2c236c13af425a89b0a18c883f51866065e38686172e047f610e921", func := "dataenclave/dataenclavelaw15.LineageLaws", spec := "lineageLaws", recurses := true, apart := false }
def LineageLawsSaid : Prop := lineageLawsRow.holds Try.pinned (OpenSpec.ofChange lineageLawsSpec)

/-- ITS FALSE NEIGHBOUR: 'it returns false'. Refute it at one input. -/
def lineageLawsWrong : ChangeSpec := { name := "lineageLaws", fn := fun _ => fun
  | [d1, d2, d3] => { results := [.lit (.bool false)], args := [d1, d2, d3] }
  | _ => none }
def LineageLawsWrongFalsely : Prop := lineageLawsRow.holds Try.pinned (OpenSpec.ofChange lineageLawsWrong)

/-- 'dataenclavelaw15.LineageOrder': WHATEVER THE INPUT: true; the input reads as it did. -/
def lineageOrderSpec : ChangeSpec := { name := "lineageOrder", fn := fun _ => fun
  | [d1, d2] => { results := [.lit (.bool true)], args := [d1, d2] }
  | _ => none }
def lineageOrderRow : OpenClaim := { program := "ytddameoiafgfbaa", sum := "7c9d798ca2c236c13af425a89b0a18c883f51866065e38686172e047f610e921", func := "dataenclave/dataenclavelaw15.LineageOrder", spec := "lineageOrder", recurses := true, apart := false }
def LineageOrderSaid : Prop := lineageOrderRow.holds Try.pinned (OpenSpec.ofChange lineageOrderSpec)

/-- ITS FALSE NEIGHBOUR: 'it returns false'. Refute it at one input. -/
def lineageOrderWrong : ChangeSpec := { name := "lineageOrder", fn := fun _ => fun
  | [d1, d2] => { results := [.lit (.bool false)], args := [d1, d2] }
  | _ => none }
def LineageOrderWrongFalsely : Prop := lineageOrderRow.holds Try.pinned (OpenSpec.ofChange lineageOrderWrong)

/- THE SECOND FORM. 'bulk': how many values and letters a reading holds, each counted each time it is reached (what is shared counts as often as it is met; a slice's spare places count too). A statement '..UptoSaid' is the law's where the arguments, and the package variables that the reading takes, are together of bulk at most 1048576: NARROWER than '..Said'. Prove '..Said' where nothing that the law and all that it calls make is longer than what came in: it says more and counts as full. Else prove '..UptoSaid'. A law counts once. -/
mutual
def uptoBulk {H : Type} : DataW H → Nat
  | .lit (.string bytes) => bytes.length + 1
  | .lit _ => 1
  | .nil => 1
  | .ptr d => uptoBulk d + 1
  | .slice elems spare => uptoBulkAll elems + uptoBulkAll spare + 1
  | .agg parts => uptoBulkAll parts + 1
  | .iface _ d => uptoBulk d + 1
  | .map entries => uptoBulkEntries entries + 1
  | .held _ => 1
def uptoBulkAll {H : Type} : List (DataW H) → Nat
  | [] => 0
  | d :: r => uptoBulk d + uptoBulkAll r
def uptoBulkEntries {H : Type} : List (Lit × DataW H) → Nat
  | [] => 0
  | x :: r => uptoBulkEntry x + uptoBulkEntries r
def uptoBulkEntry {H : Type} : Lit × DataW H → Nat
  | (.string bytes, d) => bytes.length + uptoBulk d + 1
  | (_, d) => uptoBulk d + 1
 end
def uptoSmall : (H : Type) → List (DataW H) → Bool := fun _ ds => decide (uptoBulkAll ds ≤ 1048576)
def OpenSpec.upto (s : _root_.Go.ChangeSpec) : _root_.Go.OpenSpec := { _root_.Go.OpenSpec.ofChange s with cond := some uptoSmall }

/-- 'dataenclavelaw15.LineageSets', WHERE WHAT IT READS IS OF BULK AT MOST 1048576: true; the input reads as it did. -/
def lineageSetsUptoRow : OpenClaim := { program := "ytddameoiafgfbaa", sum := "7c9d798ca2c236c13af425a89b0a18c883f51866065e38686172e047f610e921", func := "dataenclave/dataenclavelaw15.LineageSets", spec := "lineageSets", recurses := true, apart := false, narrowed := true }
def LineageSetsUptoSaid : Prop := lineageSetsUptoRow.holds Try.pinned (OpenSpec.upto lineageSetsSpec)

/-- 'dataenclavelaw15.LineageMembers', WHERE WHAT IT READS IS OF BULK AT MOST 1048576: true; the input reads as it did. -/
def lineageMembersUptoRow : OpenClaim := { program := "ytddameoiafgfbaa", sum := "7c9d798ca2c236c13af425a89b0a18c883f51866065e38686172e047f610e921", func := "dataenclave/dataenclavelaw15.LineageMembers", spec := "lineageMembers", recurses := true, apart := false, narrowed := true }
def LineageMembersUptoSaid : Prop := lineageMembersUptoRow.holds Try.pinned (OpenSpec.upto lineageMembersSpec)

/-- 'dataenclavelaw15.LineageLaws', WHERE WHAT IT READS IS OF BULK AT MOST 1048576: true; the input reads as it did. -/
def lineageLawsUptoRow : OpenClaim := { program := "ytddameoiafgfbaa", sum := "7c9d798ca2c236c13af425a89b0a18c883f51866065e38686172e047f610e921", func := "dataenclave/dataenclavelaw15.LineageLaws", spec := "lineageLaws", recurses := true, apart := false, narrowed := true }
def LineageLawsUptoSaid : Prop := lineageLawsUptoRow.holds Try.pinned (OpenSpec.upto lineageLawsSpec)

/-- 'dataenclavelaw15.LineageOrder', WHERE WHAT IT READS IS OF BULK AT MOST 1048576: true; the input reads as it did. -/
def lineageOrderUptoRow : OpenClaim := { program := "ytddameoiafgfbaa", sum := "7c9d798ca2c236c13af425a89b0a18c883f51866065e38686172e047f610e921", func := "dataenclave/dataenclavelaw15.LineageOrder", spec := "lineageOrder", recurses := true, apart := false, narrowed := true }
def LineageOrderUptoSaid : Prop := lineageOrderUptoRow.holds Try.pinned (OpenSpec.upto lineageOrderSpec)

end Rows
end Go.Proofs.Ytddameoiafgfbaa
