/-
  No cell of these rows narrows 'for every input' (looked for: loops, veiled, ifaces, maps, wideKeys, modest, calm, conditions, laid).
  DERIVED. THE GIVEN ROWS OF THIS SEAT. 3 by the template 'for every input the law returns true; each argument reads behind the call as it read before'; 0 by the template 'total and deterministic' (their statements: YtpmlehplbobjmaaTotals.lean).
  GIVEN WITH THE SEED: the statements are not yours to turn. If you find one false, say at which input.
  Laid BY PROGRAM, IN A SANDBOX (cutbox-rows.mjs): the forced cells as the released guide's own fill.sh prints them over the translation 8124bdab74cbd6b8… (all of the seat's roots in one cut). By AI agents, Wed Nov 11 2026. No macro, syntax, notation, axiom, sorry.
-/
import Derived.Test.YtpmlehplbobjmaaChecked
import GoSem.Claim
import GoSem.ClaimJoined
import GoSem.ClaimMapViews
import Derived.JoinedTies
import Derived.KernelRfl
namespace Go.Proofs.Ytpmlehplbobjmaa
/- THE CELL 'sum', in the pinned program and in every row, IS THE sha256 OF THE DUMP (.gsa) THAT YtpmlehplbobjmaaProg.lean LOADS. Nothing in Lean hashes anything: it is a label: what it is worth is what the hold of that sum in a sandbox is worth. -/
noncomputable def Try.pinned : Pinned := { name := "ytpmlehplbobjmaa", sum := "8124bdab74cbd6b8ff5eb1aa0103cc555d83258031f4089462e3b0532fd505b5", checked := Try.checked }
namespace Rows
def none {H : Type} : Left H := { results := [], args := [] }

/-- 'dataenclavelaw28.CellsDivide': WHATEVER THE INPUT: true; the input reads as it did. -/
def cellsDivideSpec : ChangeSpec := { name := "cellsDivide", fn := fun _ => fun
  | [d] => { results := [.lit (.bool true)], args := [d] }
  | _ => none }
def cellsDivideRow : OpenClaim := { program := "ytpmlehplbobjmaa", sum := "8124bdab74cbd6b8ff5eb1aa0103cc555d83258031f4089462e3b0532fd505b5", func := "dataenclave/dataenclavelaw28.CellsDivide", spec := "cellsDivide", unfollowed := true, recurses := true, apart := false }
def CellsDivideSaid : Prop := cellsDivideRow.holds Try.pinned (OpenSpec.ofChange cellsDivideSpec)

/-- ITS FALSE NEIGHBOUR: 'it returns false'. Refute it at one input. -/
def cellsDivideWrong : ChangeSpec := { name := "cellsDivide", fn := fun _ => fun
  | [d] => { results := [.lit (.bool false)], args := [d] }
  | _ => none }
def CellsDivideWrongFalsely : Prop := cellsDivideRow.holds Try.pinned (OpenSpec.ofChange cellsDivideWrong)

/-- 'dataenclavelaw28.CellsBack': WHATEVER THE INPUT: true; the input reads as it did. -/
def cellsBackSpec : ChangeSpec := { name := "cellsBack", fn := fun _ => fun
  | [d] => { results := [.lit (.bool true)], args := [d] }
  | _ => none }
def cellsBackRow : OpenClaim := { program := "ytpmlehplbobjmaa", sum := "8124bdab74cbd6b8ff5eb1aa0103cc555d83258031f4089462e3b0532fd505b5", func := "dataenclave/dataenclavelaw28.CellsBack", spec := "cellsBack", unfollowed := true, recurses := true, apart := false }
def CellsBackSaid : Prop := cellsBackRow.holds Try.pinned (OpenSpec.ofChange cellsBackSpec)

/-- ITS FALSE NEIGHBOUR: 'it returns false'. Refute it at one input. -/
def cellsBackWrong : ChangeSpec := { name := "cellsBack", fn := fun _ => fun
  | [d] => { results := [.lit (.bool false)], args := [d] }
  | _ => none }
def CellsBackWrongFalsely : Prop := cellsBackRow.holds Try.pinned (OpenSpec.ofChange cellsBackWrong)

/-- 'dataenclavelaw28.CellsOrder': WHATEVER THE INPUT: true; the input reads as it did. -/
def cellsOrderSpec : ChangeSpec := { name := "cellsOrder", fn := fun _ => fun
  | [d] => { results := [.lit (.bool true)], args := [d] }
  | _ => none }
def cellsOrderRow : OpenClaim := { program := "ytpmlehplbobjmaa", sum := "8124bdab74cbd6b8ff5eb1aa0103cc555d83258031f4089462e3b0532fd505b5", func := "dataenclave/dataenclavelaw28.CellsOrder", spec := "cellsOrder", unfollowed := true, recurses := true, apart := false }
def CellsOrderSaid : Prop := cellsOrderRow.holds Try.pinned (OpenSpec.ofChange cellsOrderSpec)

/-- ITS FALSE NEIGHBOUR: 'it returns false'. Refute it at one input. -/
def cellsOrderWrong : ChangeSpec := { name := "cellsOrder", fn := fun _ => fun
  | [d] => { results := [.lit (.bool false)], args := [d] }
  | _ => none }
def CellsOrderWrongFalsely : Prop := cellsOrderRow.holds Try.pinned (OpenSpec.ofChange cellsOrderWrong)

/- THE SECOND FORM. 'bulk': how many values and letters a reading holds, each counted each time it is reached (what is shared counts as often as it is met; a slice's spare places count too). A statement '..UptoSaid' is the law's where the arguments, and the package variables that the reading takes, are together of bulk at most 1048576: NARROWER than '..Said'. Prove '..Said' where nothing that the law and all that it calls make is longer than what came in: it says more and counts as full. Else prove '..UptoSaid'. A law counts once. -/
mutual
def uptoBulk {H : Type} : DataW H → Nat
  | .lit (.string bytes) => bytes.length + 1
  | .lit _ => 1
  | .nil => 1
  | .ptr d => uptoBulk d + 1
  | .slice elems spare => uptoBulkAll elems + uptoBulkAll spare + 1
  | .agg parts => uptoBulkAll parts + 1
  | .iface _ d => uptoBulk d + 1
  | .map entries => uptoBulkEntries entries + 1
  | .held _ => 1
def uptoBulkAll {H : Type} : List (DataW H) → Nat
  | [] => 0
  | d :: r => uptoBulk d + uptoBulkAll r
def uptoBulkEntries {H : Type} : List (Lit × DataW H) → Nat
  | [] => 0
  | x :: r => uptoBulkEntry x + uptoBulkEntries r
def uptoBulkEntry {H : Type} : Lit × DataW H → Nat
  | (.string bytes, d) => bytes.length + uptoBulk d + 1
  | (_, d) => uptoBulk d + 1
 end
def uptoSmall : (H : Type) → List (DataW H) → Bool := fun _ ds => decide (uptoBulkAll ds ≤ 1048576)
def OpenSpec.upto (s : _root_.Go.ChangeSpec) : _root_.Go.OpenSpec := { _root_.Go.OpenSpec.ofChange s with cond := some uptoSmall }

/-- 'dataenclavelaw28.CellsDivide', WHERE WHAT IT READS IS OF BULK AT MOST 1048576: true; the input reads as it did. -/
def cellsDivideUptoRow : OpenClaim := { program := "ytpmlehplbobjmaa", sum := "8124bdab74cbd6b8ff5eb1aa0103cc555d83258031f4089462e3b0532fd505b5", func := "dataenclave/dataenclavelaw28.CellsDivide", spec := "cellsDivide", unfollowed := true, recurses := true, apart := false, narrowed := true }
def CellsDivideUptoSaid : Prop := cellsDivideUptoRow.holds Try.pinned (OpenSpec.upto cellsDivideSpec)

/-- 'dataenclavelaw28.CellsBack', WHERE WHAT IT READS IS OF BULK AT MOST 1048576: true; the input reads as it did. -/
def cellsBackUptoRow : OpenClaim := { program := "ytpmlehplbobjmaa", sum := "8124bdab74cbd6b8ff5eb1aa0103cc555d83258031f4089462e3b0532fd505b5", func := "dataenclave/dataenclavelaw28.CellsBack", spec := "cellsBack", unfollowed := true, recurses := true, apart := false, narrowed := true }
def CellsBackUptoSaid : Prop := cellsBackUptoRow.holds Try.pinned (OpenSpec.upto cellsBackSpec)

/-- 'dataenclavelaw28.CellsOrder', WHERE WHAT IT READS IS OF BULK AT MOST 1048576: true; the input reads as it did. -/
def cellsOrderUptoRow : OpenClaim := { program := "ytpmlehplbobjmaa", sum := "8124bdab74cbd6b8ff5eb1aa0103cc555d83258031f4089462e3b0532fd505b5", func := "dataenclave/dataenclavelaw28.CellsOrder", spec := "cellsOrder", unfollowed := true, recurses := true, apart := false, narrowed := true }
def CellsOrderUptoSaid : Prop := cellsOrderUptoRow.holds Try.pinned (OpenSpec.upto cellsOrderSpec)

end Rows
end Go.Proofs.Ytpmlehplbobjmaa
