/-
  NARROWER THAN 'FOR EVERY INPUT', by the rows' own cells (each row's printed sentence says how): BoundsProofs: laid · BoundsSums: laid · TopKnown: laid · BoundsHold: laid · BoundsAnswers: laid · IntegersBounds: laid.
  DERIVED. THE GIVEN ROWS OF THIS SEAT. 6 by the template 'for every input the law returns true; each argument reads behind the call as it read before'; 0 by the template 'total and deterministic' (their statements: YtpcnapidlhpbkaaGreatDoorTotals.lean).
  GIVEN WITH THE SEED: the statements are not yours to turn. If you find one false, say at which input.
  Laid BY PROGRAM, IN A SANDBOX (cutbox-rows.mjs): the forced cells as the released guide's own fill.sh prints them over the translation fc62c464e18fb2c4… (all of the seat's roots in one cut). By AI agents, Wed Nov 11 2026. No macro, syntax, notation, axiom, sorry.
-/
import Derived.Test.YtpcnapidlhpbkaaGreatDoorChecked
import GoSem.Claim
import GoSem.ClaimJoined
import GoSem.ClaimMapViews
import Derived.JoinedTies
import Derived.KernelRfl
namespace Go.Proofs.YtpcnapidlhpbkaaGreatDoor
/- THE CELL 'sum', in the pinned program and in every row, IS THE sha256 OF THE DUMP (.gsa) THAT YtpcnapidlhpbkaaGreatDoorProg.lean LOADS. Nothing in Lean hashes anything: it is a label: what it is worth is what the hold of that sum in a sandbox is worth. -/
noncomputable def Tryz.pinned : Pinned := { name := "ytpcnapidlhpbkaagreatdoor", sum := "fc62c464e18fb2c4f5d328b7807b565c62654dd55507426cfdfdd2483357d1a4", checked := Tryz.checked }
namespace Rows
def none {H : Type} : Left H := { results := [], args := [] }

/- WHAT THE LISTED PACKAGE-LEVEL VARIABLES READ AS WHEN THE CALL BEGINS. Each datum BY PROGRAM (the guide's laid-datum.mjs) off the statement by which the dump's own 'gosem.cut.vars' lays the variable. In a bare row this is a premise. The card (YtpcnapidlhpbkaaGreatDoorCards.lean) ties it to the program's text. -/
def laid_math_bits_deBruijn64tab {H : Type} : DataW H := .agg [.lit (.int .u8 0), .lit (.int .u8 1), .lit (.int .u8 56), .lit (.int .u8 2), .lit (.int .u8 57), .lit (.int .u8 49), .lit (.int .u8 28), .lit (.int .u8 3), .lit (.int .u8 61), .lit (.int .u8 58), .lit (.int .u8 42), .lit (.int .u8 50), .lit (.int .u8 38), .lit (.int .u8 29), .lit (.int .u8 17), .lit (.int .u8 4), .lit (.int .u8 62), .lit (.int .u8 47), .lit (.int .u8 59), .lit (.int .u8 36), .lit (.int .u8 45), .lit (.int .u8 43), .lit (.int .u8 51), .lit (.int .u8 22), .lit (.int .u8 53), .lit (.int .u8 39), .lit (.int .u8 33), .lit (.int .u8 30), .lit (.int .u8 24), .lit (.int .u8 18), .lit (.int .u8 12), .lit (.int .u8 5), .lit (.int .u8 63), .lit (.int .u8 55), .lit (.int .u8 48), .lit (.int .u8 27), .lit (.int .u8 60), .lit (.int .u8 41), .lit (.int .u8 37), .lit (.int .u8 16), .lit (.int .u8 46), .lit (.int .u8 35), .lit (.int .u8 44), .lit (.int .u8 21), .lit (.int .u8 52), .lit (.int .u8 32), .lit (.int .u8 23), .lit (.int .u8 11), .lit (.int .u8 54), .lit (.int .u8 26), .lit (.int .u8 40), .lit (.int .u8 15), .lit (.int .u8 34), .lit (.int .u8 20), .lit (.int .u8 31), .lit (.int .u8 10), .lit (.int .u8 25), .lit (.int .u8 14), .lit (.int .u8 19), .lit (.int .u8 9), .lit (.int .u8 13), .lit (.int .u8 8), .lit (.int .u8 7), .lit (.int .u8 6)]
def laid_math_bits_deBruijn32tab {H : Type} : DataW H := .agg [.lit (.int .u8 0), .lit (.int .u8 1), .lit (.int .u8 28), .lit (.int .u8 2), .lit (.int .u8 29), .lit (.int .u8 14), .lit (.int .u8 24), .lit (.int .u8 3), .lit (.int .u8 30), .lit (.int .u8 22), .lit (.int .u8 20), .lit (.int .u8 15), .lit (.int .u8 25), .lit (.int .u8 17), .lit (.int .u8 4), .lit (.int .u8 8), .lit (.int .u8 31), .lit (.int .u8 27), .lit (.int .u8 13), .lit (.int .u8 23), .lit (.int .u8 21), .lit (.int .u8 19), .lit (.int .u8 16), .lit (.int .u8 7), .lit (.int .u8 26), .lit (.int .u8 12), .lit (.int .u8 18), .lit (.int .u8 6), .lit (.int .u8 11), .lit (.int .u8 5), .lit (.int .u8 10), .lit (.int .u8 9)]
def laid_internal_strconv_uint64pow10 {H : Type} : DataW H := .agg [.lit (.int .u64 1), .lit (.int .u64 10), .lit (.int .u64 100), .lit (.int .u64 1000), .lit (.int .u64 10000), .lit (.int .u64 100000), .lit (.int .u64 1000000), .lit (.int .u64 10000000), .lit (.int .u64 100000000), .lit (.int .u64 1000000000), .lit (.int .u64 10000000000), .lit (.int .u64 100000000000), .lit (.int .u64 1000000000000), .lit (.int .u64 10000000000000), .lit (.int .u64 100000000000000), .lit (.int .u64 1000000000000000), .lit (.int .u64 10000000000000000), .lit (.int .u64 100000000000000000), .lit (.int .u64 1000000000000000000), .lit (.int .u64 10000000000000000000)]

/-- 'dataenclavelaw30.BoundsProofs': WHATEVER THE INPUT: true; the input reads as it did. -/
def boundsProofsSpec : ChangeSpec := { name := "boundsProofs", fn := fun _ => fun
  | [d1, d2, d3, d4] => { results := [.lit (.bool true)], args := [d1, d2, d3, d4] }
  | _ => none }
def boundsProofsRow : OpenClaim := { program := "ytpcnapidlhpbkaagreatdoor", sum := "fc62c464e18fb2c4f5d328b7807b565c62654dd55507426cfdfdd2483357d1a4", func := "dataenclave/dataenclavelaw30.BoundsProofs", spec := "boundsProofs", inPlace := ["math/bits.Add64", "math/bits.Sub64"], unfollowed := true, recurses := true, named := ["math/bits.deBruijn64tab"], apart := false, laid := [("math/bits.deBruijn64tab", laid_math_bits_deBruijn64tab)] }
def BoundsProofsSaid : Prop := boundsProofsRow.holds Tryz.pinned (OpenSpec.ofChange boundsProofsSpec)

/-- ITS FALSE NEIGHBOUR: 'it returns false'. Refute it at one input. -/
def boundsProofsWrong : ChangeSpec := { name := "boundsProofs", fn := fun _ => fun
  | [d1, d2, d3, d4] => { results := [.lit (.bool false)], args := [d1, d2, d3, d4] }
  | _ => none }
def BoundsProofsWrongFalsely : Prop := boundsProofsRow.holds Tryz.pinned (OpenSpec.ofChange boundsProofsWrong)

/-- 'dataenclavelaw30.BoundsSums': WHATEVER THE INPUT: true; the input reads as it did. -/
def boundsSumsSpec : ChangeSpec := { name := "boundsSums", fn := fun _ => fun
  | [d] => { results := [.lit (.bool true)], args := [d] }
  | _ => none }
def boundsSumsRow : OpenClaim := { program := "ytpcnapidlhpbkaagreatdoor", sum := "fc62c464e18fb2c4f5d328b7807b565c62654dd55507426cfdfdd2483357d1a4", func := "dataenclave/dataenclavelaw30.BoundsSums", spec := "boundsSums", inPlace := ["math/bits.Add64", "math/bits.Sub64"], unfollowed := true, recurses := true, named := ["math/bits.deBruijn64tab"], apart := false, laid := [("math/bits.deBruijn64tab", laid_math_bits_deBruijn64tab)] }
def BoundsSumsSaid : Prop := boundsSumsRow.holds Tryz.pinned (OpenSpec.ofChange boundsSumsSpec)

/-- ITS FALSE NEIGHBOUR: 'it returns false'. Refute it at one input. -/
def boundsSumsWrong : ChangeSpec := { name := "boundsSums", fn := fun _ => fun
  | [d] => { results := [.lit (.bool false)], args := [d] }
  | _ => none }
def BoundsSumsWrongFalsely : Prop := boundsSumsRow.holds Tryz.pinned (OpenSpec.ofChange boundsSumsWrong)

/-- 'dataenclavetop.TopKnown': WHATEVER THE INPUT: true; the input reads as it did. -/
def topKnownSpec : ChangeSpec := { name := "topKnown", fn := fun _ => fun
  | [d] => { results := [.lit (.bool true)], args := [d] }
  | _ => none }
def topKnownRow : OpenClaim := { program := "ytpcnapidlhpbkaagreatdoor", sum := "fc62c464e18fb2c4f5d328b7807b565c62654dd55507426cfdfdd2483357d1a4", func := "dataenclave/dataenclavetop.TopKnown", spec := "topKnown", inPlace := ["math/bits.Add64", "math/bits.Sub64"], unfollowed := true, recurses := true, named := ["internal/strconv.uint64pow10", "math/bits.deBruijn32tab", "math/bits.deBruijn64tab"], apart := false, laid := [("math/bits.deBruijn32tab", laid_math_bits_deBruijn32tab), ("math/bits.deBruijn64tab", laid_math_bits_deBruijn64tab), ("internal/strconv.uint64pow10", laid_internal_strconv_uint64pow10)] }
def TopKnownSaid : Prop := topKnownRow.holds Tryz.pinned (OpenSpec.ofChange topKnownSpec)

/-- ITS FALSE NEIGHBOUR: 'it returns false'. Refute it at one input. -/
def topKnownWrong : ChangeSpec := { name := "topKnown", fn := fun _ => fun
  | [d] => { results := [.lit (.bool false)], args := [d] }
  | _ => none }
def TopKnownWrongFalsely : Prop := topKnownRow.holds Tryz.pinned (OpenSpec.ofChange topKnownWrong)

/-- 'dataenclavelaw30.BoundsHold': WHATEVER THE INPUT: true; the input reads as it did. -/
def boundsHoldSpec : ChangeSpec := { name := "boundsHold", fn := fun _ => fun
  | [d] => { results := [.lit (.bool true)], args := [d] }
  | _ => none }
def boundsHoldRow : OpenClaim := { program := "ytpcnapidlhpbkaagreatdoor", sum := "fc62c464e18fb2c4f5d328b7807b565c62654dd55507426cfdfdd2483357d1a4", func := "dataenclave/dataenclavelaw30.BoundsHold", spec := "boundsHold", inPlace := ["math/bits.Add64", "math/bits.Sub64"], unfollowed := true, recurses := true, named := ["math/bits.deBruijn64tab"], apart := false, laid := [("math/bits.deBruijn64tab", laid_math_bits_deBruijn64tab)] }
def BoundsHoldSaid : Prop := boundsHoldRow.holds Tryz.pinned (OpenSpec.ofChange boundsHoldSpec)

/-- ITS FALSE NEIGHBOUR: 'it returns false'. Refute it at one input. -/
def boundsHoldWrong : ChangeSpec := { name := "boundsHold", fn := fun _ => fun
  | [d] => { results := [.lit (.bool false)], args := [d] }
  | _ => none }
def BoundsHoldWrongFalsely : Prop := boundsHoldRow.holds Tryz.pinned (OpenSpec.ofChange boundsHoldWrong)

/-- 'dataenclavelaw30.BoundsAnswers': WHATEVER THE INPUT: true; the input reads as it did. -/
def boundsAnswersSpec : ChangeSpec := { name := "boundsAnswers", fn := fun _ => fun
  | [d1, d2, d3, d4, d5] => { results := [.lit (.bool true)], args := [d1, d2, d3, d4, d5] }
  | _ => none }
def boundsAnswersRow : OpenClaim := { program := "ytpcnapidlhpbkaagreatdoor", sum := "fc62c464e18fb2c4f5d328b7807b565c62654dd55507426cfdfdd2483357d1a4", func := "dataenclave/dataenclavelaw30.BoundsAnswers", spec := "boundsAnswers", inPlace := ["math/bits.Add64", "math/bits.Sub64"], unfollowed := true, recurses := true, named := ["math/bits.deBruijn64tab"], apart := false, laid := [("math/bits.deBruijn64tab", laid_math_bits_deBruijn64tab)] }
def BoundsAnswersSaid : Prop := boundsAnswersRow.holds Tryz.pinned (OpenSpec.ofChange boundsAnswersSpec)

/-- ITS FALSE NEIGHBOUR: 'it returns false'. Refute it at one input. -/
def boundsAnswersWrong : ChangeSpec := { name := "boundsAnswers", fn := fun _ => fun
  | [d1, d2, d3, d4, d5] => { results := [.lit (.bool false)], args := [d1, d2, d3, d4, d5] }
  | _ => none }
def BoundsAnswersWrongFalsely : Prop := boundsAnswersRow.holds Tryz.pinned (OpenSpec.ofChange boundsAnswersWrong)

/-- 'dataenclavelaw31.IntegersBounds': WHATEVER THE INPUT: true; the input reads as it did. -/
def integersBoundsSpec : ChangeSpec := { name := "integersBounds", fn := fun _ => fun
  | [d] => { results := [.lit (.bool true)], args := [d] }
  | _ => none }
def integersBoundsRow : OpenClaim := { program := "ytpcnapidlhpbkaagreatdoor", sum := "fc62c464e18fb2c4f5d328b7807b565c62654dd55507426cfdfdd2483357d1a4", func := "dataenclave/dataenclavelaw31.IntegersBounds", spec := "integersBounds", inPlace := ["math/bits.Add64", "math/bits.Sub64"], unfollowed := true, recurses := true, named := ["math/bits.deBruijn64tab"], apart := false, laid := [("math/bits.deBruijn64tab", laid_math_bits_deBruijn64tab)] }
def IntegersBoundsSaid : Prop := integersBoundsRow.holds Tryz.pinned (OpenSpec.ofChange integersBoundsSpec)

/-- ITS FALSE NEIGHBOUR: 'it returns false'. Refute it at one input. -/
def integersBoundsWrong : ChangeSpec := { name := "integersBounds", fn := fun _ => fun
  | [d] => { results := [.lit (.bool false)], args := [d] }
  | _ => none }
def IntegersBoundsWrongFalsely : Prop := integersBoundsRow.holds Tryz.pinned (OpenSpec.ofChange integersBoundsWrong)

/- THE SECOND FORM. 'bulk': how many values and letters a reading holds, each counted each time it is reached (what is shared counts as often as it is met; a slice's spare places count too). A statement '..UptoSaid' is the law's where the arguments, and the package variables that the reading takes, are together of bulk at most 1048576: NARROWER than '..Said'. Prove '..Said' where nothing that the law and all that it calls make is longer than what came in: it says more and counts as full. Else prove '..UptoSaid'. A law counts once. -/
mutual
def uptoBulk {H : Type} : DataW H → Nat
  | .lit (.string bytes) => bytes.length + 1
  | .lit _ => 1
  | .nil => 1
  | .ptr d => uptoBulk d + 1
  | .slice elems spare => uptoBulkAll elems + uptoBulkAll spare + 1
  | .agg parts => uptoBulkAll parts + 1
  | .iface _ d => uptoBulk d + 1
  | .map entries => uptoBulkEntries entries + 1
  | .held _ => 1
def uptoBulkAll {H : Type} : List (DataW H) → Nat
  | [] => 0
  | d :: r => uptoBulk d + uptoBulkAll r
def uptoBulkEntries {H : Type} : List (Lit × DataW H) → Nat
  | [] => 0
  | x :: r => uptoBulkEntry x + uptoBulkEntries r
def uptoBulkEntry {H : Type} : Lit × DataW H → Nat
  | (.string bytes, d) => bytes.length + uptoBulk d + 1
  | (_, d) => uptoBulk d + 1
 end
def uptoSmall : (H : Type) → List (DataW H) → Bool := fun _ ds => decide (uptoBulkAll ds ≤ 1048576)
def OpenSpec.upto (s : _root_.Go.ChangeSpec) : _root_.Go.OpenSpec := { _root_.Go.OpenSpec.ofChange s with cond := some uptoSmall }

/-- 'dataenclavelaw30.BoundsProofs', WHERE WHAT IT READS IS OF BULK AT MOST 1048576: true; the input reads as it did. -/
def boundsProofsUptoRow : OpenClaim := { program := "ytpcnapidlhpbkaagreatdoor", sum := "fc62c464e18fb2c4f5d328b7807b565c62654dd55507426cfdfdd2483357d1a4", func := "dataenclave/dataenclavelaw30.BoundsProofs", spec := "boundsProofs", inPlace := ["math/bits.Add64", "math/bits.Sub64"], unfollowed := true, recurses := true, named := ["math/bits.deBruijn64tab"], apart := false, laid := [("math/bits.deBruijn64tab", laid_math_bits_deBruijn64tab)], narrowed := true }
def BoundsProofsUptoSaid : Prop := boundsProofsUptoRow.holds Tryz.pinned (OpenSpec.upto boundsProofsSpec)

/-- 'dataenclavelaw30.BoundsSums', WHERE WHAT IT READS IS OF BULK AT MOST 1048576: true; the input reads as it did. -/
def boundsSumsUptoRow : OpenClaim := { program := "ytpcnapidlhpbkaagreatdoor", sum := "fc62c464e18fb2c4f5d328b7807b565c62654dd55507426cfdfdd2483357d1a4", func := "dataenclave/dataenclavelaw30.BoundsSums", spec := "boundsSums", inPlace := ["math/bits.Add64", "math/bits.Sub64"], unfollowed := true, recurses := true, named := ["math/bits.deBruijn64tab"], apart := false, laid := [("math/bits.deBruijn64tab", laid_math_bits_deBruijn64tab)], narrowed := true }
def BoundsSumsUptoSaid : Prop := boundsSumsUptoRow.holds Tryz.pinned (OpenSpec.upto boundsSumsSpec)

/-- 'dataenclavetop.TopKnown', WHERE WHAT IT READS IS OF BULK AT MOST 1048576: true; the input reads as it did. -/
def topKnownUptoRow : OpenClaim := { program := "ytpcnapidlhpbkaagreatdoor", sum := "fc62c464e18fb2c4f5d328b7807b565c62654dd55507426cfdfdd2483357d1a4", func := "dataenclave/dataenclavetop.TopKnown", spec := "topKnown", inPlace := ["math/bits.Add64", "math/bits.Sub64"], unfollowed := true, recurses := true, named := ["internal/strconv.uint64pow10", "math/bits.deBruijn32tab", "math/bits.deBruijn64tab"], apart := false, laid := [("math/bits.deBruijn32tab", laid_math_bits_deBruijn32tab), ("math/bits.deBruijn64tab", laid_math_bits_deBruijn64tab), ("internal/strconv.uint64pow10", laid_internal_strconv_uint64pow10)], narrowed := true }
def TopKnownUptoSaid : Prop := topKnownUptoRow.holds Tryz.pinned (OpenSpec.upto topKnownSpec)

/-- 'dataenclavelaw30.BoundsHold', WHERE WHAT IT READS IS OF BULK AT MOST 1048576: true; the input reads as it did. -/
def boundsHoldUptoRow : OpenClaim := { program := "ytpcnapidlhpbkaagreatdoor", sum := "fc62c464e18fb2c4f5d328b7807b565c62654dd55507426cfdfdd2483357d1a4", func := "dataenclave/dataenclavelaw30.BoundsHold", spec := "boundsHold", inPlace := ["math/bits.Add64", "math/bits.Sub64"], unfollowed := true, recurses := true, named := ["math/bits.deBruijn64tab"], apart := false, laid := [("math/bits.deBruijn64tab", laid_math_bits_deBruijn64tab)], narrowed := true }
def BoundsHoldUptoSaid : Prop := boundsHoldUptoRow.holds Tryz.pinned (OpenSpec.upto boundsHoldSpec)

/-- 'dataenclavelaw30.BoundsAnswers', WHERE WHAT IT READS IS OF BULK AT MOST 1048576: true; the input reads as it did. -/
def boundsAnswersUptoRow : OpenClaim := { program := "ytpcnapidlhpbkaagreatdoor", sum := "fc62c464e18fb2c4f5d328b7807b565c62654dd55507426cfdfdd2483357d1a4", func := "dataenclave/dataenclavelaw30.BoundsAnswers", spec := "boundsAnswers", inPlace := ["math/bits.Add64", "math/bits.Sub64"], unfollowed := true, recurses := true, named := ["math/bits.deBruijn64tab"], apart := false, laid := [("math/bits.deBruijn64tab", laid_math_bits_deBruijn64tab)], narrowed := true }
def BoundsAnswersUptoSaid : Prop := boundsAnswersUptoRow.holds Tryz.pinned (OpenSpec.upto boundsAnswersSpec)

/-- 'dataenclavelaw31.IntegersBounds', WHERE WHAT IT READS IS OF BULK AT MOST 1048576: true; the input reads as it did. -/
def integersBoundsUptoRow : OpenClaim := { program := "ytpcnapidlhpbkaagreatdoor", sum := "fc62c464e18fb2c4f5d328b7807b565c62654dd55507426cfdfdd2483357d1a4", func := "dataenclave/dataenclavelaw31.IntegersBounds", spec := "integersBounds", inPlace := ["math/bits.Add64", "math/bits.Sub64"], unfollowed := true, recurses := true, named := ["math/bits.deBruijn64tab"], apart := false, laid := [("math/bits.deBruijn64tab", laid_math_bits_deBruijn64tab)], narrowed := true }
def IntegersBoundsUptoSaid : Prop := integersBoundsUptoRow.holds Tryz.pinned (OpenSpec.upto integersBoundsSpec)

end Rows
end Go.Proofs.YtpcnapidlhpbkaaGreatDoor
