/-
  No cell of these rows narrows 'for every input' (looked for: loops, veiled, ifaces, maps, wideKeys, modest, calm, conditions, laid).
  DERIVED. THE GIVEN ROWS OF THIS SEAT. 8 by the template 'for every input the law returns true; each argument reads behind the call as it read before'; 0 by the template 'total and deterministic' (their statements: YtaoeapmdhpkidaaTotals.lean).
  GIVEN WITH THE SEED: the statements are not yours to turn. If you find one false, say at which input.
  Laid BY PROGRAM, IN A SANDBOX (cutbox-rows.mjs): the forced cells as the released guide's own fill.sh prints them over the translation b4d266a3b5f38e19… (all of the seat's roots in one cut). By AI agents, Wed Nov 11 2026. No macro, syntax, notation, axiom, sorry.
-/
import Derived.Test.YtaoeapmdhpkidaaChecked
import GoSem.Claim
import GoSem.ClaimJoined
import GoSem.ClaimMapViews
import Derived.JoinedTies
import Derived.KernelRfl
namespace Go.Proofs.Ytaoeapmdhpkidaa
/- THE CELL 'sum', in the pinned program and in every row, IS THE sha256 OF THE DUMP (.gsa) THAT YtaoeapmdhpkidaaProg.lean LOADS. Nothing in Lean hashes anything: it is a label: what it is worth is what the hold of that sum in a sandbox is worth. -/
noncomputable def Try.pinned : Pinned := { name := "ytaoeapmdhpkidaa", sum := "b4d266a3b5f38e190bedb0dcfc3dd56dc6db2e0eb9191bd5b1a038a0e6c0356f", checked := Try.checked }
namespace Rows
def none {H : Type} : Left H := { results := [], args := [] }

/-- 'dataenclavelaw36.RotaNext': WHATEVER THE INPUT: true; the input reads as it did. -/
def rotaNextSpec : ChangeSpec := { name := "rotaNext", fn := fun _ => fun
  | [d1, d2] => { results := [.lit (.bool true)], args := [d1, d2] }
  | _ => none }
def rotaNextRow : OpenClaim := { program := "ytaoeapmdhpkidaa", sum := "b4d266a3b5f38e190bedb0dcfc3dd56dc6db2e0eb9191bd5b1a038a0e6c0356f", func := "dataenclave/dataenclavelaw36.RotaNext", spec := "rotaNext", unfollowed := true, recurses := true, apart := false }
def RotaNextSaid : Prop := rotaNextRow.holds Try.pinned (OpenSpec.ofChange rotaNextSpec)

/-- ITS FALSE NEIGHBOUR: 'it returns false'. Refute it at one input. -/
def rotaNextWrong : ChangeSpec := { name := "rotaNext", fn := fun _ => fun
  | [d1, d2] => { results := [.lit (.bool false)], args := [d1, d2] }
  | _ => none }
def RotaNextWrongFalsely : Prop := rotaNextRow.holds Try.pinned (OpenSpec.ofChange rotaNextWrong)

/-- 'dataenclavelaw36.RotaMinutes': WHATEVER THE INPUT: true; the input reads as it did. -/
def rotaMinutesSpec : ChangeSpec := { name := "rotaMinutes", fn := fun _ => fun
  | [d1, d2, d3] => { results := [.lit (.bool true)], args := [d1, d2, d3] }
  | _ => none }
def rotaMinutesRow : OpenClaim := { program := "ytaoeapmdhpkidaa", sum := "b4d266a3b5f38e190bedb0dcfc3dd56dc6db2e0eb9191bd5b1a038a0e6c0356f", func := "dataenclave/dataenclavelaw36.RotaMinutes", spec := "rotaMinutes", unfollowed := true, recurses := true, apart := false }
def RotaMinutesSaid : Prop := rotaMinutesRow.holds Try.pinned (OpenSpec.ofChange rotaMinutesSpec)

/-- ITS FALSE NEIGHBOUR: 'it returns false'. Refute it at one input. -/
def rotaMinutesWrong : ChangeSpec := { name := "rotaMinutes", fn := fun _ => fun
  | [d1, d2, d3] => { results := [.lit (.bool false)], args := [d1, d2, d3] }
  | _ => none }
def RotaMinutesWrongFalsely : Prop := rotaMinutesRow.holds Try.pinned (OpenSpec.ofChange rotaMinutesWrong)

/-- 'dataenclavelaw37.DeskTwo': WHATEVER THE INPUT: true; the input reads as it did. -/
def deskTwoSpec : ChangeSpec := { name := "deskTwo", fn := fun _ => fun
  | [d] => { results := [.lit (.bool true)], args := [d] }
  | _ => none }
def deskTwoRow : OpenClaim := { program := "ytaoeapmdhpkidaa", sum := "b4d266a3b5f38e190bedb0dcfc3dd56dc6db2e0eb9191bd5b1a038a0e6c0356f", func := "dataenclave/dataenclavelaw37.DeskTwo", spec := "deskTwo", unfollowed := true, recurses := true, apart := false }
def DeskTwoSaid : Prop := deskTwoRow.holds Try.pinned (OpenSpec.ofChange deskTwoSpec)

/-- ITS FALSE NEIGHBOUR: 'it returns false'. Refute it at one input. -/
def deskTwoWrong : ChangeSpec := { name := "deskTwo", fn := fun _ => fun
  | [d] => { results := [.lit (.bool false)], args := [d] }
  | _ => none }
def DeskTwoWrongFalsely : Prop := deskTwoRow.holds Try.pinned (OpenSpec.ofChange deskTwoWrong)

/-- 'dataenclavelaw37.DeskWait': WHATEVER THE INPUT: true; the input reads as it did. -/
def deskWaitSpec : ChangeSpec := { name := "deskWait", fn := fun _ => fun
  | [d1, d2] => { results := [.lit (.bool true)], args := [d1, d2] }
  | _ => none }
def deskWaitRow : OpenClaim := { program := "ytaoeapmdhpkidaa", sum := "b4d266a3b5f38e190bedb0dcfc3dd56dc6db2e0eb9191bd5b1a038a0e6c0356f", func := "dataenclave/dataenclavelaw37.DeskWait", spec := "deskWait", unfollowed := true, recurses := true, apart := false }
def DeskWaitSaid : Prop := deskWaitRow.holds Try.pinned (OpenSpec.ofChange deskWaitSpec)

/-- ITS FALSE NEIGHBOUR: 'it returns false'. Refute it at one input. -/
def deskWaitWrong : ChangeSpec := { name := "deskWait", fn := fun _ => fun
  | [d1, d2] => { results := [.lit (.bool false)], args := [d1, d2] }
  | _ => none }
def DeskWaitWrongFalsely : Prop := deskWaitRow.holds Try.pinned (OpenSpec.ofChange deskWaitWrong)

/-- 'dataenclavelaw37.DeskSteps': WHATEVER THE INPUT: true; the input reads as it did. -/
def deskStepsSpec : ChangeSpec := { name := "deskSteps", fn := fun _ => fun
  | [d1, d2, d3, d4, d5, d6, d7, d8] => { results := [.lit (.bool true)], args := [d1, d2, d3, d4, d5, d6, d7, d8] }
  | _ => none }
def deskStepsRow : OpenClaim := { program := "ytaoeapmdhpkidaa", sum := "b4d266a3b5f38e190bedb0dcfc3dd56dc6db2e0eb9191bd5b1a038a0e6c0356f", func := "dataenclave/dataenclavelaw37.DeskSteps", spec := "deskSteps", unfollowed := true, recurses := true, apart := false }
def DeskStepsSaid : Prop := deskStepsRow.holds Try.pinned (OpenSpec.ofChange deskStepsSpec)

/-- ITS FALSE NEIGHBOUR: 'it returns false'. Refute it at one input. -/
def deskStepsWrong : ChangeSpec := { name := "deskSteps", fn := fun _ => fun
  | [d1, d2, d3, d4, d5, d6, d7, d8] => { results := [.lit (.bool false)], args := [d1, d2, d3, d4, d5, d6, d7, d8] }
  | _ => none }
def DeskStepsWrongFalsely : Prop := deskStepsRow.holds Try.pinned (OpenSpec.ofChange deskStepsWrong)

/-- 'dataenclavelaw37.DeskStays': WHATEVER THE INPUT: true; the input reads as it did. -/
def deskStaysSpec : ChangeSpec := { name := "deskStays", fn := fun _ => fun
  | [d1, d2, d3] => { results := [.lit (.bool true)], args := [d1, d2, d3] }
  | _ => none }
def deskStaysRow : OpenClaim := { program := "ytaoeapmdhpkidaa", sum := "b4d266a3b5f38e190bedb0dcfc3dd56dc6db2e0eb9191bd5b1a038a0e6c0356f", func := "dataenclave/dataenclavelaw37.DeskStays", spec := "deskStays", unfollowed := true, recurses := true, apart := false }
def DeskStaysSaid : Prop := deskStaysRow.holds Try.pinned (OpenSpec.ofChange deskStaysSpec)

/-- ITS FALSE NEIGHBOUR: 'it returns false'. Refute it at one input. -/
def deskStaysWrong : ChangeSpec := { name := "deskStays", fn := fun _ => fun
  | [d1, d2, d3] => { results := [.lit (.bool false)], args := [d1, d2, d3] }
  | _ => none }
def DeskStaysWrongFalsely : Prop := deskStaysRow.holds Try.pinned (OpenSpec.ofChange deskStaysWrong)

/-- 'dataenclavelaw36.RotaOrder': WHATEVER THE INPUT: true; the input reads as it did. -/
def rotaOrderSpec : ChangeSpec := { name := "rotaOrder", fn := fun _ => fun
  | [d1, d2] => { results := [.lit (.bool true)], args := [d1, d2] }
  | _ => none }
def rotaOrderRow : OpenClaim := { program := "ytaoeapmdhpkidaa", sum := "b4d266a3b5f38e190bedb0dcfc3dd56dc6db2e0eb9191bd5b1a038a0e6c0356f", func := "dataenclave/dataenclavelaw36.RotaOrder", spec := "rotaOrder", unfollowed := true, recurses := true, apart := false }
def RotaOrderSaid : Prop := rotaOrderRow.holds Try.pinned (OpenSpec.ofChange rotaOrderSpec)

/-- ITS FALSE NEIGHBOUR: 'it returns false'. Refute it at one input. -/
def rotaOrderWrong : ChangeSpec := { name := "rotaOrder", fn := fun _ => fun
  | [d1, d2] => { results := [.lit (.bool false)], args := [d1, d2] }
  | _ => none }
def RotaOrderWrongFalsely : Prop := rotaOrderRow.holds Try.pinned (OpenSpec.ofChange rotaOrderWrong)

/-- 'dataenclavelaw36.RotaAnswers': WHATEVER THE INPUT: true; the input reads as it did. -/
def rotaAnswersSpec : ChangeSpec := { name := "rotaAnswers", fn := fun _ => fun
  | [d1, d2, d3, d4, d5, d6, d7, d8] => { results := [.lit (.bool true)], args := [d1, d2, d3, d4, d5, d6, d7, d8] }
  | _ => none }
def rotaAnswersRow : OpenClaim := { program := "ytaoeapmdhpkidaa", sum := "b4d266a3b5f38e190bedb0dcfc3dd56dc6db2e0eb9191bd5b1a038a0e6c0356f", func := "dataenclave/dataenclavelaw36.RotaAnswers", spec := "rotaAnswers", unfollowed := true, recurses := true, apart := false }
def RotaAnswersSaid : Prop := rotaAnswersRow.holds Try.pinned (OpenSpec.ofChange rotaAnswersSpec)

/-- ITS FALSE NEIGHBOUR: 'it returns false'. Refute it at one input. -/
def rotaAnswersWrong : ChangeSpec := { name := "rotaAnswers", fn := fun _ => fun
  | [d1, d2, d3, d4, d5, d6, d7, d8] => { results := [.lit (.bool false)], args := [d1, d2, d3, d4, d5, d6, d7, d8] }
  | _ => none }
def RotaAnswersWrongFalsely : Prop := rotaAnswersRow.holds Try.pinned (OpenSpec.ofChange rotaAnswersWrong)

/- THE SECOND FORM. 'bulk': how many values and letters a reading holds, each counted each time it is reached (what is shared counts as often as it is met; a slice's spare places count too). A statement '..UptoSaid' is the law's where the arguments, and the package variables that the reading takes, are together of bulk at most 1048576: NARROWER than '..Said'. Prove '..Said' where nothing that the law and all that it calls make is longer than what came in: it says more and counts as full. Else prove '..UptoSaid'. A law counts once. -/
mutual
def uptoBulk {H : Type} : DataW H → Nat
  | .lit (.string bytes) => bytes.length + 1
  | .lit _ => 1
  | .nil => 1
  | .ptr d => uptoBulk d + 1
  | .slice elems spare => uptoBulkAll elems + uptoBulkAll spare + 1
  | .agg parts => uptoBulkAll parts + 1
  | .iface _ d => uptoBulk d + 1
  | .map entries => uptoBulkEntries entries + 1
  | .held _ => 1
def uptoBulkAll {H : Type} : List (DataW H) → Nat
  | [] => 0
  | d :: r => uptoBulk d + uptoBulkAll r
def uptoBulkEntries {H : Type} : List (Lit × DataW H) → Nat
  | [] => 0
  | x :: r => uptoBulkEntry x + uptoBulkEntries r
def uptoBulkEntry {H : Type} : Lit × DataW H → Nat
  | (.string bytes, d) => bytes.length + uptoBulk d + 1
  | (_, d) => uptoBulk d + 1
 end
def uptoSmall : (H : Type) → List (DataW H) → Bool := fun _ ds => decide (uptoBulkAll ds ≤ 1048576)
def OpenSpec.upto (s : _root_.Go.ChangeSpec) : _root_.Go.OpenSpec := { _root_.Go.OpenSpec.ofChange s with cond := some uptoSmall }

/-- 'dataenclavelaw36.RotaNext', WHERE WHAT IT READS IS OF BULK AT MOST 1048576: true; the input reads as it did. -/
def rotaNextUptoRow : OpenClaim := { program := "ytaoeapmdhpkidaa", sum := "b4d266a3b5f38e190bedb0dcfc3dd56dc6db2e0eb9191bd5b1a038a0e6c0356f", func := "dataenclave/dataenclavelaw36.RotaNext", spec := "rotaNext", unfollowed := true, recurses := true, apart := false, narrowed := true }
def RotaNextUptoSaid : Prop := rotaNextUptoRow.holds Try.pinned (OpenSpec.upto rotaNextSpec)

/-- 'dataenclavelaw36.RotaMinutes', WHERE WHAT IT READS IS OF BULK AT MOST 1048576: true; the input reads as it did. -/
def rotaMinutesUptoRow : OpenClaim := { program := "ytaoeapmdhpkidaa", sum := "b4d266a3b5f38e190bedb0dcfc3dd56dc6db2e0eb9191bd5b1a038a0e6c0356f", func := "dataenclave/dataenclavelaw36.RotaMinutes", spec := "rotaMinutes", unfollowed := true, recurses := true, apart := false, narrowed := true }
def RotaMinutesUptoSaid : Prop := rotaMinutesUptoRow.holds Try.pinned (OpenSpec.upto rotaMinutesSpec)

/-- 'dataenclavelaw37.DeskTwo', WHERE WHAT IT READS IS OF BULK AT MOST 1048576: true; the input reads as it did. -/
def deskTwoUptoRow : OpenClaim := { program := "ytaoeapmdhpkidaa", sum := "b4d266a3b5f38e190bedb0dcfc3dd56dc6db2e0eb9191bd5b1a038a0e6c0356f", func := "dataenclave/dataenclavelaw37.DeskTwo", spec := "deskTwo", unfollowed := true, recurses := true, apart := false, narrowed := true }
def DeskTwoUptoSaid : Prop := deskTwoUptoRow.holds Try.pinned (OpenSpec.upto deskTwoSpec)

/-- 'dataenclavelaw37.DeskWait', WHERE WHAT IT READS IS OF BULK AT MOST 1048576: true; the input reads as it did. -/
def deskWaitUptoRow : OpenClaim := { program := "ytaoeapmdhpkidaa", sum := "b4d266a3b5f38e190bedb0dcfc3dd56dc6db2e0eb9191bd5b1a038a0e6c0356f", func := "dataenclave/dataenclavelaw37.DeskWait", spec := "deskWait", unfollowed := true, recurses := true, apart := false, narrowed := true }
def DeskWaitUptoSaid : Prop := deskWaitUptoRow.holds Try.pinned (OpenSpec.upto deskWaitSpec)

/-- 'dataenclavelaw37.DeskSteps', WHERE WHAT IT READS IS OF BULK AT MOST 1048576: true; the input reads as it did. -/
def deskStepsUptoRow : OpenClaim := { program := "ytaoeapmdhpkidaa", sum := "b4d266a3b5f38e190bedb0dcfc3dd56dc6db2e0eb9191bd5b1a038a0e6c0356f", func := "dataenclave/dataenclavelaw37.DeskSteps", spec := "deskSteps", unfollowed := true, recurses := true, apart := false, narrowed := true }
def DeskStepsUptoSaid : Prop := deskStepsUptoRow.holds Try.pinned (OpenSpec.upto deskStepsSpec)

/-- 'dataenclavelaw37.DeskStays', WHERE WHAT IT READS IS OF BULK AT MOST 1048576: true; the input reads as it did. -/
def deskStaysUptoRow : OpenClaim := { program := "ytaoeapmdhpkidaa", sum := "b4d266a3b5f38e190bedb0dcfc3dd56dc6db2e0eb9191bd5b1a038a0e6c0356f", func := "dataenclave/dataenclavelaw37.DeskStays", spec := "deskStays", unfollowed := true, recurses := true, apart := false, narrowed := true }
def DeskStaysUptoSaid : Prop := deskStaysUptoRow.holds Try.pinned (OpenSpec.upto deskStaysSpec)

/-- 'dataenclavelaw36.RotaOrder', WHERE WHAT IT READS IS OF BULK AT MOST 1048576: true; the input reads as it did. -/
def rotaOrderUptoRow : OpenClaim := { program := "ytaoeapmdhpkidaa", sum := "b4d266a3b5f38e190bedb0dcfc3dd56dc6db2e0eb9191bd5b1a038a0e6c0356f", func := "dataenclave/dataenclavelaw36.RotaOrder", spec := "rotaOrder", unfollowed := true, recurses := true, apart := false, narrowed := true }
def RotaOrderUptoSaid : Prop := rotaOrderUptoRow.holds Try.pinned (OpenSpec.upto rotaOrderSpec)

/-- 'dataenclavelaw36.RotaAnswers', WHERE WHAT IT READS IS OF BULK AT MOST 1048576: true; the input reads as it did. -/
def rotaAnswersUptoRow : OpenClaim := { program := "ytaoeapmdhpkidaa", sum := "b4d266a3b5f38e190bedb0dcfc3dd56dc6db2e0eb9191bd5b1a038a0e6c0356f", func := "dataenclave/dataenclavelaw36.RotaAnswers", spec := "rotaAnswers", unfollowed := true, recurses := true, apart := false, narrowed := true }
def RotaAnswersUptoSaid : Prop := rotaAnswersUptoRow.holds Try.pinned (OpenSpec.upto rotaAnswersSpec)

end Rows
end Go.Proofs.Ytaoeapmdhpkidaa
