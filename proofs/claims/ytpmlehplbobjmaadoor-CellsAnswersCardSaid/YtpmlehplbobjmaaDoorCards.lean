/-
  DERIVED. GIVEN WITH THE SEED: THE CARDS: each row of YtpmlehplbobjmaaDoorRows.lean that lists a variable, with what it lists TIED to the program's text (the seventh form; the later family's looks); each row that meets fmt, with fmt's text TOLD by the authors' own Lean function (tested against real Go, not proved from fmt's source: count such statements apart). THE CARD IS WHAT COUNTS. Prove the row's statement (the work); the ties are given (YtpmlehplbobjmaaDoorTie.lean); close each card by the builder's one call (the guide's Derived/Test/ToyasCard.lean, 'card_holds'). Laid BY PROGRAM, IN A SANDBOX (cutbox-door.mjs). By AI agents, Wed Nov 11 2026. No macro, syntax, notation, axiom, sorry.
-/
import Derived.Test.YtpmlehplbobjmaaDoorRows
import GoSem.ClaimSeven
namespace Go.Proofs.YtpmlehplbobjmaaDoor
namespace Rows

/-- THE TIED CARD OF 'dataenclavelaw28.CellsSum'. -/
def cellsSumCard : Claim7 := { stood := { row := cellsSumRow, standIns := [], harness := (true, "e0430386847f4167c38353fcc88629257808b10705078ee7016956bbf62a9fd7"), looks := false }, kinds := [], alts := [], laidByText := true, laidKinds := [.data, .data, .data], laidTests := true, laidLooks := .later }
def CellsSumCardSaid : Prop := Claim7.holds Tryd.pinned (.plain (OpenSpec.ofChange cellsSumSpec)) cellsSumCard

/-- THE TIED CARD OF 'dataenclavelaw28.CellsFiner'. -/
def cellsFinerCard : Claim7 := { stood := { row := cellsFinerRow, standIns := [], harness := (true, "e0430386847f4167c38353fcc88629257808b10705078ee7016956bbf62a9fd7"), looks := false }, kinds := [], alts := [], laidByText := true, laidKinds := [.data, .data, .data], laidTests := true, laidLooks := .later }
def CellsFinerCardSaid : Prop := Claim7.holds Tryd.pinned (.plain (OpenSpec.ofChange cellsFinerSpec)) cellsFinerCard

/-- THE TIED CARD OF 'dataenclavelaw28.CellsAnswers'. -/
def cellsAnswersCard : Claim7 := { stood := { row := cellsAnswersRow, standIns := [], harness := (true, "e0430386847f4167c38353fcc88629257808b10705078ee7016956bbf62a9fd7"), looks := false }, kinds := [], alts := [], laidByText := true, laidKinds := [.data, .data, .data], laidTests := true, laidLooks := .later }
def CellsAnswersCardSaid : Prop := Claim7.holds Tryd.pinned (.plain (OpenSpec.ofChange cellsAnswersSpec)) cellsAnswersCard

/-- THE SECOND FORM's CARD OF 'dataenclavelaw28.CellsSum'. -/
def cellsSumUptoCard : Claim7 := { stood := { row := cellsSumUptoRow, standIns := [], harness := (true, "e0430386847f4167c38353fcc88629257808b10705078ee7016956bbf62a9fd7"), looks := false }, kinds := [], alts := [], laidByText := true, laidKinds := [.data, .data, .data], laidTests := true, laidLooks := .later }
def CellsSumUptoCardSaid : Prop := Claim7.holds Tryd.pinned (.plain (OpenSpec.upto cellsSumSpec)) cellsSumUptoCard

/-- THE SECOND FORM's CARD OF 'dataenclavelaw28.CellsFiner'. -/
def cellsFinerUptoCard : Claim7 := { stood := { row := cellsFinerUptoRow, standIns := [], harness := (true, "e0430386847f4167c38353fcc88629257808b10705078ee7016956bbf62a9fd7"), looks := false }, kinds := [], alts := [], laidByText := true, laidKinds := [.data, .data, .data], laidTests := true, laidLooks := .later }
def CellsFinerUptoCardSaid : Prop := Claim7.holds Tryd.pinned (.plain (OpenSpec.upto cellsFinerSpec)) cellsFinerUptoCard

/-- THE SECOND FORM's CARD OF 'dataenclavelaw28.CellsAnswers'. -/
def cellsAnswersUptoCard : Claim7 := { stood := { row := cellsAnswersUptoRow, standIns := [], harness := (true, "e0430386847f4167c38353fcc88629257808b10705078ee7016956bbf62a9fd7"), looks := false }, kinds := [], alts := [], laidByText := true, laidKinds := [.data, .data, .data], laidTests := true, laidLooks := .later }
def CellsAnswersUptoCardSaid : Prop := Claim7.holds Tryd.pinned (.plain (OpenSpec.upto cellsAnswersSpec)) cellsAnswersUptoCard
end Rows
end Go.Proofs.YtpmlehplbobjmaaDoor
