/-
  DERIVED. GIVEN WITH THE SEED: THE CARDS: each row of YtpcnapidlhpbkaaGreatDoorRows.lean that lists a variable, with what it lists TIED to the program's text (the seventh form; the later family's looks); each row that meets fmt, with fmt's text TOLD by the authors' own Lean function (tested against real Go, not proved from fmt's source: count such statements apart). THE CARD IS WHAT COUNTS. Prove the row's statement (the work); the ties are given (YtpcnapidlhpbkaaGreatDoorTie.lean); close each card by the builder's one call (the guide's Derived/Test/ToyasCard.lean, 'card_holds'). Laid BY PROGRAM, IN A SANDBOX (cutbox-door.mjs). By AI agents, Wed Nov 11 2026. No macro, syntax, notation, axiom, sorry.
-/
import Derived.Test.YtpcnapidlhpbkaaGreatDoorRows
import GoSem.ClaimSeven
namespace Go.Proofs.YtpcnapidlhpbkaaGreatDoor
namespace Rows

/-- THE TIED CARD OF 'dataenclavelaw30.BoundsProofs'. -/
def boundsProofsCard : Claim7 := { stood := { row := boundsProofsRow, standIns := [], harness := (true, "78e7bb49ec391edd2b704a0847e850e1e28e8d41021e390986be8827c7426228"), looks := true }, kinds := [], alts := [], laidByText := true, laidKinds := [.data], laidTests := true, laidLooks := .later }
def BoundsProofsCardSaid : Prop := Claim7.holds Tryz.pinned (.plain (OpenSpec.ofChange boundsProofsSpec)) boundsProofsCard

/-- THE TIED CARD OF 'dataenclavelaw30.BoundsSums'. -/
def boundsSumsCard : Claim7 := { stood := { row := boundsSumsRow, standIns := [], harness := (true, "78e7bb49ec391edd2b704a0847e850e1e28e8d41021e390986be8827c7426228"), looks := true }, kinds := [], alts := [], laidByText := true, laidKinds := [.data], laidTests := true, laidLooks := .later }
def BoundsSumsCardSaid : Prop := Claim7.holds Tryz.pinned (.plain (OpenSpec.ofChange boundsSumsSpec)) boundsSumsCard

/-- THE TIED CARD OF 'dataenclavetop.TopKnown'. -/
def topKnownCard : Claim7 := { stood := { row := topKnownRow, standIns := [], harness := (true, "78e7bb49ec391edd2b704a0847e850e1e28e8d41021e390986be8827c7426228"), looks := true }, kinds := [], alts := [], laidByText := true, laidKinds := [.data, .data, .data], laidTests := true, laidLooks := .later }
def TopKnownCardSaid : Prop := Claim7.holds Tryz.pinned (.plain (OpenSpec.ofChange topKnownSpec)) topKnownCard

/-- THE TIED CARD OF 'dataenclavelaw30.BoundsHold'. -/
def boundsHoldCard : Claim7 := { stood := { row := boundsHoldRow, standIns := [], harness := (true, "78e7bb49ec391edd2b704a0847e850e1e28e8d41021e390986be8827c7426228"), looks := true }, kinds := [], alts := [], laidByText := true, laidKinds := [.data], laidTests := true, laidLooks := .later }
def BoundsHoldCardSaid : Prop := Claim7.holds Tryz.pinned (.plain (OpenSpec.ofChange boundsHoldSpec)) boundsHoldCard

/-- THE TIED CARD OF 'dataenclavelaw30.BoundsAnswers'. -/
def boundsAnswersCard : Claim7 := { stood := { row := boundsAnswersRow, standIns := [], harness := (true, "78e7bb49ec391edd2b704a0847e850e1e28e8d41021e390986be8827c7426228"), looks := true }, kinds := [], alts := [], laidByText := true, laidKinds := [.data], laidTests := true, laidLooks := .later }
def BoundsAnswersCardSaid : Prop := Claim7.holds Tryz.pinned (.plain (OpenSpec.ofChange boundsAnswersSpec)) boundsAnswersCard

/-- THE TIED CARD OF 'dataenclavelaw31.IntegersBounds'. -/
def integersBoundsCard : Claim7 := { stood := { row := integersBoundsRow, standIns := [], harness := (true, "78e7bb49ec391edd2b704a0847e850e1e28e8d41021e390986be8827c7426228"), looks := true }, kinds := [], alts := [], laidByText := true, laidKinds := [.data], laidTests := true, laidLooks := .later }
def IntegersBoundsCardSaid : Prop := Claim7.holds Tryz.pinned (.plain (OpenSpec.ofChange integersBoundsSpec)) integersBoundsCard

/-- THE SECOND FORM's CARD OF 'dataenclavelaw30.BoundsProofs'. -/
def boundsProofsUptoCard : Claim7 := { stood := { row := boundsProofsUptoRow, standIns := [], harness := (true, "78e7bb49ec391edd2b704a0847e850e1e28e8d41021e390986be8827c7426228"), looks := true }, kinds := [], alts := [], laidByText := true, laidKinds := [.data], laidTests := true, laidLooks := .later }
def BoundsProofsUptoCardSaid : Prop := Claim7.holds Tryz.pinned (.plain (OpenSpec.upto boundsProofsSpec)) boundsProofsUptoCard

/-- THE SECOND FORM's CARD OF 'dataenclavelaw30.BoundsSums'. -/
def boundsSumsUptoCard : Claim7 := { stood := { row := boundsSumsUptoRow, standIns := [], harness := (true, "78e7bb49ec391edd2b704a0847e850e1e28e8d41021e390986be8827c7426228"), looks := true }, kinds := [], alts := [], laidByText := true, laidKinds := [.data], laidTests := true, laidLooks := .later }
def BoundsSumsUptoCardSaid : Prop := Claim7.holds Tryz.pinned (.plain (OpenSpec.upto boundsSumsSpec)) boundsSumsUptoCard

/-- THE SECOND FORM's CARD OF 'dataenclavetop.TopKnown'. -/
def topKnownUptoCard : Claim7 := { stood := { row := topKnownUptoRow, standIns := [], harness := (true, "78e7bb49ec391edd2b704a0847e850e1e28e8d41021e390986be8827c7426228"), looks := true }, kinds := [], alts := [], laidByText := true, laidKinds := [.data, .data, .data], laidTests := true, laidLooks := .later }
def TopKnownUptoCardSaid : Prop := Claim7.holds Tryz.pinned (.plain (OpenSpec.upto topKnownSpec)) topKnownUptoCard

/-- THE SECOND FORM's CARD OF 'dataenclavelaw30.BoundsHold'. -/
def boundsHoldUptoCard : Claim7 := { stood := { row := boundsHoldUptoRow, standIns := [], harness := (true, "78e7bb49ec391edd2b704a0847e850e1e28e8d41021e390986be8827c7426228"), looks := true }, kinds := [], alts := [], laidByText := true, laidKinds := [.data], laidTests := true, laidLooks := .later }
def BoundsHoldUptoCardSaid : Prop := Claim7.holds Tryz.pinned (.plain (OpenSpec.upto boundsHoldSpec)) boundsHoldUptoCard

/-- THE SECOND FORM's CARD OF 'dataenclavelaw30.BoundsAnswers'. -/
def boundsAnswersUptoCard : Claim7 := { stood := { row := boundsAnswersUptoRow, standIns := [], harness := (true, "78e7bb49ec391edd2b704a0847e850e1e28e8d41021e390986be8827c7426228"), looks := true }, kinds := [], alts := [], laidByText := true, laidKinds := [.data], laidTests := true, laidLooks := .later }
def BoundsAnswersUptoCardSaid : Prop := Claim7.holds Tryz.pinned (.plain (OpenSpec.upto boundsAnswersSpec)) boundsAnswersUptoCard

/-- THE SECOND FORM's CARD OF 'dataenclavelaw31.IntegersBounds'. -/
def integersBoundsUptoCard : Claim7 := { stood := { row := integersBoundsUptoRow, standIns := [], harness := (true, "78e7bb49ec391edd2b704a0847e850e1e28e8d41021e390986be8827c7426228"), looks := true }, kinds := [], alts := [], laidByText := true, laidKinds := [.data], laidTests := true, laidLooks := .later }
def IntegersBoundsUptoCardSaid : Prop := Claim7.holds Tryz.pinned (.plain (OpenSpec.upto integersBoundsSpec)) integersBoundsUptoCard
end Rows
end Go.Proofs.YtpcnapidlhpbkaaGreatDoor
