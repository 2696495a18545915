/-
  DERIVED. GIVEN WITH THE SEED: THE CARDS: each row of YtpcnapidlhpbkaaDoorRows.lean that lists a variable, with what it lists TIED to the program's text (the seventh form; the later family's looks); each row that meets fmt, with fmt's text TOLD by the authors' own Lean function (tested against real Go, not proved from fmt's source: count such statements apart). THE CARD IS WHAT COUNTS. Prove the row's statement (the work); the ties are given (YtpcnapidlhpbkaaDoorTie.lean); close each card by the builder's one call (the guide's Derived/Test/ToyasCard.lean, 'card_holds'). Laid BY PROGRAM, IN A SANDBOX (cutbox-door.mjs). By AI agents, Wed Nov 11 2026. No macro, syntax, notation, axiom, sorry.
-/
import Derived.Test.YtpcnapidlhpbkaaDoorRows
import GoSem.ClaimSeven
namespace Go.Proofs.YtpcnapidlhpbkaaDoor
namespace Rows

/-- THE TIED CARD OF 'dataenclavelaw30.BoundsNarrow'. -/
def boundsNarrowCard : Claim7 := { stood := { row := boundsNarrowRow, standIns := [], harness := (true, "c9ef0252eab844399e8d961f611bbebae535d1cea4ed13ef78336a876d8e7cd5"), looks := false }, kinds := [], alts := [], laidByText := true, laidKinds := [.data], laidTests := true, laidLooks := .later }
def BoundsNarrowCardSaid : Prop := Claim7.holds Tryd.pinned (.plain (OpenSpec.ofChange boundsNarrowSpec)) boundsNarrowCard

/-- THE TIED CARD OF 'dataenclavelaw30.BoundsConflict'. -/
def boundsConflictCard : Claim7 := { stood := { row := boundsConflictRow, standIns := [], harness := (true, "c9ef0252eab844399e8d961f611bbebae535d1cea4ed13ef78336a876d8e7cd5"), looks := false }, kinds := [], alts := [], laidByText := true, laidKinds := [.data], laidTests := true, laidLooks := .later }
def BoundsConflictCardSaid : Prop := Claim7.holds Tryd.pinned (.plain (OpenSpec.ofChange boundsConflictSpec)) boundsConflictCard

/-- THE SECOND FORM's CARD OF 'dataenclavelaw30.BoundsNarrow'. -/
def boundsNarrowUptoCard : Claim7 := { stood := { row := boundsNarrowUptoRow, standIns := [], harness := (true, "c9ef0252eab844399e8d961f611bbebae535d1cea4ed13ef78336a876d8e7cd5"), looks := false }, kinds := [], alts := [], laidByText := true, laidKinds := [.data], laidTests := true, laidLooks := .later }
def BoundsNarrowUptoCardSaid : Prop := Claim7.holds Tryd.pinned (.plain (OpenSpec.upto boundsNarrowSpec)) boundsNarrowUptoCard

/-- THE SECOND FORM's CARD OF 'dataenclavelaw30.BoundsConflict'. -/
def boundsConflictUptoCard : Claim7 := { stood := { row := boundsConflictUptoRow, standIns := [], harness := (true, "c9ef0252eab844399e8d961f611bbebae535d1cea4ed13ef78336a876d8e7cd5"), looks := false }, kinds := [], alts := [], laidByText := true, laidKinds := [.data], laidTests := true, laidLooks := .later }
def BoundsConflictUptoCardSaid : Prop := Claim7.holds Tryd.pinned (.plain (OpenSpec.upto boundsConflictSpec)) boundsConflictUptoCard
end Rows
end Go.Proofs.YtpcnapidlhpbkaaDoor
