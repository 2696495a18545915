/-
  DERIVED. GIVEN WITH THE SEED: THE CARDS: each row of YtpdgnjoideppjaaDoorRows.lean that lists a variable, with what it lists TIED to the program's text (the seventh form; the later family's looks); each row that meets fmt, with fmt's text TOLD by the authors' own Lean function (tested against real Go, not proved from fmt's source: count such statements apart). THE CARD IS WHAT COUNTS. Prove the row's statement (the work); the ties are given (YtpdgnjoideppjaaDoorTie.lean); close each card by the builder's one call (the guide's Derived/Test/ToyasCard.lean, 'card_holds'). Laid BY PROGRAM, IN A SANDBOX (cutbox-door.mjs). By AI agents, Wed Nov 11 2026. No macro, syntax, notation, axiom, sorry.
-/
import Derived.Test.YtpdgnjoideppjaaDoorRows
import GoSem.ClaimSeven
namespace Go.Proofs.YtpdgnjoideppjaaDoor
namespace Rows

/-- THE TIED CARD OF 'dataenclavelaw07.LinearSolves'. -/
def linearSolvesCard : Claim7 := { stood := { row := linearSolvesRow, standIns := [], harness := (true, "b10ff057a5d383a21eef2409076e120082637bca79332b57ccef3a8233a2fb38"), looks := false }, kinds := [], alts := [], laidByText := true, laidKinds := [.data], laidTests := true, laidLooks := .later }
def LinearSolvesCardSaid : Prop := Claim7.holds Tryd.pinned (.plain (OpenSpec.ofChange linearSolvesSpec)) linearSolvesCard

/-- THE TIED CARD OF 'dataenclavelaw07.LinearRatios'. -/
def linearRatiosCard : Claim7 := { stood := { row := linearRatiosRow, standIns := [], harness := (true, "b10ff057a5d383a21eef2409076e120082637bca79332b57ccef3a8233a2fb38"), looks := false }, kinds := [], alts := [], laidByText := true, laidKinds := [.data], laidTests := true, laidLooks := .later }
def LinearRatiosCardSaid : Prop := Claim7.holds Tryd.pinned (.plain (OpenSpec.ofChange linearRatiosSpec)) linearRatiosCard

/-- THE TIED CARD OF 'dataenclavelaw07.LinearExact'. -/
def linearExactCard : Claim7 := { stood := { row := linearExactRow, standIns := [], harness := (true, "b10ff057a5d383a21eef2409076e120082637bca79332b57ccef3a8233a2fb38"), looks := false }, kinds := [], alts := [], laidByText := true, laidKinds := [.data], laidTests := true, laidLooks := .later }
def LinearExactCardSaid : Prop := Claim7.holds Tryd.pinned (.plain (OpenSpec.ofChange linearExactSpec)) linearExactCard

/-- THE TIED CARD OF 'dataenclavelaw07.LinearLarge'. -/
def linearLargeCard : Claim7 := { stood := { row := linearLargeRow, standIns := [], harness := (true, "b10ff057a5d383a21eef2409076e120082637bca79332b57ccef3a8233a2fb38"), looks := false }, kinds := [], alts := [], laidByText := true, laidKinds := [.data], laidTests := true, laidLooks := .later }
def LinearLargeCardSaid : Prop := Claim7.holds Tryd.pinned (.plain (OpenSpec.ofChange linearLargeSpec)) linearLargeCard

/-- THE TIED CARD OF 'dataenclavelaw07.LinearKernel'. -/
def linearKernelCard : Claim7 := { stood := { row := linearKernelRow, standIns := [], harness := (true, "b10ff057a5d383a21eef2409076e120082637bca79332b57ccef3a8233a2fb38"), looks := false }, kinds := [], alts := [], laidByText := true, laidKinds := [.data], laidTests := true, laidLooks := .later }
def LinearKernelCardSaid : Prop := Claim7.holds Tryd.pinned (.plain (OpenSpec.ofChange linearKernelSpec)) linearKernelCard

/-- THE SECOND FORM's CARD OF 'dataenclavelaw07.LinearSolves'. -/
def linearSolvesUptoCard : Claim7 := { stood := { row := linearSolvesUptoRow, standIns := [], harness := (true, "b10ff057a5d383a21eef2409076e120082637bca79332b57ccef3a8233a2fb38"), looks := false }, kinds := [], alts := [], laidByText := true, laidKinds := [.data], laidTests := true, laidLooks := .later }
def LinearSolvesUptoCardSaid : Prop := Claim7.holds Tryd.pinned (.plain (OpenSpec.upto linearSolvesSpec)) linearSolvesUptoCard

/-- THE SECOND FORM's CARD OF 'dataenclavelaw07.LinearRatios'. -/
def linearRatiosUptoCard : Claim7 := { stood := { row := linearRatiosUptoRow, standIns := [], harness := (true, "b10ff057a5d383a21eef2409076e120082637bca79332b57ccef3a8233a2fb38"), looks := false }, kinds := [], alts := [], laidByText := true, laidKinds := [.data], laidTests := true, laidLooks := .later }
def LinearRatiosUptoCardSaid : Prop := Claim7.holds Tryd.pinned (.plain (OpenSpec.upto linearRatiosSpec)) linearRatiosUptoCard

/-- THE SECOND FORM's CARD OF 'dataenclavelaw07.LinearExact'. -/
def linearExactUptoCard : Claim7 := { stood := { row := linearExactUptoRow, standIns := [], harness := (true, "b10ff057a5d383a21eef2409076e120082637bca79332b57ccef3a8233a2fb38"), looks := false }, kinds := [], alts := [], laidByText := true, laidKinds := [.data], laidTests := true, laidLooks := .later }
def LinearExactUptoCardSaid : Prop := Claim7.holds Tryd.pinned (.plain (OpenSpec.upto linearExactSpec)) linearExactUptoCard

/-- THE SECOND FORM's CARD OF 'dataenclavelaw07.LinearLarge'. -/
def linearLargeUptoCard : Claim7 := { stood := { row := linearLargeUptoRow, standIns := [], harness := (true, "b10ff057a5d383a21eef2409076e120082637bca79332b57ccef3a8233a2fb38"), looks := false }, kinds := [], alts := [], laidByText := true, laidKinds := [.data], laidTests := true, laidLooks := .later }
def LinearLargeUptoCardSaid : Prop := Claim7.holds Tryd.pinned (.plain (OpenSpec.upto linearLargeSpec)) linearLargeUptoCard

/-- THE SECOND FORM's CARD OF 'dataenclavelaw07.LinearKernel'. -/
def linearKernelUptoCard : Claim7 := { stood := { row := linearKernelUptoRow, standIns := [], harness := (true, "b10ff057a5d383a21eef2409076e120082637bca79332b57ccef3a8233a2fb38"), looks := false }, kinds := [], alts := [], laidByText := true, laidKinds := [.data], laidTests := true, laidLooks := .later }
def LinearKernelUptoCardSaid : Prop := Claim7.holds Tryd.pinned (.plain (OpenSpec.upto linearKernelSpec)) linearKernelUptoCard
end Rows
end Go.Proofs.YtpdgnjoideppjaaDoor
