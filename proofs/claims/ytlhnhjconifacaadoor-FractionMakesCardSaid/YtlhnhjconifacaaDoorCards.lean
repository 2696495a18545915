/-
  DERIVED. GIVEN WITH THE SEED: THE CARDS: each row of YtlhnhjconifacaaDoorRows.lean that lists a variable, with what it lists TIED to the program's text (the seventh form; the later family's looks); each row that meets fmt, with fmt's text TOLD by the authors' own Lean function (tested against real Go, not proved from fmt's source: count such statements apart). THE CARD IS WHAT COUNTS. Prove the row's statement (the work); the ties are given (YtlhnhjconifacaaDoorTie.lean); close each card by the builder's one call (the guide's Derived/Test/ToyasCard.lean, 'card_holds'). Laid BY PROGRAM, IN A SANDBOX (cutbox-door.mjs). By AI agents, Wed Nov 11 2026. No macro, syntax, notation, axiom, sorry.
-/
import Derived.Test.YtlhnhjconifacaaDoorRows
import GoSem.ClaimSeven
namespace Go.Proofs.YtlhnhjconifacaaDoor
namespace Rows

/-- THE TIED CARD OF 'dataenclavelaw06.FractionMakes'. -/
def fractionMakesCard : Claim7 := { stood := { row := fractionMakesRow, standIns := [], harness := (true, "ad4b2059cd37927b70c4379d991f79ffeba17aba79c23fcfed0119f573b773d7"), looks := false }, kinds := [], alts := [], laidByText := true, laidKinds := [.data, .data, .data], laidTests := true, laidLooks := .later }
def FractionMakesCardSaid : Prop := Claim7.holds Tryd.pinned (.plain (OpenSpec.ofChange fractionMakesSpec)) fractionMakesCard

/-- THE TIED CARD OF 'dataenclavelaw06.FractionOrders'. -/
def fractionOrdersCard : Claim7 := { stood := { row := fractionOrdersRow, standIns := [], harness := (true, "ad4b2059cd37927b70c4379d991f79ffeba17aba79c23fcfed0119f573b773d7"), looks := false }, kinds := [], alts := [], laidByText := true, laidKinds := [.data, .data, .data], laidTests := true, laidLooks := .later }
def FractionOrdersCardSaid : Prop := Claim7.holds Tryd.pinned (.plain (OpenSpec.ofChange fractionOrdersSpec)) fractionOrdersCard

/-- THE TIED CARD OF 'dataenclavelaw06.FractionSmall'. -/
def fractionSmallCard : Claim7 := { stood := { row := fractionSmallRow, standIns := [], harness := (true, "ad4b2059cd37927b70c4379d991f79ffeba17aba79c23fcfed0119f573b773d7"), looks := false }, kinds := [], alts := [], laidByText := true, laidKinds := [.data, .data, .data], laidTests := true, laidLooks := .later }
def FractionSmallCardSaid : Prop := Claim7.holds Tryd.pinned (.plain (OpenSpec.ofChange fractionSmallSpec)) fractionSmallCard

/-- THE TIED CARD OF 'dataenclavelaw06.FractionExact'. -/
def fractionExactCard : Claim7 := { stood := { row := fractionExactRow, standIns := [], harness := (true, "ad4b2059cd37927b70c4379d991f79ffeba17aba79c23fcfed0119f573b773d7"), looks := false }, kinds := [], alts := [], laidByText := true, laidKinds := [.data, .data, .data], laidTests := true, laidLooks := .later }
def FractionExactCardSaid : Prop := Claim7.holds Tryd.pinned (.plain (OpenSpec.ofChange fractionExactSpec)) fractionExactCard

/-- THE TIED CARD OF 'dataenclavelaw06.FractionLaws'. -/
def fractionLawsCard : Claim7 := { stood := { row := fractionLawsRow, standIns := [], harness := (true, "ad4b2059cd37927b70c4379d991f79ffeba17aba79c23fcfed0119f573b773d7"), looks := false }, kinds := [], alts := [], laidByText := true, laidKinds := [.data, .data, .data], laidTests := true, laidLooks := .later }
def FractionLawsCardSaid : Prop := Claim7.holds Tryd.pinned (.plain (OpenSpec.ofChange fractionLawsSpec)) fractionLawsCard

/-- THE SECOND FORM's CARD OF 'dataenclavelaw06.FractionMakes'. -/
def fractionMakesUptoCard : Claim7 := { stood := { row := fractionMakesUptoRow, standIns := [], harness := (true, "ad4b2059cd37927b70c4379d991f79ffeba17aba79c23fcfed0119f573b773d7"), looks := false }, kinds := [], alts := [], laidByText := true, laidKinds := [.data, .data, .data], laidTests := true, laidLooks := .later }
def FractionMakesUptoCardSaid : Prop := Claim7.holds Tryd.pinned (.plain (OpenSpec.upto fractionMakesSpec)) fractionMakesUptoCard

/-- THE SECOND FORM's CARD OF 'dataenclavelaw06.FractionOrders'. -/
def fractionOrdersUptoCard : Claim7 := { stood := { row := fractionOrdersUptoRow, standIns := [], harness := (true, "ad4b2059cd37927b70c4379d991f79ffeba17aba79c23fcfed0119f573b773d7"), looks := false }, kinds := [], alts := [], laidByText := true, laidKinds := [.data, .data, .data], laidTests := true, laidLooks := .later }
def FractionOrdersUptoCardSaid : Prop := Claim7.holds Tryd.pinned (.plain (OpenSpec.upto fractionOrdersSpec)) fractionOrdersUptoCard

/-- THE SECOND FORM's CARD OF 'dataenclavelaw06.FractionSmall'. -/
def fractionSmallUptoCard : Claim7 := { stood := { row := fractionSmallUptoRow, standIns := [], harness := (true, "ad4b2059cd37927b70c4379d991f79ffeba17aba79c23fcfed0119f573b773d7"), looks := false }, kinds := [], alts := [], laidByText := true, laidKinds := [.data, .data, .data], laidTests := true, laidLooks := .later }
def FractionSmallUptoCardSaid : Prop := Claim7.holds Tryd.pinned (.plain (OpenSpec.upto fractionSmallSpec)) fractionSmallUptoCard

/-- THE SECOND FORM's CARD OF 'dataenclavelaw06.FractionExact'. -/
def fractionExactUptoCard : Claim7 := { stood := { row := fractionExactUptoRow, standIns := [], harness := (true, "ad4b2059cd37927b70c4379d991f79ffeba17aba79c23fcfed0119f573b773d7"), looks := false }, kinds := [], alts := [], laidByText := true, laidKinds := [.data, .data, .data], laidTests := true, laidLooks := .later }
def FractionExactUptoCardSaid : Prop := Claim7.holds Tryd.pinned (.plain (OpenSpec.upto fractionExactSpec)) fractionExactUptoCard

/-- THE SECOND FORM's CARD OF 'dataenclavelaw06.FractionLaws'. -/
def fractionLawsUptoCard : Claim7 := { stood := { row := fractionLawsUptoRow, standIns := [], harness := (true, "ad4b2059cd37927b70c4379d991f79ffeba17aba79c23fcfed0119f573b773d7"), looks := false }, kinds := [], alts := [], laidByText := true, laidKinds := [.data, .data, .data], laidTests := true, laidLooks := .later }
def FractionLawsUptoCardSaid : Prop := Claim7.holds Tryd.pinned (.plain (OpenSpec.upto fractionLawsSpec)) fractionLawsUptoCard
end Rows
end Go.Proofs.YtlhnhjconifacaaDoor
