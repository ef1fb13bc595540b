/-
  DERIVED. GIVEN WITH THE SEED: THE CARDS: each row of YtmoecidfmgeafaaDoorRows.lean that lists a variable, with what it lists TIED to the program's text (the seventh form; the later family's looks); each row that meets fmt, with fmt's text TOLD by the authors' own Lean function (tested against real Go, not proved from fmt's source: count such statements apart). THE CARD IS WHAT COUNTS. Prove the row's statement (the work); the ties are given (YtmoecidfmgeafaaDoorTie.lean); close each card by the builder's one call (the guide's Derived/Test/ToyasCard.lean, 'card_holds'). Laid BY PROGRAM, IN A SANDBOX (cutbox-door.mjs). By AI agents, Wed Nov 11 2026. No macro, syntax, notation, axiom, sorry.
-/
import Derived.Test.YtmoecidfmgeafaaDoorRows
import GoSem.ClaimSeven
namespace Go.Proofs.YtmoecidfmgeafaaDoor
namespace Rows

/-- THE TIED CARD OF 'coraclelaw3.PointTexts'. -/
def pointTextsCard : Claim7 := { stood := { row := pointTextsRow, standIns := [], harness := (true, "0b7e0c2de28af9697d3decb878c5134bccd045976616b9cab2551a67bb0292b7"), looks := true }, kinds := [], alts := [], laidByText := true, laidKinds := [.data, .data, .data, .sentinel, .sentinel], laidTests := true, laidLooks := .later }
def PointTextsCardSaid : Prop := Claim7.holds Tryd.pinned (.plain (OpenSpec.ofChange pointTextsSpec)) pointTextsCard

/-- THE TIED CARD OF 'coraclelaw3.PointSets'. -/
def pointSetsCard : Claim7 := { stood := { row := pointSetsRow, standIns := [], harness := (true, "0b7e0c2de28af9697d3decb878c5134bccd045976616b9cab2551a67bb0292b7"), looks := true }, kinds := [], alts := [], laidByText := true, laidKinds := [.data, .data, .data, .sentinel, .sentinel], laidTests := true, laidLooks := .later }
def PointSetsCardSaid : Prop := Claim7.holds Tryd.pinned (.plain (OpenSpec.ofChange pointSetsSpec)) pointSetsCard

/-- THE TIED CARD OF 'coraclelaw3.PointOrder'. -/
def pointOrderCard : Claim7 := { stood := { row := pointOrderRow, standIns := [], harness := (true, "0b7e0c2de28af9697d3decb878c5134bccd045976616b9cab2551a67bb0292b7"), looks := true }, kinds := [], alts := [], laidByText := true, laidKinds := [.data, .data, .data, .sentinel, .sentinel], laidTests := true, laidLooks := .later }
def PointOrderCardSaid : Prop := Claim7.holds Tryd.pinned (.plain (OpenSpec.ofChange pointOrderSpec)) pointOrderCard

/-- THE TIED CARD OF 'coraclelaw3.PointParts'. -/
def pointPartsCard : Claim7 := { stood := { row := pointPartsRow, standIns := [], harness := (true, "0b7e0c2de28af9697d3decb878c5134bccd045976616b9cab2551a67bb0292b7"), looks := true }, kinds := [], alts := [], laidByText := true, laidKinds := [.data, .data, .data, .sentinel, .sentinel], laidTests := true, laidLooks := .later }
def PointPartsCardSaid : Prop := Claim7.holds Tryd.pinned (.plain (OpenSpec.ofChange pointPartsSpec)) pointPartsCard

/-- THE SECOND FORM's CARD OF 'coraclelaw3.PointTexts'. -/
def pointTextsUptoCard : Claim7 := { stood := { row := pointTextsUptoRow, standIns := [], harness := (true, "0b7e0c2de28af9697d3decb878c5134bccd045976616b9cab2551a67bb0292b7"), looks := true }, kinds := [], alts := [], laidByText := true, laidKinds := [.data, .data, .data, .sentinel, .sentinel], laidTests := true, laidLooks := .later }
def PointTextsUptoCardSaid : Prop := Claim7.holds Tryd.pinned (.plain (OpenSpec.upto pointTextsSpec)) pointTextsUptoCard

/-- THE SECOND FORM's CARD OF 'coraclelaw3.PointSets'. -/
def pointSetsUptoCard : Claim7 := { stood := { row := pointSetsUptoRow, standIns := [], harness := (true, "0b7e0c2de28af9697d3decb878c5134bccd045976616b9cab2551a67bb0292b7"), looks := true }, kinds := [], alts := [], laidByText := true, laidKinds := [.data, .data, .data, .sentinel, .sentinel], laidTests := true, laidLooks := .later }
def PointSetsUptoCardSaid : Prop := Claim7.holds Tryd.pinned (.plain (OpenSpec.upto pointSetsSpec)) pointSetsUptoCard

/-- THE SECOND FORM's CARD OF 'coraclelaw3.PointOrder'. -/
def pointOrderUptoCard : Claim7 := { stood := { row := pointOrderUptoRow, standIns := [], harness := (true, "0b7e0c2de28af9697d3decb878c5134bccd045976616b9cab2551a67bb0292b7"), looks := true }, kinds := [], alts := [], laidByText := true, laidKinds := [.data, .data, .data, .sentinel, .sentinel], laidTests := true, laidLooks := .later }
def PointOrderUptoCardSaid : Prop := Claim7.holds Tryd.pinned (.plain (OpenSpec.upto pointOrderSpec)) pointOrderUptoCard

/-- THE SECOND FORM's CARD OF 'coraclelaw3.PointParts'. -/
def pointPartsUptoCard : Claim7 := { stood := { row := pointPartsUptoRow, standIns := [], harness := (true, "0b7e0c2de28af9697d3decb878c5134bccd045976616b9cab2551a67bb0292b7"), looks := true }, kinds := [], alts := [], laidByText := true, laidKinds := [.data, .data, .data, .sentinel, .sentinel], laidTests := true, laidLooks := .later }
def PointPartsUptoCardSaid : Prop := Claim7.holds Tryd.pinned (.plain (OpenSpec.upto pointPartsSpec)) pointPartsUptoCard
end Rows
end Go.Proofs.YtmoecidfmgeafaaDoor
