/-
  DERIVED. GIVEN WITH THE SEED: THE CARDS: each row of YtapckjeedekphaaGreatDoorRows.lean that lists a variable, with what it lists TIED to the program's text (the seventh form; the later family's looks); each row that meets fmt, with fmt's text TOLD by the authors' own Lean function (tested against real Go, not proved from fmt's source: count such statements apart). THE CARD IS WHAT COUNTS. Prove the row's statement (the work); the ties are given (YtapckjeedekphaaGreatDoorTie.lean); close each card by the builder's one call (the guide's Derived/Test/ToyasCard.lean, 'card_holds'). Laid BY PROGRAM, IN A SANDBOX (cutbox-door.mjs). By AI agents, Wed Nov 11 2026. No macro, syntax, notation, axiom, sorry.
-/
import Derived.Test.YtapckjeedekphaaGreatDoorRows
import GoSem.ClaimSeven
namespace Go.Proofs.YtapckjeedekphaaGreatDoor
namespace Rows

/-- THE TIED CARD OF 'dowellaw02.RationalMakes'. -/
def rationalMakesCard : Claim7 := { stood := { row := rationalMakesRow, standIns := [], harness := (true, "c5338c91afb61c61561fd51c688368afa1e5f85a9bc484d31e2eed09adba5908"), looks := true }, kinds := [], alts := [], laidByText := true, laidKinds := [.data, .data, .data, .sentinel, .sentinel], laidTests := true, laidLooks := .later }
def RationalMakesCardSaid : Prop := Claim7.holds Tryz.pinned (.plain (OpenSpec.ofChange rationalMakesSpec)) rationalMakesCard

/-- THE TIED CARD OF 'dowellaw02.RationalParses'. -/
def rationalParsesCard : Claim7 := { stood := { row := rationalParsesRow, standIns := [], harness := (true, "c5338c91afb61c61561fd51c688368afa1e5f85a9bc484d31e2eed09adba5908"), looks := true }, kinds := [], alts := [], laidByText := true, laidKinds := [.data, .data, .data, .data, .sentinel, .sentinel, .pinned], laidTests := true, laidLooks := .later }
def RationalParsesCardSaid : Prop := Claim7.holds Tryz.pinned (.plain (OpenSpec.ofChange rationalParsesSpec)) rationalParsesCard

/-- THE TIED CARD OF 'dowellaw02.RationalReads'. -/
def rationalReadsCard : Claim7 := { stood := { row := rationalReadsRow, standIns := [], harness := (true, "c5338c91afb61c61561fd51c688368afa1e5f85a9bc484d31e2eed09adba5908"), looks := true }, kinds := [], alts := [], laidByText := true, laidKinds := [.data, .data, .data, .data, .sentinel, .sentinel, .pinned], laidTests := true, laidLooks := .later }
def RationalReadsCardSaid : Prop := Claim7.holds Tryz.pinned (.plain (OpenSpec.ofChange rationalReadsSpec)) rationalReadsCard

/-- THE TIED CARD OF 'dowellaw02.RationalAdds'. -/
def rationalAddsCard : Claim7 := { stood := { row := rationalAddsRow, standIns := [], harness := (true, "c5338c91afb61c61561fd51c688368afa1e5f85a9bc484d31e2eed09adba5908"), looks := true }, kinds := [], alts := [], laidByText := true, laidKinds := [.data, .data, .data, .data, .sentinel, .sentinel, .pinned], laidTests := true, laidLooks := .later }
def RationalAddsCardSaid : Prop := Claim7.holds Tryz.pinned (.plain (OpenSpec.ofChange rationalAddsSpec)) rationalAddsCard

/-- THE TIED CARD OF 'dowellaw02.RationalRounds'. -/
def rationalRoundsCard : Claim7 := { stood := { row := rationalRoundsRow, standIns := [], harness := (true, "c5338c91afb61c61561fd51c688368afa1e5f85a9bc484d31e2eed09adba5908"), looks := true }, kinds := [], alts := [], laidByText := true, laidKinds := [.data, .data, .data, .data, .sentinel, .sentinel, .pinned], laidTests := true, laidLooks := .later }
def RationalRoundsCardSaid : Prop := Claim7.holds Tryz.pinned (.plain (OpenSpec.ofChange rationalRoundsSpec)) rationalRoundsCard

/-- THE TIED CARD OF 'dowellaw03.VectorSums'. -/
def vectorSumsCard : Claim7 := { stood := { row := vectorSumsRow, standIns := [], harness := (true, "c5338c91afb61c61561fd51c688368afa1e5f85a9bc484d31e2eed09adba5908"), looks := true }, kinds := [], alts := [], laidByText := true, laidKinds := [.data, .data, .data, .data, .sentinel, .sentinel, .pinned], laidTests := true, laidLooks := .later }
def VectorSumsCardSaid : Prop := Claim7.holds Tryz.pinned (.plain (OpenSpec.ofChange vectorSumsSpec)) vectorSumsCard

/-- THE TIED CARD OF 'dowellaw02.RationalMuls'. -/
def rationalMulsCard : Claim7 := { stood := { row := rationalMulsRow, standIns := [], harness := (true, "c5338c91afb61c61561fd51c688368afa1e5f85a9bc484d31e2eed09adba5908"), looks := true }, kinds := [], alts := [], laidByText := true, laidKinds := [.data, .data, .data, .data, .sentinel, .sentinel, .pinned], laidTests := true, laidLooks := .later }
def RationalMulsCardSaid : Prop := Claim7.holds Tryz.pinned (.plain (OpenSpec.ofChange rationalMulsSpec)) rationalMulsCard

/-- THE TIED CARD OF 'dowellaw03.VectorInts'. -/
def vectorIntsCard : Claim7 := { stood := { row := vectorIntsRow, standIns := [], harness := (true, "c5338c91afb61c61561fd51c688368afa1e5f85a9bc484d31e2eed09adba5908"), looks := true }, kinds := [], alts := [], laidByText := true, laidKinds := [.data, .data, .data, .data, .sentinel, .sentinel, .pinned], laidTests := true, laidLooks := .later }
def VectorIntsCardSaid : Prop := Claim7.holds Tryz.pinned (.plain (OpenSpec.ofChange vectorIntsSpec)) vectorIntsCard

/-- THE TIED CARD OF 'dowellaw02.RationalCompares'. -/
def rationalComparesCard : Claim7 := { stood := { row := rationalComparesRow, standIns := [], harness := (true, "c5338c91afb61c61561fd51c688368afa1e5f85a9bc484d31e2eed09adba5908"), looks := true }, kinds := [], alts := [], laidByText := true, laidKinds := [.data, .data, .data, .data, .sentinel, .sentinel, .pinned], laidTests := true, laidLooks := .later }
def RationalComparesCardSaid : Prop := Claim7.holds Tryz.pinned (.plain (OpenSpec.ofChange rationalComparesSpec)) rationalComparesCard

/-- THE TIED CARD OF 'dowellaw02.RationalInts'. -/
def rationalIntsCard : Claim7 := { stood := { row := rationalIntsRow, standIns := [], harness := (true, "c5338c91afb61c61561fd51c688368afa1e5f85a9bc484d31e2eed09adba5908"), looks := true }, kinds := [], alts := [], laidByText := true, laidKinds := [.data, .data, .data, .data, .sentinel, .sentinel, .pinned], laidTests := true, laidLooks := .later }
def RationalIntsCardSaid : Prop := Claim7.holds Tryz.pinned (.plain (OpenSpec.ofChange rationalIntsSpec)) rationalIntsCard

/-- THE TIED CARD OF 'dowellaw02.RationalSimplest'. -/
def rationalSimplestCard : Claim7 := { stood := { row := rationalSimplestRow, standIns := [], harness := (true, "c5338c91afb61c61561fd51c688368afa1e5f85a9bc484d31e2eed09adba5908"), looks := true }, kinds := [], alts := [], laidByText := true, laidKinds := [.data, .data, .data, .data, .sentinel, .sentinel, .pinned], laidTests := true, laidLooks := .later }
def RationalSimplestCardSaid : Prop := Claim7.holds Tryz.pinned (.plain (OpenSpec.ofChange rationalSimplestSpec)) rationalSimplestCard

/-- THE TIED CARD OF 'dowellaw02.RationalField'. -/
def rationalFieldCard : Claim7 := { stood := { row := rationalFieldRow, standIns := [], harness := (true, "c5338c91afb61c61561fd51c688368afa1e5f85a9bc484d31e2eed09adba5908"), looks := true }, kinds := [], alts := [], laidByText := true, laidKinds := [.data, .data, .data, .data, .sentinel, .sentinel, .pinned], laidTests := true, laidLooks := .later }
def RationalFieldCardSaid : Prop := Claim7.holds Tryz.pinned (.plain (OpenSpec.ofChange rationalFieldSpec)) rationalFieldCard

/-- THE TIED CARD OF 'dowellaw02.RationalLists'. -/
def rationalListsCard : Claim7 := { stood := { row := rationalListsRow, standIns := [], harness := (true, "c5338c91afb61c61561fd51c688368afa1e5f85a9bc484d31e2eed09adba5908"), looks := true }, kinds := [], alts := [], laidByText := true, laidKinds := [.data, .data, .data, .data, .sentinel, .sentinel, .pinned], laidTests := true, laidLooks := .later }
def RationalListsCardSaid : Prop := Claim7.holds Tryz.pinned (.plain (OpenSpec.ofChange rationalListsSpec)) rationalListsCard

/-- THE TIED CARD OF 'dowellaw02.RationalOrder'. -/
def rationalOrderCard : Claim7 := { stood := { row := rationalOrderRow, standIns := [], harness := (true, "c5338c91afb61c61561fd51c688368afa1e5f85a9bc484d31e2eed09adba5908"), looks := true }, kinds := [], alts := [], laidByText := true, laidKinds := [.data, .data, .data, .data, .sentinel, .sentinel, .pinned], laidTests := true, laidLooks := .later }
def RationalOrderCardSaid : Prop := Claim7.holds Tryz.pinned (.plain (OpenSpec.ofChange rationalOrderSpec)) rationalOrderCard

/-- THE TIED CARD OF 'dowellaw03.VectorParses'. -/
def vectorParsesCard : Claim7 := { stood := { row := vectorParsesRow, standIns := [], harness := (true, "c5338c91afb61c61561fd51c688368afa1e5f85a9bc484d31e2eed09adba5908"), looks := true }, kinds := [], alts := [], laidByText := true, laidKinds := [.data, .data, .data, .data, .sentinel, .sentinel, .pinned], laidTests := true, laidLooks := .later }
def VectorParsesCardSaid : Prop := Claim7.holds Tryz.pinned (.plain (OpenSpec.ofChange vectorParsesSpec)) vectorParsesCard

/-- THE TIED CARD OF 'dowellaw03.VectorProducts'. -/
def vectorProductsCard : Claim7 := { stood := { row := vectorProductsRow, standIns := [], harness := (true, "c5338c91afb61c61561fd51c688368afa1e5f85a9bc484d31e2eed09adba5908"), looks := true }, kinds := [], alts := [], laidByText := true, laidKinds := [.data, .data, .data, .data, .sentinel, .sentinel, .pinned], laidTests := true, laidLooks := .later }
def VectorProductsCardSaid : Prop := Claim7.holds Tryz.pinned (.plain (OpenSpec.ofChange vectorProductsSpec)) vectorProductsCard

/-- THE TIED CARD OF 'dowellaw03.VectorOrder'. -/
def vectorOrderCard : Claim7 := { stood := { row := vectorOrderRow, standIns := [], harness := (true, "c5338c91afb61c61561fd51c688368afa1e5f85a9bc484d31e2eed09adba5908"), looks := true }, kinds := [], alts := [], laidByText := true, laidKinds := [.data, .data, .data, .data, .sentinel, .sentinel, .pinned], laidTests := true, laidLooks := .later }
def VectorOrderCardSaid : Prop := Claim7.holds Tryz.pinned (.plain (OpenSpec.ofChange vectorOrderSpec)) vectorOrderCard

/-- THE TIED CARD OF 'dowellaw03.VectorPrimitive'. -/
def vectorPrimitiveCard : Claim7 := { stood := { row := vectorPrimitiveRow, standIns := [], harness := (true, "c5338c91afb61c61561fd51c688368afa1e5f85a9bc484d31e2eed09adba5908"), looks := true }, kinds := [], alts := [], laidByText := true, laidKinds := [.data, .data, .data, .data, .sentinel, .sentinel, .pinned], laidTests := true, laidLooks := .later }
def VectorPrimitiveCardSaid : Prop := Claim7.holds Tryz.pinned (.plain (OpenSpec.ofChange vectorPrimitiveSpec)) vectorPrimitiveCard

/-- THE TIED CARD OF 'dowellaw03.VectorLinear'. -/
def vectorLinearCard : Claim7 := { stood := { row := vectorLinearRow, standIns := [], harness := (true, "c5338c91afb61c61561fd51c688368afa1e5f85a9bc484d31e2eed09adba5908"), looks := true }, kinds := [], alts := [], laidByText := true, laidKinds := [.data, .data, .data, .data, .sentinel, .sentinel, .pinned], laidTests := true, laidLooks := .later }
def VectorLinearCardSaid : Prop := Claim7.holds Tryz.pinned (.plain (OpenSpec.ofChange vectorLinearSpec)) vectorLinearCard

/-- THE TIED CARD OF 'dowellaw03.VectorPerpendicular'. -/
def vectorPerpendicularCard : Claim7 := { stood := { row := vectorPerpendicularRow, standIns := [], harness := (true, "c5338c91afb61c61561fd51c688368afa1e5f85a9bc484d31e2eed09adba5908"), looks := true }, kinds := [], alts := [], laidByText := true, laidKinds := [.data, .data, .data, .data, .sentinel, .sentinel, .pinned], laidTests := true, laidLooks := .later }
def VectorPerpendicularCardSaid : Prop := Claim7.holds Tryz.pinned (.plain (OpenSpec.ofChange vectorPerpendicularSpec)) vectorPerpendicularCard

/-- THE TIED CARD OF 'dowellaw03.VectorOrients'. -/
def vectorOrientsCard : Claim7 := { stood := { row := vectorOrientsRow, standIns := [], harness := (true, "c5338c91afb61c61561fd51c688368afa1e5f85a9bc484d31e2eed09adba5908"), looks := true }, kinds := [], alts := [], laidByText := true, laidKinds := [.data, .data, .data, .data, .sentinel, .sentinel, .pinned], laidTests := true, laidLooks := .later }
def VectorOrientsCardSaid : Prop := Claim7.holds Tryz.pinned (.plain (OpenSpec.ofChange vectorOrientsSpec)) vectorOrientsCard

/-- THE SECOND FORM's CARD OF 'dowellaw02.RationalMakes'. -/
def rationalMakesUptoCard : Claim7 := { stood := { row := rationalMakesUptoRow, standIns := [], harness := (true, "c5338c91afb61c61561fd51c688368afa1e5f85a9bc484d31e2eed09adba5908"), looks := true }, kinds := [], alts := [], laidByText := true, laidKinds := [.data, .data, .data, .sentinel, .sentinel], laidTests := true, laidLooks := .later }
def RationalMakesUptoCardSaid : Prop := Claim7.holds Tryz.pinned (.plain (OpenSpec.upto rationalMakesSpec)) rationalMakesUptoCard

/-- THE SECOND FORM's CARD OF 'dowellaw02.RationalParses'. -/
def rationalParsesUptoCard : Claim7 := { stood := { row := rationalParsesUptoRow, standIns := [], harness := (true, "c5338c91afb61c61561fd51c688368afa1e5f85a9bc484d31e2eed09adba5908"), looks := true }, kinds := [], alts := [], laidByText := true, laidKinds := [.data, .data, .data, .data, .sentinel, .sentinel, .pinned], laidTests := true, laidLooks := .later }
def RationalParsesUptoCardSaid : Prop := Claim7.holds Tryz.pinned (.plain (OpenSpec.upto rationalParsesSpec)) rationalParsesUptoCard

/-- THE SECOND FORM's CARD OF 'dowellaw02.RationalReads'. -/
def rationalReadsUptoCard : Claim7 := { stood := { row := rationalReadsUptoRow, standIns := [], harness := (true, "c5338c91afb61c61561fd51c688368afa1e5f85a9bc484d31e2eed09adba5908"), looks := true }, kinds := [], alts := [], laidByText := true, laidKinds := [.data, .data, .data, .data, .sentinel, .sentinel, .pinned], laidTests := true, laidLooks := .later }
def RationalReadsUptoCardSaid : Prop := Claim7.holds Tryz.pinned (.plain (OpenSpec.upto rationalReadsSpec)) rationalReadsUptoCard

/-- THE SECOND FORM's CARD OF 'dowellaw02.RationalAdds'. -/
def rationalAddsUptoCard : Claim7 := { stood := { row := rationalAddsUptoRow, standIns := [], harness := (true, "c5338c91afb61c61561fd51c688368afa1e5f85a9bc484d31e2eed09adba5908"), looks := true }, kinds := [], alts := [], laidByText := true, laidKinds := [.data, .data, .data, .data, .sentinel, .sentinel, .pinned], laidTests := true, laidLooks := .later }
def RationalAddsUptoCardSaid : Prop := Claim7.holds Tryz.pinned (.plain (OpenSpec.upto rationalAddsSpec)) rationalAddsUptoCard

/-- THE SECOND FORM's CARD OF 'dowellaw02.RationalRounds'. -/
def rationalRoundsUptoCard : Claim7 := { stood := { row := rationalRoundsUptoRow, standIns := [], harness := (true, "c5338c91afb61c61561fd51c688368afa1e5f85a9bc484d31e2eed09adba5908"), looks := true }, kinds := [], alts := [], laidByText := true, laidKinds := [.data, .data, .data, .data, .sentinel, .sentinel, .pinned], laidTests := true, laidLooks := .later }
def RationalRoundsUptoCardSaid : Prop := Claim7.holds Tryz.pinned (.plain (OpenSpec.upto rationalRoundsSpec)) rationalRoundsUptoCard

/-- THE SECOND FORM's CARD OF 'dowellaw03.VectorSums'. -/
def vectorSumsUptoCard : Claim7 := { stood := { row := vectorSumsUptoRow, standIns := [], harness := (true, "c5338c91afb61c61561fd51c688368afa1e5f85a9bc484d31e2eed09adba5908"), looks := true }, kinds := [], alts := [], laidByText := true, laidKinds := [.data, .data, .data, .data, .sentinel, .sentinel, .pinned], laidTests := true, laidLooks := .later }
def VectorSumsUptoCardSaid : Prop := Claim7.holds Tryz.pinned (.plain (OpenSpec.upto vectorSumsSpec)) vectorSumsUptoCard

/-- THE SECOND FORM's CARD OF 'dowellaw02.RationalMuls'. -/
def rationalMulsUptoCard : Claim7 := { stood := { row := rationalMulsUptoRow, standIns := [], harness := (true, "c5338c91afb61c61561fd51c688368afa1e5f85a9bc484d31e2eed09adba5908"), looks := true }, kinds := [], alts := [], laidByText := true, laidKinds := [.data, .data, .data, .data, .sentinel, .sentinel, .pinned], laidTests := true, laidLooks := .later }
def RationalMulsUptoCardSaid : Prop := Claim7.holds Tryz.pinned (.plain (OpenSpec.upto rationalMulsSpec)) rationalMulsUptoCard

/-- THE SECOND FORM's CARD OF 'dowellaw03.VectorInts'. -/
def vectorIntsUptoCard : Claim7 := { stood := { row := vectorIntsUptoRow, standIns := [], harness := (true, "c5338c91afb61c61561fd51c688368afa1e5f85a9bc484d31e2eed09adba5908"), looks := true }, kinds := [], alts := [], laidByText := true, laidKinds := [.data, .data, .data, .data, .sentinel, .sentinel, .pinned], laidTests := true, laidLooks := .later }
def VectorIntsUptoCardSaid : Prop := Claim7.holds Tryz.pinned (.plain (OpenSpec.upto vectorIntsSpec)) vectorIntsUptoCard

/-- THE SECOND FORM's CARD OF 'dowellaw02.RationalCompares'. -/
def rationalComparesUptoCard : Claim7 := { stood := { row := rationalComparesUptoRow, standIns := [], harness := (true, "c5338c91afb61c61561fd51c688368afa1e5f85a9bc484d31e2eed09adba5908"), looks := true }, kinds := [], alts := [], laidByText := true, laidKinds := [.data, .data, .data, .data, .sentinel, .sentinel, .pinned], laidTests := true, laidLooks := .later }
def RationalComparesUptoCardSaid : Prop := Claim7.holds Tryz.pinned (.plain (OpenSpec.upto rationalComparesSpec)) rationalComparesUptoCard

/-- THE SECOND FORM's CARD OF 'dowellaw02.RationalInts'. -/
def rationalIntsUptoCard : Claim7 := { stood := { row := rationalIntsUptoRow, standIns := [], harness := (true, "c5338c91afb61c61561fd51c688368afa1e5f85a9bc484d31e2eed09adba5908"), looks := true }, kinds := [], alts := [], laidByText := true, laidKinds := [.data, .data, .data, .data, .sentinel, .sentinel, .pinned], laidTests := true, laidLooks := .later }
def RationalIntsUptoCardSaid : Prop := Claim7.holds Tryz.pinned (.plain (OpenSpec.upto rationalIntsSpec)) rationalIntsUptoCard

/-- THE SECOND FORM's CARD OF 'dowellaw02.RationalSimplest'. -/
def rationalSimplestUptoCard : Claim7 := { stood := { row := rationalSimplestUptoRow, standIns := [], harness := (true, "c5338c91afb61c61561fd51c688368afa1e5f85a9bc484d31e2eed09adba5908"), looks := true }, kinds := [], alts := [], laidByText := true, laidKinds := [.data, .data, .data, .data, .sentinel, .sentinel, .pinned], laidTests := true, laidLooks := .later }
def RationalSimplestUptoCardSaid : Prop := Claim7.holds Tryz.pinned (.plain (OpenSpec.upto rationalSimplestSpec)) rationalSimplestUptoCard

/-- THE SECOND FORM's CARD OF 'dowellaw02.RationalField'. -/
def rationalFieldUptoCard : Claim7 := { stood := { row := rationalFieldUptoRow, standIns := [], harness := (true, "c5338c91afb61c61561fd51c688368afa1e5f85a9bc484d31e2eed09adba5908"), looks := true }, kinds := [], alts := [], laidByText := true, laidKinds := [.data, .data, .data, .data, .sentinel, .sentinel, .pinned], laidTests := true, laidLooks := .later }
def RationalFieldUptoCardSaid : Prop := Claim7.holds Tryz.pinned (.plain (OpenSpec.upto rationalFieldSpec)) rationalFieldUptoCard

/-- THE SECOND FORM's CARD OF 'dowellaw02.RationalLists'. -/
def rationalListsUptoCard : Claim7 := { stood := { row := rationalListsUptoRow, standIns := [], harness := (true, "c5338c91afb61c61561fd51c688368afa1e5f85a9bc484d31e2eed09adba5908"), looks := true }, kinds := [], alts := [], laidByText := true, laidKinds := [.data, .data, .data, .data, .sentinel, .sentinel, .pinned], laidTests := true, laidLooks := .later }
def RationalListsUptoCardSaid : Prop := Claim7.holds Tryz.pinned (.plain (OpenSpec.upto rationalListsSpec)) rationalListsUptoCard

/-- THE SECOND FORM's CARD OF 'dowellaw02.RationalOrder'. -/
def rationalOrderUptoCard : Claim7 := { stood := { row := rationalOrderUptoRow, standIns := [], harness := (true, "c5338c91afb61c61561fd51c688368afa1e5f85a9bc484d31e2eed09adba5908"), looks := true }, kinds := [], alts := [], laidByText := true, laidKinds := [.data, .data, .data, .data, .sentinel, .sentinel, .pinned], laidTests := true, laidLooks := .later }
def RationalOrderUptoCardSaid : Prop := Claim7.holds Tryz.pinned (.plain (OpenSpec.upto rationalOrderSpec)) rationalOrderUptoCard

/-- THE SECOND FORM's CARD OF 'dowellaw03.VectorParses'. -/
def vectorParsesUptoCard : Claim7 := { stood := { row := vectorParsesUptoRow, standIns := [], harness := (true, "c5338c91afb61c61561fd51c688368afa1e5f85a9bc484d31e2eed09adba5908"), looks := true }, kinds := [], alts := [], laidByText := true, laidKinds := [.data, .data, .data, .data, .sentinel, .sentinel, .pinned], laidTests := true, laidLooks := .later }
def VectorParsesUptoCardSaid : Prop := Claim7.holds Tryz.pinned (.plain (OpenSpec.upto vectorParsesSpec)) vectorParsesUptoCard

/-- THE SECOND FORM's CARD OF 'dowellaw03.VectorProducts'. -/
def vectorProductsUptoCard : Claim7 := { stood := { row := vectorProductsUptoRow, standIns := [], harness := (true, "c5338c91afb61c61561fd51c688368afa1e5f85a9bc484d31e2eed09adba5908"), looks := true }, kinds := [], alts := [], laidByText := true, laidKinds := [.data, .data, .data, .data, .sentinel, .sentinel, .pinned], laidTests := true, laidLooks := .later }
def VectorProductsUptoCardSaid : Prop := Claim7.holds Tryz.pinned (.plain (OpenSpec.upto vectorProductsSpec)) vectorProductsUptoCard

/-- THE SECOND FORM's CARD OF 'dowellaw03.VectorOrder'. -/
def vectorOrderUptoCard : Claim7 := { stood := { row := vectorOrderUptoRow, standIns := [], harness := (true, "c5338c91afb61c61561fd51c688368afa1e5f85a9bc484d31e2eed09adba5908"), looks := true }, kinds := [], alts := [], laidByText := true, laidKinds := [.data, .data, .data, .data, .sentinel, .sentinel, .pinned], laidTests := true, laidLooks := .later }
def VectorOrderUptoCardSaid : Prop := Claim7.holds Tryz.pinned (.plain (OpenSpec.upto vectorOrderSpec)) vectorOrderUptoCard

/-- THE SECOND FORM's CARD OF 'dowellaw03.VectorPrimitive'. -/
def vectorPrimitiveUptoCard : Claim7 := { stood := { row := vectorPrimitiveUptoRow, standIns := [], harness := (true, "c5338c91afb61c61561fd51c688368afa1e5f85a9bc484d31e2eed09adba5908"), looks := true }, kinds := [], alts := [], laidByText := true, laidKinds := [.data, .data, .data, .data, .sentinel, .sentinel, .pinned], laidTests := true, laidLooks := .later }
def VectorPrimitiveUptoCardSaid : Prop := Claim7.holds Tryz.pinned (.plain (OpenSpec.upto vectorPrimitiveSpec)) vectorPrimitiveUptoCard

/-- THE SECOND FORM's CARD OF 'dowellaw03.VectorLinear'. -/
def vectorLinearUptoCard : Claim7 := { stood := { row := vectorLinearUptoRow, standIns := [], harness := (true, "c5338c91afb61c61561fd51c688368afa1e5f85a9bc484d31e2eed09adba5908"), looks := true }, kinds := [], alts := [], laidByText := true, laidKinds := [.data, .data, .data, .data, .sentinel, .sentinel, .pinned], laidTests := true, laidLooks := .later }
def VectorLinearUptoCardSaid : Prop := Claim7.holds Tryz.pinned (.plain (OpenSpec.upto vectorLinearSpec)) vectorLinearUptoCard

/-- THE SECOND FORM's CARD OF 'dowellaw03.VectorPerpendicular'. -/
def vectorPerpendicularUptoCard : Claim7 := { stood := { row := vectorPerpendicularUptoRow, standIns := [], harness := (true, "c5338c91afb61c61561fd51c688368afa1e5f85a9bc484d31e2eed09adba5908"), looks := true }, kinds := [], alts := [], laidByText := true, laidKinds := [.data, .data, .data, .data, .sentinel, .sentinel, .pinned], laidTests := true, laidLooks := .later }
def VectorPerpendicularUptoCardSaid : Prop := Claim7.holds Tryz.pinned (.plain (OpenSpec.upto vectorPerpendicularSpec)) vectorPerpendicularUptoCard

/-- THE SECOND FORM's CARD OF 'dowellaw03.VectorOrients'. -/
def vectorOrientsUptoCard : Claim7 := { stood := { row := vectorOrientsUptoRow, standIns := [], harness := (true, "c5338c91afb61c61561fd51c688368afa1e5f85a9bc484d31e2eed09adba5908"), looks := true }, kinds := [], alts := [], laidByText := true, laidKinds := [.data, .data, .data, .data, .sentinel, .sentinel, .pinned], laidTests := true, laidLooks := .later }
def VectorOrientsUptoCardSaid : Prop := Claim7.holds Tryz.pinned (.plain (OpenSpec.upto vectorOrientsSpec)) vectorOrientsUptoCard
end Rows
end Go.Proofs.YtapckjeedekphaaGreatDoor
