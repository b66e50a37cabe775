/-
  DERIVED. GIVEN WITH THE SEED: THE CARDS: each row of YtkeonnnhogaggaaDoorRows.lean that lists a variable, with what it lists TIED to the program's text (the seventh form; the later family's looks); each row that meets fmt, with fmt's text TOLD by the authors' own Lean function (tested against real Go, not proved from fmt's source: count such statements apart). THE CARD IS WHAT COUNTS. Prove the row's statement (the work); the ties are given (YtkeonnnhogaggaaDoorTie.lean); close each card by the builder's one call (the guide's Derived/Test/ToyasCard.lean, 'card_holds'). Laid BY PROGRAM, IN A SANDBOX (cutbox-door.mjs). By AI agents, Wed Nov 11 2026. No macro, syntax, notation, axiom, sorry.
-/
import Derived.Test.YtkeonnnhogaggaaDoorRows
import GoSem.ClaimSeven
namespace Go.Proofs.YtkeonnnhogaggaaDoor
namespace Rows

/-- THE TIED CARD OF 'carrefourlaw19.TableOrder'. -/
def tableOrderCard : Claim7 := { stood := { row := tableOrderRow, standIns := [], harness := (true, "ca22b6d2d6315beae703b88ad012b619bcfd8a63d019614d52d64824285de831"), looks := false }, kinds := [], alts := [], laidByText := true, laidKinds := [.data], laidTests := true, laidLooks := .later }
def TableOrderCardSaid : Prop := Claim7.holds Tryd.pinned (.plain (OpenSpec.ofChange tableOrderSpec)) tableOrderCard

/-- THE TIED CARD OF 'carrefourlaw19.TableFull'. -/
def tableFullCard : Claim7 := { stood := { row := tableFullRow, standIns := [], harness := (true, "ca22b6d2d6315beae703b88ad012b619bcfd8a63d019614d52d64824285de831"), looks := false }, kinds := [], alts := [], laidByText := true, laidKinds := [.data], laidTests := true, laidLooks := .later }
def TableFullCardSaid : Prop := Claim7.holds Tryd.pinned (.plain (OpenSpec.ofChange tableFullSpec)) tableFullCard

/-- THE TIED CARD OF 'carrefourlaw19.TableTakes'. -/
def tableTakesCard : Claim7 := { stood := { row := tableTakesRow, standIns := [], harness := (true, "ca22b6d2d6315beae703b88ad012b619bcfd8a63d019614d52d64824285de831"), looks := false }, kinds := [], alts := [], laidByText := true, laidKinds := [.data], laidTests := true, laidLooks := .later }
def TableTakesCardSaid : Prop := Claim7.holds Tryd.pinned (.plain (OpenSpec.ofChange tableTakesSpec)) tableTakesCard

/-- THE SECOND FORM's CARD OF 'carrefourlaw19.TableOrder'. -/
def tableOrderUptoCard : Claim7 := { stood := { row := tableOrderUptoRow, standIns := [], harness := (true, "ca22b6d2d6315beae703b88ad012b619bcfd8a63d019614d52d64824285de831"), looks := false }, kinds := [], alts := [], laidByText := true, laidKinds := [.data], laidTests := true, laidLooks := .later }
def TableOrderUptoCardSaid : Prop := Claim7.holds Tryd.pinned (.plain (OpenSpec.upto tableOrderSpec)) tableOrderUptoCard

/-- THE SECOND FORM's CARD OF 'carrefourlaw19.TableFull'. -/
def tableFullUptoCard : Claim7 := { stood := { row := tableFullUptoRow, standIns := [], harness := (true, "ca22b6d2d6315beae703b88ad012b619bcfd8a63d019614d52d64824285de831"), looks := false }, kinds := [], alts := [], laidByText := true, laidKinds := [.data], laidTests := true, laidLooks := .later }
def TableFullUptoCardSaid : Prop := Claim7.holds Tryd.pinned (.plain (OpenSpec.upto tableFullSpec)) tableFullUptoCard

/-- THE SECOND FORM's CARD OF 'carrefourlaw19.TableTakes'. -/
def tableTakesUptoCard : Claim7 := { stood := { row := tableTakesUptoRow, standIns := [], harness := (true, "ca22b6d2d6315beae703b88ad012b619bcfd8a63d019614d52d64824285de831"), looks := false }, kinds := [], alts := [], laidByText := true, laidKinds := [.data], laidTests := true, laidLooks := .later }
def TableTakesUptoCardSaid : Prop := Claim7.holds Tryd.pinned (.plain (OpenSpec.upto tableTakesSpec)) tableTakesUptoCard
end Rows
end Go.Proofs.YtkeonnnhogaggaaDoor
