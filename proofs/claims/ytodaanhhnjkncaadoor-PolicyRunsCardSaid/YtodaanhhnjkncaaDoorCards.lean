/-
  DERIVED. GIVEN WITH THE SEED: THE CARDS: each row of YtodaanhhnjkncaaDoorRows.lean that lists a variable, with what it lists TIED to the program's text (the seventh form; the later family's looks); each row that meets fmt, with fmt's text TOLD by the authors' own Lean function (tested against real Go, not proved from fmt's source: count such statements apart). THE CARD IS WHAT COUNTS. Prove the row's statement (the work); the ties are given (YtodaanhhnjkncaaDoorTie.lean); close each card by the builder's one call (the guide's Derived/Test/ToyasCard.lean, 'card_holds'). Laid BY PROGRAM, IN A SANDBOX (cutbox-door.mjs). By AI agents, Wed Nov 11 2026. No macro, syntax, notation, axiom, sorry.
-/
import Derived.Test.YtodaanhhnjkncaaDoorRows
import GoSem.ClaimSeven
namespace Go.Proofs.YtodaanhhnjkncaaDoor
namespace Rows

/-- THE TIED CARD OF 'carrefourlaw17.RulesActs'. -/
def rulesActsCard : Claim7 := { stood := { row := rulesActsRow, standIns := [], harness := (true, "7d0c43788d3c2105168158cfd8ebb939a2c5533f41d38973393f5b191573fd92"), looks := false }, kinds := [], alts := [], laidByText := true, laidKinds := [.data], laidTests := true, laidLooks := .later }
def RulesActsCardSaid : Prop := Claim7.holds Tryd.pinned (.plain (OpenSpec.ofChange rulesActsSpec)) rulesActsCard

/-- THE TIED CARD OF 'carrefourlaw16.PolicyRuns'. -/
def policyRunsCard : Claim7 := { stood := { row := policyRunsRow, standIns := [], harness := (true, "7d0c43788d3c2105168158cfd8ebb939a2c5533f41d38973393f5b191573fd92"), looks := false }, kinds := [], alts := [], laidByText := true, laidKinds := [.data], laidTests := true, laidLooks := .later }
def PolicyRunsCardSaid : Prop := Claim7.holds Tryd.pinned (.plain (OpenSpec.ofChange policyRunsSpec)) policyRunsCard

/-- THE TIED CARD OF 'carrefourlaw16.PolicyLaws'. -/
def policyLawsCard : Claim7 := { stood := { row := policyLawsRow, standIns := [], harness := (true, "7d0c43788d3c2105168158cfd8ebb939a2c5533f41d38973393f5b191573fd92"), looks := false }, kinds := [], alts := [], laidByText := true, laidKinds := [.data], laidTests := true, laidLooks := .later }
def PolicyLawsCardSaid : Prop := Claim7.holds Tryd.pinned (.plain (OpenSpec.ofChange policyLawsSpec)) policyLawsCard

/-- THE TIED CARD OF 'carrefourlaw16.PolicySets'. -/
def policySetsCard : Claim7 := { stood := { row := policySetsRow, standIns := [], harness := (true, "7d0c43788d3c2105168158cfd8ebb939a2c5533f41d38973393f5b191573fd92"), looks := false }, kinds := [], alts := [], laidByText := true, laidKinds := [.data], laidTests := true, laidLooks := .later }
def PolicySetsCardSaid : Prop := Claim7.holds Tryd.pinned (.plain (OpenSpec.ofChange policySetsSpec)) policySetsCard

/-- THE TIED CARD OF 'carrefourlaw16.PolicyChecks'. -/
def policyChecksCard : Claim7 := { stood := { row := policyChecksRow, standIns := [], harness := (true, "7d0c43788d3c2105168158cfd8ebb939a2c5533f41d38973393f5b191573fd92"), looks := false }, kinds := [], alts := [], laidByText := true, laidKinds := [.data], laidTests := true, laidLooks := .later }
def PolicyChecksCardSaid : Prop := Claim7.holds Tryd.pinned (.plain (OpenSpec.ofChange policyChecksSpec)) policyChecksCard

/-- THE TIED CARD OF 'carrefourlaw16.PolicyFilters'. -/
def policyFiltersCard : Claim7 := { stood := { row := policyFiltersRow, standIns := [], harness := (true, "7d0c43788d3c2105168158cfd8ebb939a2c5533f41d38973393f5b191573fd92"), looks := false }, kinds := [], alts := [], laidByText := true, laidKinds := [.data], laidTests := true, laidLooks := .later }
def PolicyFiltersCardSaid : Prop := Claim7.holds Tryd.pinned (.plain (OpenSpec.ofChange policyFiltersSpec)) policyFiltersCard

/-- THE TIED CARD OF 'carrefourlaw19.TableOrder'. -/
def tableOrderCard : Claim7 := { stood := { row := tableOrderRow, standIns := [], harness := (true, "7d0c43788d3c2105168158cfd8ebb939a2c5533f41d38973393f5b191573fd92"), looks := false }, kinds := [], alts := [], laidByText := true, laidKinds := [.data], laidTests := true, laidLooks := .later }
def TableOrderCardSaid : Prop := Claim7.holds Tryd.pinned (.plain (OpenSpec.ofChange tableOrderSpec)) tableOrderCard

/-- THE TIED CARD OF 'carrefourlaw19.TableFull'. -/
def tableFullCard : Claim7 := { stood := { row := tableFullRow, standIns := [], harness := (true, "7d0c43788d3c2105168158cfd8ebb939a2c5533f41d38973393f5b191573fd92"), looks := false }, kinds := [], alts := [], laidByText := true, laidKinds := [.data], laidTests := true, laidLooks := .later }
def TableFullCardSaid : Prop := Claim7.holds Tryd.pinned (.plain (OpenSpec.ofChange tableFullSpec)) tableFullCard

/-- THE TIED CARD OF 'carrefourlaw19.TableTakes'. -/
def tableTakesCard : Claim7 := { stood := { row := tableTakesRow, standIns := [], harness := (true, "7d0c43788d3c2105168158cfd8ebb939a2c5533f41d38973393f5b191573fd92"), looks := false }, kinds := [], alts := [], laidByText := true, laidKinds := [.data], laidTests := true, laidLooks := .later }
def TableTakesCardSaid : Prop := Claim7.holds Tryd.pinned (.plain (OpenSpec.ofChange tableTakesSpec)) tableTakesCard

/-- THE SECOND FORM's CARD OF 'carrefourlaw17.RulesActs'. -/
def rulesActsUptoCard : Claim7 := { stood := { row := rulesActsUptoRow, standIns := [], harness := (true, "7d0c43788d3c2105168158cfd8ebb939a2c5533f41d38973393f5b191573fd92"), looks := false }, kinds := [], alts := [], laidByText := true, laidKinds := [.data], laidTests := true, laidLooks := .later }
def RulesActsUptoCardSaid : Prop := Claim7.holds Tryd.pinned (.plain (OpenSpec.upto rulesActsSpec)) rulesActsUptoCard

/-- THE SECOND FORM's CARD OF 'carrefourlaw16.PolicyRuns'. -/
def policyRunsUptoCard : Claim7 := { stood := { row := policyRunsUptoRow, standIns := [], harness := (true, "7d0c43788d3c2105168158cfd8ebb939a2c5533f41d38973393f5b191573fd92"), looks := false }, kinds := [], alts := [], laidByText := true, laidKinds := [.data], laidTests := true, laidLooks := .later }
def PolicyRunsUptoCardSaid : Prop := Claim7.holds Tryd.pinned (.plain (OpenSpec.upto policyRunsSpec)) policyRunsUptoCard

/-- THE SECOND FORM's CARD OF 'carrefourlaw16.PolicyLaws'. -/
def policyLawsUptoCard : Claim7 := { stood := { row := policyLawsUptoRow, standIns := [], harness := (true, "7d0c43788d3c2105168158cfd8ebb939a2c5533f41d38973393f5b191573fd92"), looks := false }, kinds := [], alts := [], laidByText := true, laidKinds := [.data], laidTests := true, laidLooks := .later }
def PolicyLawsUptoCardSaid : Prop := Claim7.holds Tryd.pinned (.plain (OpenSpec.upto policyLawsSpec)) policyLawsUptoCard

/-- THE SECOND FORM's CARD OF 'carrefourlaw16.PolicySets'. -/
def policySetsUptoCard : Claim7 := { stood := { row := policySetsUptoRow, standIns := [], harness := (true, "7d0c43788d3c2105168158cfd8ebb939a2c5533f41d38973393f5b191573fd92"), looks := false }, kinds := [], alts := [], laidByText := true, laidKinds := [.data], laidTests := true, laidLooks := .later }
def PolicySetsUptoCardSaid : Prop := Claim7.holds Tryd.pinned (.plain (OpenSpec.upto policySetsSpec)) policySetsUptoCard

/-- THE SECOND FORM's CARD OF 'carrefourlaw16.PolicyChecks'. -/
def policyChecksUptoCard : Claim7 := { stood := { row := policyChecksUptoRow, standIns := [], harness := (true, "7d0c43788d3c2105168158cfd8ebb939a2c5533f41d38973393f5b191573fd92"), looks := false }, kinds := [], alts := [], laidByText := true, laidKinds := [.data], laidTests := true, laidLooks := .later }
def PolicyChecksUptoCardSaid : Prop := Claim7.holds Tryd.pinned (.plain (OpenSpec.upto policyChecksSpec)) policyChecksUptoCard

/-- THE SECOND FORM's CARD OF 'carrefourlaw16.PolicyFilters'. -/
def policyFiltersUptoCard : Claim7 := { stood := { row := policyFiltersUptoRow, standIns := [], harness := (true, "7d0c43788d3c2105168158cfd8ebb939a2c5533f41d38973393f5b191573fd92"), looks := false }, kinds := [], alts := [], laidByText := true, laidKinds := [.data], laidTests := true, laidLooks := .later }
def PolicyFiltersUptoCardSaid : Prop := Claim7.holds Tryd.pinned (.plain (OpenSpec.upto policyFiltersSpec)) policyFiltersUptoCard

/-- THE SECOND FORM's CARD OF 'carrefourlaw19.TableOrder'. -/
def tableOrderUptoCard : Claim7 := { stood := { row := tableOrderUptoRow, standIns := [], harness := (true, "7d0c43788d3c2105168158cfd8ebb939a2c5533f41d38973393f5b191573fd92"), looks := false }, kinds := [], alts := [], laidByText := true, laidKinds := [.data], laidTests := true, laidLooks := .later }
def TableOrderUptoCardSaid : Prop := Claim7.holds Tryd.pinned (.plain (OpenSpec.upto tableOrderSpec)) tableOrderUptoCard

/-- THE SECOND FORM's CARD OF 'carrefourlaw19.TableFull'. -/
def tableFullUptoCard : Claim7 := { stood := { row := tableFullUptoRow, standIns := [], harness := (true, "7d0c43788d3c2105168158cfd8ebb939a2c5533f41d38973393f5b191573fd92"), looks := false }, kinds := [], alts := [], laidByText := true, laidKinds := [.data], laidTests := true, laidLooks := .later }
def TableFullUptoCardSaid : Prop := Claim7.holds Tryd.pinned (.plain (OpenSpec.upto tableFullSpec)) tableFullUptoCard

/-- THE SECOND FORM's CARD OF 'carrefourlaw19.TableTakes'. -/
def tableTakesUptoCard : Claim7 := { stood := { row := tableTakesUptoRow, standIns := [], harness := (true, "7d0c43788d3c2105168158cfd8ebb939a2c5533f41d38973393f5b191573fd92"), looks := false }, kinds := [], alts := [], laidByText := true, laidKinds := [.data], laidTests := true, laidLooks := .later }
def TableTakesUptoCardSaid : Prop := Claim7.holds Tryd.pinned (.plain (OpenSpec.upto tableTakesSpec)) tableTakesUptoCard
end Rows
end Go.Proofs.YtodaanhhnjkncaaDoor
