/-
  DERIVED. GIVEN WITH THE SEED: THE CARDS: each row of YtkeonnnhogaggaaGreatDoorRows.lean that lists a variable, with what it lists TIED to the program's text (the seventh form; the later family's looks); each row that meets fmt, with fmt's text TOLD by the authors' own Lean function (tested against real Go, not proved from fmt's source: count such statements apart). THE CARD IS WHAT COUNTS. Prove the row's statement (the work); the ties are given (YtkeonnnhogaggaaGreatDoorTie.lean); close each card by the builder's one call (the guide's Derived/Test/ToyasCard.lean, 'card_holds'). Laid BY PROGRAM, IN A SANDBOX (cutbox-door.mjs). By AI agents, Wed Nov 11 2026. No macro, syntax, notation, axiom, sorry.
-/
import Derived.Test.YtkeonnnhogaggaaGreatDoorRows
import GoSem.ClaimSeven
namespace Go.Proofs.YtkeonnnhogaggaaGreatDoor
namespace Rows

/-- THE TIED CARD OF 'carrefourlaw18.JoinWeighs'. -/
def joinWeighsCard : Claim7 := { stood := { row := joinWeighsRow, standIns := [], harness := (true, "53d7003cb6865951eae2eda08f73f0073266d6be182230a75a95ca569b064c47"), looks := false }, kinds := [], alts := [], laidByText := true, laidKinds := [.data], laidTests := true, laidLooks := .later }
def JoinWeighsCardSaid : Prop := Claim7.holds Tryz.pinned (.plain (OpenSpec.ofChange joinWeighsSpec)) joinWeighsCard

/-- THE TIED CARD OF 'carrefourlaw20.FabricFrames'. -/
def fabricFramesCard : Claim7 := { stood := { row := fabricFramesRow, standIns := [], harness := (true, "53d7003cb6865951eae2eda08f73f0073266d6be182230a75a95ca569b064c47"), looks := false }, kinds := [], alts := [], laidByText := true, laidKinds := [.data], laidTests := true, laidLooks := .later }
def FabricFramesCardSaid : Prop := Claim7.holds Tryz.pinned (.plain (OpenSpec.ofChange fabricFramesSpec)) fabricFramesCard

/-- THE TIED CARD OF 'carrefourlaw20.FabricSame'. -/
def fabricSameCard : Claim7 := { stood := { row := fabricSameRow, standIns := [], harness := (true, "53d7003cb6865951eae2eda08f73f0073266d6be182230a75a95ca569b064c47"), looks := false }, kinds := [], alts := [], laidByText := true, laidKinds := [.data], laidTests := true, laidLooks := .later }
def FabricSameCardSaid : Prop := Claim7.holds Tryz.pinned (.plain (OpenSpec.ofChange fabricSameSpec)) fabricSameCard

/-- THE TIED CARD OF 'carrefourlaw20.FabricDrops'. -/
def fabricDropsCard : Claim7 := { stood := { row := fabricDropsRow, standIns := [], harness := (true, "53d7003cb6865951eae2eda08f73f0073266d6be182230a75a95ca569b064c47"), looks := false }, kinds := [], alts := [], laidByText := true, laidKinds := [.data], laidTests := true, laidLooks := .later }
def FabricDropsCardSaid : Prop := Claim7.holds Tryz.pinned (.plain (OpenSpec.ofChange fabricDropsSpec)) fabricDropsCard

/-- THE TIED CARD OF 'carrefourlaw20.FabricPuts'. -/
def fabricPutsCard : Claim7 := { stood := { row := fabricPutsRow, standIns := [], harness := (true, "53d7003cb6865951eae2eda08f73f0073266d6be182230a75a95ca569b064c47"), looks := false }, kinds := [], alts := [], laidByText := true, laidKinds := [.data], laidTests := true, laidLooks := .later }
def FabricPutsCardSaid : Prop := Claim7.holds Tryz.pinned (.plain (OpenSpec.ofChange fabricPutsSpec)) fabricPutsCard

/-- THE TIED CARD OF 'carrefourlaw24.StageBest'. -/
def stageBestCard : Claim7 := { stood := { row := stageBestRow, standIns := [], harness := (true, "53d7003cb6865951eae2eda08f73f0073266d6be182230a75a95ca569b064c47"), looks := false }, kinds := [], alts := [], laidByText := true, laidKinds := [.data], laidTests := true, laidLooks := .later }
def StageBestCardSaid : Prop := Claim7.holds Tryz.pinned (.plain (OpenSpec.ofChange stageBestSpec)) stageBestCard

/-- THE TIED CARD OF 'carrefourlaw24.StageNone'. -/
def stageNoneCard : Claim7 := { stood := { row := stageNoneRow, standIns := [], harness := (true, "53d7003cb6865951eae2eda08f73f0073266d6be182230a75a95ca569b064c47"), looks := false }, kinds := [], alts := [], laidByText := true, laidKinds := [.data], laidTests := true, laidLooks := .later }
def StageNoneCardSaid : Prop := Claim7.holds Tryz.pinned (.plain (OpenSpec.ofChange stageNoneSpec)) stageNoneCard

/-- THE TIED CARD OF 'carrefourlaw24.StageChecks'. -/
def stageChecksCard : Claim7 := { stood := { row := stageChecksRow, standIns := [], harness := (true, "53d7003cb6865951eae2eda08f73f0073266d6be182230a75a95ca569b064c47"), looks := false }, kinds := [], alts := [], laidByText := true, laidKinds := [.data], laidTests := true, laidLooks := .later }
def StageChecksCardSaid : Prop := Claim7.holds Tryz.pinned (.plain (OpenSpec.ofChange stageChecksSpec)) stageChecksCard

/-- THE SECOND FORM's CARD OF 'carrefourlaw18.JoinWeighs'. -/
def joinWeighsUptoCard : Claim7 := { stood := { row := joinWeighsUptoRow, standIns := [], harness := (true, "53d7003cb6865951eae2eda08f73f0073266d6be182230a75a95ca569b064c47"), looks := false }, kinds := [], alts := [], laidByText := true, laidKinds := [.data], laidTests := true, laidLooks := .later }
def JoinWeighsUptoCardSaid : Prop := Claim7.holds Tryz.pinned (.plain (OpenSpec.upto joinWeighsSpec)) joinWeighsUptoCard

/-- THE SECOND FORM's CARD OF 'carrefourlaw20.FabricFrames'. -/
def fabricFramesUptoCard : Claim7 := { stood := { row := fabricFramesUptoRow, standIns := [], harness := (true, "53d7003cb6865951eae2eda08f73f0073266d6be182230a75a95ca569b064c47"), looks := false }, kinds := [], alts := [], laidByText := true, laidKinds := [.data], laidTests := true, laidLooks := .later }
def FabricFramesUptoCardSaid : Prop := Claim7.holds Tryz.pinned (.plain (OpenSpec.upto fabricFramesSpec)) fabricFramesUptoCard

/-- THE SECOND FORM's CARD OF 'carrefourlaw20.FabricSame'. -/
def fabricSameUptoCard : Claim7 := { stood := { row := fabricSameUptoRow, standIns := [], harness := (true, "53d7003cb6865951eae2eda08f73f0073266d6be182230a75a95ca569b064c47"), looks := false }, kinds := [], alts := [], laidByText := true, laidKinds := [.data], laidTests := true, laidLooks := .later }
def FabricSameUptoCardSaid : Prop := Claim7.holds Tryz.pinned (.plain (OpenSpec.upto fabricSameSpec)) fabricSameUptoCard

/-- THE SECOND FORM's CARD OF 'carrefourlaw20.FabricDrops'. -/
def fabricDropsUptoCard : Claim7 := { stood := { row := fabricDropsUptoRow, standIns := [], harness := (true, "53d7003cb6865951eae2eda08f73f0073266d6be182230a75a95ca569b064c47"), looks := false }, kinds := [], alts := [], laidByText := true, laidKinds := [.data], laidTests := true, laidLooks := .later }
def FabricDropsUptoCardSaid : Prop := Claim7.holds Tryz.pinned (.plain (OpenSpec.upto fabricDropsSpec)) fabricDropsUptoCard

/-- THE SECOND FORM's CARD OF 'carrefourlaw20.FabricPuts'. -/
def fabricPutsUptoCard : Claim7 := { stood := { row := fabricPutsUptoRow, standIns := [], harness := (true, "53d7003cb6865951eae2eda08f73f0073266d6be182230a75a95ca569b064c47"), looks := false }, kinds := [], alts := [], laidByText := true, laidKinds := [.data], laidTests := true, laidLooks := .later }
def FabricPutsUptoCardSaid : Prop := Claim7.holds Tryz.pinned (.plain (OpenSpec.upto fabricPutsSpec)) fabricPutsUptoCard

/-- THE SECOND FORM's CARD OF 'carrefourlaw24.StageBest'. -/
def stageBestUptoCard : Claim7 := { stood := { row := stageBestUptoRow, standIns := [], harness := (true, "53d7003cb6865951eae2eda08f73f0073266d6be182230a75a95ca569b064c47"), looks := false }, kinds := [], alts := [], laidByText := true, laidKinds := [.data], laidTests := true, laidLooks := .later }
def StageBestUptoCardSaid : Prop := Claim7.holds Tryz.pinned (.plain (OpenSpec.upto stageBestSpec)) stageBestUptoCard

/-- THE SECOND FORM's CARD OF 'carrefourlaw24.StageNone'. -/
def stageNoneUptoCard : Claim7 := { stood := { row := stageNoneUptoRow, standIns := [], harness := (true, "53d7003cb6865951eae2eda08f73f0073266d6be182230a75a95ca569b064c47"), looks := false }, kinds := [], alts := [], laidByText := true, laidKinds := [.data], laidTests := true, laidLooks := .later }
def StageNoneUptoCardSaid : Prop := Claim7.holds Tryz.pinned (.plain (OpenSpec.upto stageNoneSpec)) stageNoneUptoCard

/-- THE SECOND FORM's CARD OF 'carrefourlaw24.StageChecks'. -/
def stageChecksUptoCard : Claim7 := { stood := { row := stageChecksUptoRow, standIns := [], harness := (true, "53d7003cb6865951eae2eda08f73f0073266d6be182230a75a95ca569b064c47"), looks := false }, kinds := [], alts := [], laidByText := true, laidKinds := [.data], laidTests := true, laidLooks := .later }
def StageChecksUptoCardSaid : Prop := Claim7.holds Tryz.pinned (.plain (OpenSpec.upto stageChecksSpec)) stageChecksUptoCard
end Rows
end Go.Proofs.YtkeonnnhogaggaaGreatDoor
