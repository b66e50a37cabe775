/-
  DERIVED. GIVEN WITH THE SEED: THE CARDS: each row of YtmhahajadgkolaaGreatDoorRows.lean that lists a variable, with what it lists TIED to the program's text (the seventh form; the later family's looks); each row that meets fmt, with fmt's text TOLD by the authors' own Lean function (tested against real Go, not proved from fmt's source: count such statements apart). THE CARD IS WHAT COUNTS. Prove the row's statement (the work); the ties are given (YtmhahajadgkolaaGreatDoorTie.lean); close each card by the builder's one call (the guide's Derived/Test/ToyasCard.lean, 'card_holds'). Laid BY PROGRAM, IN A SANDBOX (cutbox-door.mjs). By AI agents, Wed Nov 11 2026. No macro, syntax, notation, axiom, sorry.
-/
import Derived.Test.YtmhahajadgkolaaGreatDoorRows
import GoSem.ClaimSeven
namespace Go.Proofs.YtmhahajadgkolaaGreatDoor
namespace Rows

/-- THE TIED CARD OF 'carrefourlaw25.SdxWants'. -/
def sdxWantsCard : Claim7 := { stood := { row := sdxWantsRow, standIns := [], harness := (true, "fb0bae563dbdc7dd5e6454061b75ff2ab82d40a988483fe03cf9c8e185d1b877"), looks := false }, kinds := [], alts := [], laidByText := true, laidKinds := [.data], laidTests := true, laidLooks := .later }
def SdxWantsCardSaid : Prop := Claim7.holds Tryz.pinned (.plain (OpenSpec.ofChange sdxWantsSpec)) sdxWantsCard

/-- THE TIED CARD OF 'carrefourlaw25.SdxTells'. -/
def sdxTellsCard : Claim7 := { stood := { row := sdxTellsRow, standIns := [], harness := (true, "fb0bae563dbdc7dd5e6454061b75ff2ab82d40a988483fe03cf9c8e185d1b877"), looks := false }, kinds := [], alts := [], laidByText := true, laidKinds := [.data], laidTests := true, laidLooks := .later }
def SdxTellsCardSaid : Prop := Claim7.holds Tryz.pinned (.plain (OpenSpec.ofChange sdxTellsSpec)) sdxTellsCard

/-- THE TIED CARD OF 'carrefourlaw25.SdxForms'. -/
def sdxFormsCard : Claim7 := { stood := { row := sdxFormsRow, standIns := [], harness := (true, "fb0bae563dbdc7dd5e6454061b75ff2ab82d40a988483fe03cf9c8e185d1b877"), looks := false }, kinds := [], alts := [], laidByText := true, laidKinds := [.data], laidTests := true, laidLooks := .later }
def SdxFormsCardSaid : Prop := Claim7.holds Tryz.pinned (.plain (OpenSpec.ofChange sdxFormsSpec)) sdxFormsCard

/-- THE TIED CARD OF 'carrefourlaw25.SdxFrames'. -/
def sdxFramesCard : Claim7 := { stood := { row := sdxFramesRow, standIns := [], harness := (true, "fb0bae563dbdc7dd5e6454061b75ff2ab82d40a988483fe03cf9c8e185d1b877"), looks := false }, kinds := [], alts := [], laidByText := true, laidKinds := [.data], laidTests := true, laidLooks := .later }
def SdxFramesCardSaid : Prop := Claim7.holds Tryz.pinned (.plain (OpenSpec.ofChange sdxFramesSpec)) sdxFramesCard

/-- THE SECOND FORM's CARD OF 'carrefourlaw25.SdxWants'. -/
def sdxWantsUptoCard : Claim7 := { stood := { row := sdxWantsUptoRow, standIns := [], harness := (true, "fb0bae563dbdc7dd5e6454061b75ff2ab82d40a988483fe03cf9c8e185d1b877"), looks := false }, kinds := [], alts := [], laidByText := true, laidKinds := [.data], laidTests := true, laidLooks := .later }
def SdxWantsUptoCardSaid : Prop := Claim7.holds Tryz.pinned (.plain (OpenSpec.upto sdxWantsSpec)) sdxWantsUptoCard

/-- THE SECOND FORM's CARD OF 'carrefourlaw25.SdxTells'. -/
def sdxTellsUptoCard : Claim7 := { stood := { row := sdxTellsUptoRow, standIns := [], harness := (true, "fb0bae563dbdc7dd5e6454061b75ff2ab82d40a988483fe03cf9c8e185d1b877"), looks := false }, kinds := [], alts := [], laidByText := true, laidKinds := [.data], laidTests := true, laidLooks := .later }
def SdxTellsUptoCardSaid : Prop := Claim7.holds Tryz.pinned (.plain (OpenSpec.upto sdxTellsSpec)) sdxTellsUptoCard

/-- THE SECOND FORM's CARD OF 'carrefourlaw25.SdxForms'. -/
def sdxFormsUptoCard : Claim7 := { stood := { row := sdxFormsUptoRow, standIns := [], harness := (true, "fb0bae563dbdc7dd5e6454061b75ff2ab82d40a988483fe03cf9c8e185d1b877"), looks := false }, kinds := [], alts := [], laidByText := true, laidKinds := [.data], laidTests := true, laidLooks := .later }
def SdxFormsUptoCardSaid : Prop := Claim7.holds Tryz.pinned (.plain (OpenSpec.upto sdxFormsSpec)) sdxFormsUptoCard

/-- THE SECOND FORM's CARD OF 'carrefourlaw25.SdxFrames'. -/
def sdxFramesUptoCard : Claim7 := { stood := { row := sdxFramesUptoRow, standIns := [], harness := (true, "fb0bae563dbdc7dd5e6454061b75ff2ab82d40a988483fe03cf9c8e185d1b877"), looks := false }, kinds := [], alts := [], laidByText := true, laidKinds := [.data], laidTests := true, laidLooks := .later }
def SdxFramesUptoCardSaid : Prop := Claim7.holds Tryz.pinned (.plain (OpenSpec.upto sdxFramesSpec)) sdxFramesUptoCard
end Rows
end Go.Proofs.YtmhahajadgkolaaGreatDoor
