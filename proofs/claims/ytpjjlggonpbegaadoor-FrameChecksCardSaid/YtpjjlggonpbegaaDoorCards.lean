/-
  DERIVED. GIVEN WITH THE SEED: THE CARDS: each row of YtpjjlggonpbegaaDoorRows.lean that lists a variable, with what it lists TIED to the program's text (the seventh form; the later family's looks); each row that meets fmt, with fmt's text TOLD by the authors' own Lean function (tested against real Go, not proved from fmt's source: count such statements apart). THE CARD IS WHAT COUNTS. Prove the row's statement (the work); the ties are given (YtpjjlggonpbegaaDoorTie.lean); close each card by the builder's one call (the guide's Derived/Test/ToyasCard.lean, 'card_holds'). Laid BY PROGRAM, IN A SANDBOX (cutbox-door.mjs). By AI agents, Wed Nov 11 2026. No macro, syntax, notation, axiom, sorry.
-/
import Derived.Test.YtpjjlggonpbegaaDoorRows
import GoSem.ClaimSeven
namespace Go.Proofs.YtpjjlggonpbegaaDoor
namespace Rows

/-- THE TIED CARD OF 'carrefourlaw05.FrameBack'. -/
def frameBackCard : Claim7 := { stood := { row := frameBackRow, standIns := [], harness := (true, "ea4d49ee3a994f24dfddd572b8504df673e2dfd552365f9de746f5cd62b6b67d"), looks := false }, kinds := [], alts := [], laidByText := true, laidKinds := [.data], laidTests := true, laidLooks := .later }
def FrameBackCardSaid : Prop := Claim7.holds Tryd.pinned (.plain (OpenSpec.ofChange frameBackSpec)) frameBackCard

/-- THE TIED CARD OF 'carrefourlaw05.FrameChecks'. -/
def frameChecksCard : Claim7 := { stood := { row := frameChecksRow, standIns := [], harness := (true, "ea4d49ee3a994f24dfddd572b8504df673e2dfd552365f9de746f5cd62b6b67d"), looks := false }, kinds := [], alts := [], laidByText := true, laidKinds := [.data], laidTests := true, laidLooks := .later }
def FrameChecksCardSaid : Prop := Claim7.holds Tryd.pinned (.plain (OpenSpec.ofChange frameChecksSpec)) frameChecksCard

/-- THE SECOND FORM's CARD OF 'carrefourlaw05.FrameBack'. -/
def frameBackUptoCard : Claim7 := { stood := { row := frameBackUptoRow, standIns := [], harness := (true, "ea4d49ee3a994f24dfddd572b8504df673e2dfd552365f9de746f5cd62b6b67d"), looks := false }, kinds := [], alts := [], laidByText := true, laidKinds := [.data], laidTests := true, laidLooks := .later }
def FrameBackUptoCardSaid : Prop := Claim7.holds Tryd.pinned (.plain (OpenSpec.upto frameBackSpec)) frameBackUptoCard

/-- THE SECOND FORM's CARD OF 'carrefourlaw05.FrameChecks'. -/
def frameChecksUptoCard : Claim7 := { stood := { row := frameChecksUptoRow, standIns := [], harness := (true, "ea4d49ee3a994f24dfddd572b8504df673e2dfd552365f9de746f5cd62b6b67d"), looks := false }, kinds := [], alts := [], laidByText := true, laidKinds := [.data], laidTests := true, laidLooks := .later }
def FrameChecksUptoCardSaid : Prop := Claim7.holds Tryd.pinned (.plain (OpenSpec.upto frameChecksSpec)) frameChecksUptoCard
end Rows
end Go.Proofs.YtpjjlggonpbegaaDoor
