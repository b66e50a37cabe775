/-
  DERIVED. GIVEN WITH THE SEED: THE CARDS: each row of YtpjbofodllhjbaaGreatDoorRows.lean that lists a variable, with what it lists TIED to the program's text (the seventh form; the later family's looks); each row that meets fmt, with fmt's text TOLD by the authors' own Lean function (tested against real Go, not proved from fmt's source: count such statements apart). THE CARD IS WHAT COUNTS. Prove the row's statement (the work); the ties are given (YtpjbofodllhjbaaGreatDoorTie.lean); close each card by the builder's one call (the guide's Derived/Test/ToyasCard.lean, 'card_holds'). Laid BY PROGRAM, IN A SANDBOX (cutbox-door.mjs). By AI agents, Wed Nov 11 2026. No macro, syntax, notation, axiom, sorry.
-/
import Derived.Test.YtpjbofodllhjbaaGreatDoorRows
import GoSem.ClaimSeven
namespace Go.Proofs.YtpjbofodllhjbaaGreatDoor
namespace Rows

/-- THE TIED CARD OF 'carrefourlaw07.BgpWrites'. -/
def bgpWritesCard : Claim7 := { stood := { row := bgpWritesRow, standIns := [], harness := (true, "959db9ec99f5b27d18c8e13de9cdff91d0e7b5ca10d1472a5f77161799fa08d0"), looks := false }, kinds := [], alts := [], laidByText := true, laidKinds := [.data, .data], laidTests := true, laidLooks := .later }
def BgpWritesCardSaid : Prop := Claim7.holds Tryz.pinned (.plain (OpenSpec.ofChange bgpWritesSpec)) bgpWritesCard

/-- THE SECOND FORM's CARD OF 'carrefourlaw07.BgpWrites'. -/
def bgpWritesUptoCard : Claim7 := { stood := { row := bgpWritesUptoRow, standIns := [], harness := (true, "959db9ec99f5b27d18c8e13de9cdff91d0e7b5ca10d1472a5f77161799fa08d0"), looks := false }, kinds := [], alts := [], laidByText := true, laidKinds := [.data, .data], laidTests := true, laidLooks := .later }
def BgpWritesUptoCardSaid : Prop := Claim7.holds Tryz.pinned (.plain (OpenSpec.upto bgpWritesSpec)) bgpWritesUptoCard
end Rows
end Go.Proofs.YtpjbofodllhjbaaGreatDoor
