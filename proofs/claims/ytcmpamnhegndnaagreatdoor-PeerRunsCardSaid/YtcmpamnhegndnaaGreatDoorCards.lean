/-
  DERIVED. GIVEN WITH THE SEED: THE CARDS: each row of YtcmpamnhegndnaaGreatDoorRows.lean that lists a variable, with what it lists TIED to the program's text (the seventh form; the later family's looks); each row that meets fmt, with fmt's text TOLD by the authors' own Lean function (tested against real Go, not proved from fmt's source: count such statements apart). THE CARD IS WHAT COUNTS. Prove the row's statement (the work); the ties are given (YtcmpamnhegndnaaGreatDoorTie.lean); close each card by the builder's one call (the guide's Derived/Test/ToyasCard.lean, 'card_holds'). Laid BY PROGRAM, IN A SANDBOX (cutbox-door.mjs). By AI agents, Wed Nov 11 2026. No macro, syntax, notation, axiom, sorry.
-/
import Derived.Test.YtcmpamnhegndnaaGreatDoorRows
import GoSem.ClaimSeven
namespace Go.Proofs.YtcmpamnhegndnaaGreatDoor
namespace Rows

/-- THE TIED CARD OF 'carrefourlaw10.PeerRefuses'. -/
def peerRefusesCard : Claim7 := { stood := { row := peerRefusesRow, standIns := [], harness := (true, "91d4db816b8b3e315c611a8cbae170fd5ba9ef10ff880f9f2a2bc59cae835e5d"), looks := true }, kinds := [], alts := [], laidByText := true, laidKinds := [.data, .data], laidTests := true, laidLooks := .later }
def PeerRefusesCardSaid : Prop := Claim7.holds Tryz.pinned (.plain (OpenSpec.ofChange peerRefusesSpec)) peerRefusesCard

/-- THE TIED CARD OF 'carrefourlaw10.PeerMeets'. -/
def peerMeetsCard : Claim7 := { stood := { row := peerMeetsRow, standIns := [], harness := (true, "91d4db816b8b3e315c611a8cbae170fd5ba9ef10ff880f9f2a2bc59cae835e5d"), looks := true }, kinds := [], alts := [], laidByText := true, laidKinds := [.data, .data], laidTests := true, laidLooks := .later }
def PeerMeetsCardSaid : Prop := Claim7.holds Tryz.pinned (.plain (OpenSpec.ofChange peerMeetsSpec)) peerMeetsCard

/-- THE TIED CARD OF 'carrefourlaw10.PeerHolds'. -/
def peerHoldsCard : Claim7 := { stood := { row := peerHoldsRow, standIns := [], harness := (true, "91d4db816b8b3e315c611a8cbae170fd5ba9ef10ff880f9f2a2bc59cae835e5d"), looks := true }, kinds := [], alts := [], laidByText := true, laidKinds := [.data, .data], laidTests := true, laidLooks := .later }
def PeerHoldsCardSaid : Prop := Claim7.holds Tryz.pinned (.plain (OpenSpec.ofChange peerHoldsSpec)) peerHoldsCard

/-- THE TIED CARD OF 'carrefourlaw10.PeerRetries'. -/
def peerRetriesCard : Claim7 := { stood := { row := peerRetriesRow, standIns := [], harness := (true, "91d4db816b8b3e315c611a8cbae170fd5ba9ef10ff880f9f2a2bc59cae835e5d"), looks := true }, kinds := [], alts := [], laidByText := true, laidKinds := [.data, .data], laidTests := true, laidLooks := .later }
def PeerRetriesCardSaid : Prop := Claim7.holds Tryz.pinned (.plain (OpenSpec.ofChange peerRetriesSpec)) peerRetriesCard

/-- THE TIED CARD OF 'carrefourlaw10.PeerTurns'. -/
def peerTurnsCard : Claim7 := { stood := { row := peerTurnsRow, standIns := [], harness := (true, "91d4db816b8b3e315c611a8cbae170fd5ba9ef10ff880f9f2a2bc59cae835e5d"), looks := true }, kinds := [], alts := [], laidByText := true, laidKinds := [.data, .data], laidTests := true, laidLooks := .later }
def PeerTurnsCardSaid : Prop := Claim7.holds Tryz.pinned (.plain (OpenSpec.ofChange peerTurnsSpec)) peerTurnsCard

/-- THE TIED CARD OF 'carrefourlaw10.PeerRuns'. -/
def peerRunsCard : Claim7 := { stood := { row := peerRunsRow, standIns := [], harness := (true, "91d4db816b8b3e315c611a8cbae170fd5ba9ef10ff880f9f2a2bc59cae835e5d"), looks := true }, kinds := [], alts := [], laidByText := true, laidKinds := [.data, .data], laidTests := true, laidLooks := .later }
def PeerRunsCardSaid : Prop := Claim7.holds Tryz.pinned (.plain (OpenSpec.ofChange peerRunsSpec)) peerRunsCard

/-- THE SECOND FORM's CARD OF 'carrefourlaw10.PeerRefuses'. -/
def peerRefusesUptoCard : Claim7 := { stood := { row := peerRefusesUptoRow, standIns := [], harness := (true, "91d4db816b8b3e315c611a8cbae170fd5ba9ef10ff880f9f2a2bc59cae835e5d"), looks := true }, kinds := [], alts := [], laidByText := true, laidKinds := [.data, .data], laidTests := true, laidLooks := .later }
def PeerRefusesUptoCardSaid : Prop := Claim7.holds Tryz.pinned (.plain (OpenSpec.upto peerRefusesSpec)) peerRefusesUptoCard

/-- THE SECOND FORM's CARD OF 'carrefourlaw10.PeerMeets'. -/
def peerMeetsUptoCard : Claim7 := { stood := { row := peerMeetsUptoRow, standIns := [], harness := (true, "91d4db816b8b3e315c611a8cbae170fd5ba9ef10ff880f9f2a2bc59cae835e5d"), looks := true }, kinds := [], alts := [], laidByText := true, laidKinds := [.data, .data], laidTests := true, laidLooks := .later }
def PeerMeetsUptoCardSaid : Prop := Claim7.holds Tryz.pinned (.plain (OpenSpec.upto peerMeetsSpec)) peerMeetsUptoCard

/-- THE SECOND FORM's CARD OF 'carrefourlaw10.PeerHolds'. -/
def peerHoldsUptoCard : Claim7 := { stood := { row := peerHoldsUptoRow, standIns := [], harness := (true, "91d4db816b8b3e315c611a8cbae170fd5ba9ef10ff880f9f2a2bc59cae835e5d"), looks := true }, kinds := [], alts := [], laidByText := true, laidKinds := [.data, .data], laidTests := true, laidLooks := .later }
def PeerHoldsUptoCardSaid : Prop := Claim7.holds Tryz.pinned (.plain (OpenSpec.upto peerHoldsSpec)) peerHoldsUptoCard

/-- THE SECOND FORM's CARD OF 'carrefourlaw10.PeerRetries'. -/
def peerRetriesUptoCard : Claim7 := { stood := { row := peerRetriesUptoRow, standIns := [], harness := (true, "91d4db816b8b3e315c611a8cbae170fd5ba9ef10ff880f9f2a2bc59cae835e5d"), looks := true }, kinds := [], alts := [], laidByText := true, laidKinds := [.data, .data], laidTests := true, laidLooks := .later }
def PeerRetriesUptoCardSaid : Prop := Claim7.holds Tryz.pinned (.plain (OpenSpec.upto peerRetriesSpec)) peerRetriesUptoCard

/-- THE SECOND FORM's CARD OF 'carrefourlaw10.PeerTurns'. -/
def peerTurnsUptoCard : Claim7 := { stood := { row := peerTurnsUptoRow, standIns := [], harness := (true, "91d4db816b8b3e315c611a8cbae170fd5ba9ef10ff880f9f2a2bc59cae835e5d"), looks := true }, kinds := [], alts := [], laidByText := true, laidKinds := [.data, .data], laidTests := true, laidLooks := .later }
def PeerTurnsUptoCardSaid : Prop := Claim7.holds Tryz.pinned (.plain (OpenSpec.upto peerTurnsSpec)) peerTurnsUptoCard

/-- THE SECOND FORM's CARD OF 'carrefourlaw10.PeerRuns'. -/
def peerRunsUptoCard : Claim7 := { stood := { row := peerRunsUptoRow, standIns := [], harness := (true, "91d4db816b8b3e315c611a8cbae170fd5ba9ef10ff880f9f2a2bc59cae835e5d"), looks := true }, kinds := [], alts := [], laidByText := true, laidKinds := [.data, .data], laidTests := true, laidLooks := .later }
def PeerRunsUptoCardSaid : Prop := Claim7.holds Tryz.pinned (.plain (OpenSpec.upto peerRunsSpec)) peerRunsUptoCard
end Rows
end Go.Proofs.YtcmpamnhegndnaaGreatDoor
