/-
  DERIVED. GIVEN WITH THE SEED: THE CARDS: each row of YtpjbofodllhjbaaDoorRows.lean that lists a variable, with what it lists TIED to the program's text (the seventh form; the later family's looks); each row that meets fmt, with fmt's text TOLD by the authors' own Lean function (tested against real Go, not proved from fmt's source: count such statements apart). THE CARD IS WHAT COUNTS. Prove the row's statement (the work); the ties are given (YtpjbofodllhjbaaDoorTie.lean); close each card by the builder's one call (the guide's Derived/Test/ToyasCard.lean, 'card_holds'). Laid BY PROGRAM, IN A SANDBOX (cutbox-door.mjs). By AI agents, Wed Nov 11 2026. No macro, syntax, notation, axiom, sorry.
-/
import Derived.Test.YtpjbofodllhjbaaDoorRows
import GoSem.ClaimSeven
namespace Go.Proofs.YtpjbofodllhjbaaDoor
namespace Rows

/-- THE TIED CARD OF 'carrefourlaw07.BgpSizes'. -/
def bgpSizesCard : Claim7 := { stood := { row := bgpSizesRow, standIns := [], harness := (true, "4dfa2ef652070e19fcff7d78a6cb8c068a0bcbfa64fc9a9ba4e291f5ae942868"), looks := false }, kinds := [], alts := [], laidByText := true, laidKinds := [.data], laidTests := true, laidLooks := .later }
def BgpSizesCardSaid : Prop := Claim7.holds Tryd.pinned (.plain (OpenSpec.ofChange bgpSizesSpec)) bgpSizesCard

/-- THE TIED CARD OF 'carrefourlaw07.BgpReads'. -/
def bgpReadsCard : Claim7 := { stood := { row := bgpReadsRow, standIns := [], harness := (true, "4dfa2ef652070e19fcff7d78a6cb8c068a0bcbfa64fc9a9ba4e291f5ae942868"), looks := false }, kinds := [], alts := [], laidByText := true, laidKinds := [.data, .data], laidTests := true, laidLooks := .later }
def BgpReadsCardSaid : Prop := Claim7.holds Tryd.pinned (.plain (OpenSpec.ofChange bgpReadsSpec)) bgpReadsCard

/-- THE TIED CARD OF 'carrefourlaw07.BgpForm'. -/
def bgpFormCard : Claim7 := { stood := { row := bgpFormRow, standIns := [], harness := (true, "4dfa2ef652070e19fcff7d78a6cb8c068a0bcbfa64fc9a9ba4e291f5ae942868"), looks := false }, kinds := [], alts := [], laidByText := true, laidKinds := [.data, .data], laidTests := true, laidLooks := .later }
def BgpFormCardSaid : Prop := Claim7.holds Tryd.pinned (.plain (OpenSpec.ofChange bgpFormSpec)) bgpFormCard

/-- THE TIED CARD OF 'carrefourlaw07.BgpCuts'. -/
def bgpCutsCard : Claim7 := { stood := { row := bgpCutsRow, standIns := [], harness := (true, "4dfa2ef652070e19fcff7d78a6cb8c068a0bcbfa64fc9a9ba4e291f5ae942868"), looks := false }, kinds := [], alts := [], laidByText := true, laidKinds := [.data, .data], laidTests := true, laidLooks := .later }
def BgpCutsCardSaid : Prop := Claim7.holds Tryd.pinned (.plain (OpenSpec.ofChange bgpCutsSpec)) bgpCutsCard

/-- THE TIED CARD OF 'carrefourlaw07.BgpNets'. -/
def bgpNetsCard : Claim7 := { stood := { row := bgpNetsRow, standIns := [], harness := (true, "4dfa2ef652070e19fcff7d78a6cb8c068a0bcbfa64fc9a9ba4e291f5ae942868"), looks := false }, kinds := [], alts := [], laidByText := true, laidKinds := [.data, .data], laidTests := true, laidLooks := .later }
def BgpNetsCardSaid : Prop := Claim7.holds Tryd.pinned (.plain (OpenSpec.ofChange bgpNetsSpec)) bgpNetsCard

/-- THE TIED CARD OF 'carrefourlaw08.StreamFeeds'. -/
def streamFeedsCard : Claim7 := { stood := { row := streamFeedsRow, standIns := [], harness := (true, "4dfa2ef652070e19fcff7d78a6cb8c068a0bcbfa64fc9a9ba4e291f5ae942868"), looks := false }, kinds := [], alts := [], laidByText := true, laidKinds := [.data, .data], laidTests := true, laidLooks := .later }
def StreamFeedsCardSaid : Prop := Claim7.holds Tryd.pinned (.plain (OpenSpec.ofChange streamFeedsSpec)) streamFeedsCard

/-- THE TIED CARD OF 'carrefourlaw08.StreamWrites'. -/
def streamWritesCard : Claim7 := { stood := { row := streamWritesRow, standIns := [], harness := (true, "4dfa2ef652070e19fcff7d78a6cb8c068a0bcbfa64fc9a9ba4e291f5ae942868"), looks := false }, kinds := [], alts := [], laidByText := true, laidKinds := [.data, .data], laidTests := true, laidLooks := .later }
def StreamWritesCardSaid : Prop := Claim7.holds Tryd.pinned (.plain (OpenSpec.ofChange streamWritesSpec)) streamWritesCard

/-- THE TIED CARD OF 'carrefourlaw08.StreamStops'. -/
def streamStopsCard : Claim7 := { stood := { row := streamStopsRow, standIns := [], harness := (true, "4dfa2ef652070e19fcff7d78a6cb8c068a0bcbfa64fc9a9ba4e291f5ae942868"), looks := false }, kinds := [], alts := [], laidByText := true, laidKinds := [.data, .data], laidTests := true, laidLooks := .later }
def StreamStopsCardSaid : Prop := Claim7.holds Tryd.pinned (.plain (OpenSpec.ofChange streamStopsSpec)) streamStopsCard

/-- THE TIED CARD OF 'carrefourlaw08.StreamSends'. -/
def streamSendsCard : Claim7 := { stood := { row := streamSendsRow, standIns := [], harness := (true, "4dfa2ef652070e19fcff7d78a6cb8c068a0bcbfa64fc9a9ba4e291f5ae942868"), looks := false }, kinds := [], alts := [], laidByText := true, laidKinds := [.data, .data], laidTests := true, laidLooks := .later }
def StreamSendsCardSaid : Prop := Claim7.holds Tryd.pinned (.plain (OpenSpec.ofChange streamSendsSpec)) streamSendsCard

/-- THE TIED CARD OF 'carrefourlaw08.StreamQueues'. -/
def streamQueuesCard : Claim7 := { stood := { row := streamQueuesRow, standIns := [], harness := (true, "4dfa2ef652070e19fcff7d78a6cb8c068a0bcbfa64fc9a9ba4e291f5ae942868"), looks := false }, kinds := [], alts := [], laidByText := true, laidKinds := [.data, .data], laidTests := true, laidLooks := .later }
def StreamQueuesCardSaid : Prop := Claim7.holds Tryd.pinned (.plain (OpenSpec.ofChange streamQueuesSpec)) streamQueuesCard

/-- THE SECOND FORM's CARD OF 'carrefourlaw07.BgpSizes'. -/
def bgpSizesUptoCard : Claim7 := { stood := { row := bgpSizesUptoRow, standIns := [], harness := (true, "4dfa2ef652070e19fcff7d78a6cb8c068a0bcbfa64fc9a9ba4e291f5ae942868"), looks := false }, kinds := [], alts := [], laidByText := true, laidKinds := [.data], laidTests := true, laidLooks := .later }
def BgpSizesUptoCardSaid : Prop := Claim7.holds Tryd.pinned (.plain (OpenSpec.upto bgpSizesSpec)) bgpSizesUptoCard

/-- THE SECOND FORM's CARD OF 'carrefourlaw07.BgpReads'. -/
def bgpReadsUptoCard : Claim7 := { stood := { row := bgpReadsUptoRow, standIns := [], harness := (true, "4dfa2ef652070e19fcff7d78a6cb8c068a0bcbfa64fc9a9ba4e291f5ae942868"), looks := false }, kinds := [], alts := [], laidByText := true, laidKinds := [.data, .data], laidTests := true, laidLooks := .later }
def BgpReadsUptoCardSaid : Prop := Claim7.holds Tryd.pinned (.plain (OpenSpec.upto bgpReadsSpec)) bgpReadsUptoCard

/-- THE SECOND FORM's CARD OF 'carrefourlaw07.BgpForm'. -/
def bgpFormUptoCard : Claim7 := { stood := { row := bgpFormUptoRow, standIns := [], harness := (true, "4dfa2ef652070e19fcff7d78a6cb8c068a0bcbfa64fc9a9ba4e291f5ae942868"), looks := false }, kinds := [], alts := [], laidByText := true, laidKinds := [.data, .data], laidTests := true, laidLooks := .later }
def BgpFormUptoCardSaid : Prop := Claim7.holds Tryd.pinned (.plain (OpenSpec.upto bgpFormSpec)) bgpFormUptoCard

/-- THE SECOND FORM's CARD OF 'carrefourlaw07.BgpCuts'. -/
def bgpCutsUptoCard : Claim7 := { stood := { row := bgpCutsUptoRow, standIns := [], harness := (true, "4dfa2ef652070e19fcff7d78a6cb8c068a0bcbfa64fc9a9ba4e291f5ae942868"), looks := false }, kinds := [], alts := [], laidByText := true, laidKinds := [.data, .data], laidTests := true, laidLooks := .later }
def BgpCutsUptoCardSaid : Prop := Claim7.holds Tryd.pinned (.plain (OpenSpec.upto bgpCutsSpec)) bgpCutsUptoCard

/-- THE SECOND FORM's CARD OF 'carrefourlaw07.BgpNets'. -/
def bgpNetsUptoCard : Claim7 := { stood := { row := bgpNetsUptoRow, standIns := [], harness := (true, "4dfa2ef652070e19fcff7d78a6cb8c068a0bcbfa64fc9a9ba4e291f5ae942868"), looks := false }, kinds := [], alts := [], laidByText := true, laidKinds := [.data, .data], laidTests := true, laidLooks := .later }
def BgpNetsUptoCardSaid : Prop := Claim7.holds Tryd.pinned (.plain (OpenSpec.upto bgpNetsSpec)) bgpNetsUptoCard

/-- THE SECOND FORM's CARD OF 'carrefourlaw08.StreamFeeds'. -/
def streamFeedsUptoCard : Claim7 := { stood := { row := streamFeedsUptoRow, standIns := [], harness := (true, "4dfa2ef652070e19fcff7d78a6cb8c068a0bcbfa64fc9a9ba4e291f5ae942868"), looks := false }, kinds := [], alts := [], laidByText := true, laidKinds := [.data, .data], laidTests := true, laidLooks := .later }
def StreamFeedsUptoCardSaid : Prop := Claim7.holds Tryd.pinned (.plain (OpenSpec.upto streamFeedsSpec)) streamFeedsUptoCard

/-- THE SECOND FORM's CARD OF 'carrefourlaw08.StreamWrites'. -/
def streamWritesUptoCard : Claim7 := { stood := { row := streamWritesUptoRow, standIns := [], harness := (true, "4dfa2ef652070e19fcff7d78a6cb8c068a0bcbfa64fc9a9ba4e291f5ae942868"), looks := false }, kinds := [], alts := [], laidByText := true, laidKinds := [.data, .data], laidTests := true, laidLooks := .later }
def StreamWritesUptoCardSaid : Prop := Claim7.holds Tryd.pinned (.plain (OpenSpec.upto streamWritesSpec)) streamWritesUptoCard

/-- THE SECOND FORM's CARD OF 'carrefourlaw08.StreamStops'. -/
def streamStopsUptoCard : Claim7 := { stood := { row := streamStopsUptoRow, standIns := [], harness := (true, "4dfa2ef652070e19fcff7d78a6cb8c068a0bcbfa64fc9a9ba4e291f5ae942868"), looks := false }, kinds := [], alts := [], laidByText := true, laidKinds := [.data, .data], laidTests := true, laidLooks := .later }
def StreamStopsUptoCardSaid : Prop := Claim7.holds Tryd.pinned (.plain (OpenSpec.upto streamStopsSpec)) streamStopsUptoCard

/-- THE SECOND FORM's CARD OF 'carrefourlaw08.StreamSends'. -/
def streamSendsUptoCard : Claim7 := { stood := { row := streamSendsUptoRow, standIns := [], harness := (true, "4dfa2ef652070e19fcff7d78a6cb8c068a0bcbfa64fc9a9ba4e291f5ae942868"), looks := false }, kinds := [], alts := [], laidByText := true, laidKinds := [.data, .data], laidTests := true, laidLooks := .later }
def StreamSendsUptoCardSaid : Prop := Claim7.holds Tryd.pinned (.plain (OpenSpec.upto streamSendsSpec)) streamSendsUptoCard

/-- THE SECOND FORM's CARD OF 'carrefourlaw08.StreamQueues'. -/
def streamQueuesUptoCard : Claim7 := { stood := { row := streamQueuesUptoRow, standIns := [], harness := (true, "4dfa2ef652070e19fcff7d78a6cb8c068a0bcbfa64fc9a9ba4e291f5ae942868"), looks := false }, kinds := [], alts := [], laidByText := true, laidKinds := [.data, .data], laidTests := true, laidLooks := .later }
def StreamQueuesUptoCardSaid : Prop := Claim7.holds Tryd.pinned (.plain (OpenSpec.upto streamQueuesSpec)) streamQueuesUptoCard
end Rows
end Go.Proofs.YtpjbofodllhjbaaDoor
