/-
  NARROWER THAN 'FOR EVERY INPUT', by the rows' own cells (each row's printed sentence says how): BgpSizes: laid · BgpReads: laid · BgpForm: laid · BgpCuts: laid · BgpNets: laid · StreamFeeds: laid · StreamWrites: laid · StreamStops: laid · StreamSends: laid · StreamQueues: laid.
  DERIVED. THE GIVEN ROWS OF THIS SEAT. 10 by the template 'for every input the law returns true; each argument reads behind the call as it read before'; 0 by the template 'total and deterministic' (their statements: YtpjbofodllhjbaaDoorTotals.lean).
  GIVEN WITH THE SEED: the statements are not yours to turn. If you find one false, say at which input.
  Laid BY PROGRAM, IN A SANDBOX (cutbox-rows.mjs): the forced cells as the released guide's own fill.sh prints them over the translation f7169bdceb42c136… (all of the seat's roots in one cut). By AI agents, Wed Nov 11 2026. No macro, syntax, notation, axiom, sorry.
-/
import Derived.Test.YtpjbofodllhjbaaDoorChecked
import GoSem.Claim
import GoSem.ClaimJoined
import GoSem.ClaimMapViews
import Derived.JoinedTies
import Derived.KernelRfl
namespace Go.Proofs.YtpjbofodllhjbaaDoor
/- THE CELL 'sum', in the pinned program and in every row, IS THE sha256 OF THE DUMP (.gsa) THAT YtpjbofodllhjbaaDoorProg.lean LOADS. Nothing in Lean hashes anything: it is a label: what it is worth is what the hold of that sum in a sandbox is worth. -/
noncomputable def Tryd.pinned : Pinned := { name := "ytpjbofodllhjbaadoor", sum := "f7169bdceb42c136bae142dc6c7fa0006338d68606a8792f0ea68731741f2f80", checked := Tryd.checked }
namespace Rows
def none {H : Type} : Left H := { results := [], args := [] }

/- WHAT THE LISTED PACKAGE-LEVEL VARIABLES READ AS WHEN THE CALL BEGINS. Each datum BY PROGRAM (the guide's laid-datum.mjs) off the statement by which the dump's own 'gosem.cut.vars' lays the variable. In a bare row this is a premise. The card (YtpjbofodllhjbaaDoorCards.lean) ties it to the program's text. -/
def laid_carrefour_attr_flags {H : Type} : DataW H := .agg [.lit (.int .i64 0), .lit (.int .i64 64), .lit (.int .i64 64), .lit (.int .i64 64), .lit (.int .i64 128), .lit (.int .i64 64), .lit (.int .i64 64), .lit (.int .i64 192), .lit (.int .i64 192)]
def laid_carrefour_attr_sizes {H : Type} : DataW H := .agg [.lit (.int .i64 0), .lit (.int .i64 1), .lit (.int .i64 (-1)), .lit (.int .i64 4), .lit (.int .i64 4), .lit (.int .i64 4), .lit (.int .i64 0), .lit (.int .i64 6), .lit (.int .i64 (-1))]

/-- 'carrefourlaw07.BgpSizes': WHATEVER THE INPUT: true; the input reads as it did. -/
def bgpSizesSpec : ChangeSpec := { name := "bgpSizes", fn := fun _ => fun
  | [d] => { results := [.lit (.bool true)], args := [d] }
  | _ => none }
def bgpSizesRow : OpenClaim := { program := "ytpjbofodllhjbaadoor", sum := "f7169bdceb42c136bae142dc6c7fa0006338d68606a8792f0ea68731741f2f80", func := "carrefour/carrefourlaw07.BgpSizes", spec := "bgpSizes", inPlace := ["internal/bytealg.MakeNoZero"], named := ["carrefour/attr.flags"], apart := false, laid := [("carrefour/attr.flags", laid_carrefour_attr_flags)] }
def BgpSizesSaid : Prop := bgpSizesRow.holds Tryd.pinned (OpenSpec.ofChange bgpSizesSpec)

/-- ITS FALSE NEIGHBOUR: 'it returns false'. Refute it at one input. -/
def bgpSizesWrong : ChangeSpec := { name := "bgpSizes", fn := fun _ => fun
  | [d] => { results := [.lit (.bool false)], args := [d] }
  | _ => none }
def BgpSizesWrongFalsely : Prop := bgpSizesRow.holds Tryd.pinned (OpenSpec.ofChange bgpSizesWrong)

/-- 'carrefourlaw07.BgpReads': WHATEVER THE INPUT: true; the input reads as it did. -/
def bgpReadsSpec : ChangeSpec := { name := "bgpReads", fn := fun _ => fun
  | [d] => { results := [.lit (.bool true)], args := [d] }
  | _ => none }
def bgpReadsRow : OpenClaim := { program := "ytpjbofodllhjbaadoor", sum := "f7169bdceb42c136bae142dc6c7fa0006338d68606a8792f0ea68731741f2f80", func := "carrefour/carrefourlaw07.BgpReads", spec := "bgpReads", inPlace := ["internal/bytealg.MakeNoZero"], unfollowed := true, recurses := true, named := ["carrefour/attr.flags", "carrefour/attr.sizes"], apart := false, laid := [("carrefour/attr.flags", laid_carrefour_attr_flags), ("carrefour/attr.sizes", laid_carrefour_attr_sizes)] }
def BgpReadsSaid : Prop := bgpReadsRow.holds Tryd.pinned (OpenSpec.ofChange bgpReadsSpec)

/-- ITS FALSE NEIGHBOUR: 'it returns false'. Refute it at one input. -/
def bgpReadsWrong : ChangeSpec := { name := "bgpReads", fn := fun _ => fun
  | [d] => { results := [.lit (.bool false)], args := [d] }
  | _ => none }
def BgpReadsWrongFalsely : Prop := bgpReadsRow.holds Tryd.pinned (OpenSpec.ofChange bgpReadsWrong)

/-- 'carrefourlaw07.BgpForm': WHATEVER THE INPUT: true; the input reads as it did. -/
def bgpFormSpec : ChangeSpec := { name := "bgpForm", fn := fun _ => fun
  | [d] => { results := [.lit (.bool true)], args := [d] }
  | _ => none }
def bgpFormRow : OpenClaim := { program := "ytpjbofodllhjbaadoor", sum := "f7169bdceb42c136bae142dc6c7fa0006338d68606a8792f0ea68731741f2f80", func := "carrefour/carrefourlaw07.BgpForm", spec := "bgpForm", inPlace := ["internal/bytealg.MakeNoZero"], unfollowed := true, recurses := true, named := ["carrefour/attr.flags", "carrefour/attr.sizes"], apart := false, laid := [("carrefour/attr.flags", laid_carrefour_attr_flags), ("carrefour/attr.sizes", laid_carrefour_attr_sizes)] }
def BgpFormSaid : Prop := bgpFormRow.holds Tryd.pinned (OpenSpec.ofChange bgpFormSpec)

/-- ITS FALSE NEIGHBOUR: 'it returns false'. Refute it at one input. -/
def bgpFormWrong : ChangeSpec := { name := "bgpForm", fn := fun _ => fun
  | [d] => { results := [.lit (.bool false)], args := [d] }
  | _ => none }
def BgpFormWrongFalsely : Prop := bgpFormRow.holds Tryd.pinned (OpenSpec.ofChange bgpFormWrong)

/-- 'carrefourlaw07.BgpCuts': WHATEVER THE INPUT: true; the input reads as it did. -/
def bgpCutsSpec : ChangeSpec := { name := "bgpCuts", fn := fun _ => fun
  | [d1, d2, d3] => { results := [.lit (.bool true)], args := [d1, d2, d3] }
  | _ => none }
def bgpCutsRow : OpenClaim := { program := "ytpjbofodllhjbaadoor", sum := "f7169bdceb42c136bae142dc6c7fa0006338d68606a8792f0ea68731741f2f80", func := "carrefour/carrefourlaw07.BgpCuts", spec := "bgpCuts", inPlace := ["internal/bytealg.MakeNoZero"], unfollowed := true, recurses := true, named := ["carrefour/attr.flags", "carrefour/attr.sizes"], apart := false, laid := [("carrefour/attr.flags", laid_carrefour_attr_flags), ("carrefour/attr.sizes", laid_carrefour_attr_sizes)] }
def BgpCutsSaid : Prop := bgpCutsRow.holds Tryd.pinned (OpenSpec.ofChange bgpCutsSpec)

/-- ITS FALSE NEIGHBOUR: 'it returns false'. Refute it at one input. -/
def bgpCutsWrong : ChangeSpec := { name := "bgpCuts", fn := fun _ => fun
  | [d1, d2, d3] => { results := [.lit (.bool false)], args := [d1, d2, d3] }
  | _ => none }
def BgpCutsWrongFalsely : Prop := bgpCutsRow.holds Tryd.pinned (OpenSpec.ofChange bgpCutsWrong)

/-- 'carrefourlaw07.BgpNets': WHATEVER THE INPUT: true; the input reads as it did. -/
def bgpNetsSpec : ChangeSpec := { name := "bgpNets", fn := fun _ => fun
  | [d1, d2] => { results := [.lit (.bool true)], args := [d1, d2] }
  | _ => none }
def bgpNetsRow : OpenClaim := { program := "ytpjbofodllhjbaadoor", sum := "f7169bdceb42c136bae142dc6c7fa0006338d68606a8792f0ea68731741f2f80", func := "carrefour/carrefourlaw07.BgpNets", spec := "bgpNets", inPlace := ["internal/bytealg.MakeNoZero"], unfollowed := true, recurses := true, named := ["carrefour/attr.flags", "carrefour/attr.sizes"], apart := false, laid := [("carrefour/attr.flags", laid_carrefour_attr_flags), ("carrefour/attr.sizes", laid_carrefour_attr_sizes)] }
def BgpNetsSaid : Prop := bgpNetsRow.holds Tryd.pinned (OpenSpec.ofChange bgpNetsSpec)

/-- ITS FALSE NEIGHBOUR: 'it returns false'. Refute it at one input. -/
def bgpNetsWrong : ChangeSpec := { name := "bgpNets", fn := fun _ => fun
  | [d1, d2] => { results := [.lit (.bool false)], args := [d1, d2] }
  | _ => none }
def BgpNetsWrongFalsely : Prop := bgpNetsRow.holds Tryd.pinned (OpenSpec.ofChange bgpNetsWrong)

/-- 'carrefourlaw08.StreamFeeds': WHATEVER THE INPUT: true; the input reads as it did. -/
def streamFeedsSpec : ChangeSpec := { name := "streamFeeds", fn := fun _ => fun
  | [d1, d2] => { results := [.lit (.bool true)], args := [d1, d2] }
  | _ => none }
def streamFeedsRow : OpenClaim := { program := "ytpjbofodllhjbaadoor", sum := "f7169bdceb42c136bae142dc6c7fa0006338d68606a8792f0ea68731741f2f80", func := "carrefour/carrefourlaw08.StreamFeeds", spec := "streamFeeds", inPlace := ["internal/bytealg.MakeNoZero"], unfollowed := true, recurses := true, named := ["carrefour/attr.flags", "carrefour/attr.sizes"], apart := false, laid := [("carrefour/attr.flags", laid_carrefour_attr_flags), ("carrefour/attr.sizes", laid_carrefour_attr_sizes)] }
def StreamFeedsSaid : Prop := streamFeedsRow.holds Tryd.pinned (OpenSpec.ofChange streamFeedsSpec)

/-- ITS FALSE NEIGHBOUR: 'it returns false'. Refute it at one input. -/
def streamFeedsWrong : ChangeSpec := { name := "streamFeeds", fn := fun _ => fun
  | [d1, d2] => { results := [.lit (.bool false)], args := [d1, d2] }
  | _ => none }
def StreamFeedsWrongFalsely : Prop := streamFeedsRow.holds Tryd.pinned (OpenSpec.ofChange streamFeedsWrong)

/-- 'carrefourlaw08.StreamWrites': WHATEVER THE INPUT: true; the input reads as it did. -/
def streamWritesSpec : ChangeSpec := { name := "streamWrites", fn := fun _ => fun
  | [d1, d2] => { results := [.lit (.bool true)], args := [d1, d2] }
  | _ => none }
def streamWritesRow : OpenClaim := { program := "ytpjbofodllhjbaadoor", sum := "f7169bdceb42c136bae142dc6c7fa0006338d68606a8792f0ea68731741f2f80", func := "carrefour/carrefourlaw08.StreamWrites", spec := "streamWrites", inPlace := ["internal/bytealg.MakeNoZero"], unfollowed := true, recurses := true, named := ["carrefour/attr.flags", "carrefour/attr.sizes"], apart := false, laid := [("carrefour/attr.flags", laid_carrefour_attr_flags), ("carrefour/attr.sizes", laid_carrefour_attr_sizes)] }
def StreamWritesSaid : Prop := streamWritesRow.holds Tryd.pinned (OpenSpec.ofChange streamWritesSpec)

/-- ITS FALSE NEIGHBOUR: 'it returns false'. Refute it at one input. -/
def streamWritesWrong : ChangeSpec := { name := "streamWrites", fn := fun _ => fun
  | [d1, d2] => { results := [.lit (.bool false)], args := [d1, d2] }
  | _ => none }
def StreamWritesWrongFalsely : Prop := streamWritesRow.holds Tryd.pinned (OpenSpec.ofChange streamWritesWrong)

/-- 'carrefourlaw08.StreamStops': WHATEVER THE INPUT: true; the input reads as it did. -/
def streamStopsSpec : ChangeSpec := { name := "streamStops", fn := fun _ => fun
  | [d1, d2] => { results := [.lit (.bool true)], args := [d1, d2] }
  | _ => none }
def streamStopsRow : OpenClaim := { program := "ytpjbofodllhjbaadoor", sum := "f7169bdceb42c136bae142dc6c7fa0006338d68606a8792f0ea68731741f2f80", func := "carrefour/carrefourlaw08.StreamStops", spec := "streamStops", inPlace := ["internal/bytealg.MakeNoZero"], unfollowed := true, recurses := true, named := ["carrefour/attr.flags", "carrefour/attr.sizes"], apart := false, laid := [("carrefour/attr.flags", laid_carrefour_attr_flags), ("carrefour/attr.sizes", laid_carrefour_attr_sizes)] }
def StreamStopsSaid : Prop := streamStopsRow.holds Tryd.pinned (OpenSpec.ofChange streamStopsSpec)

/-- ITS FALSE NEIGHBOUR: 'it returns false'. Refute it at one input. -/
def streamStopsWrong : ChangeSpec := { name := "streamStops", fn := fun _ => fun
  | [d1, d2] => { results := [.lit (.bool false)], args := [d1, d2] }
  | _ => none }
def StreamStopsWrongFalsely : Prop := streamStopsRow.holds Tryd.pinned (OpenSpec.ofChange streamStopsWrong)

/-- 'carrefourlaw08.StreamSends': WHATEVER THE INPUT: true; the input reads as it did. -/
def streamSendsSpec : ChangeSpec := { name := "streamSends", fn := fun _ => fun
  | [d1, d2] => { results := [.lit (.bool true)], args := [d1, d2] }
  | _ => none }
def streamSendsRow : OpenClaim := { program := "ytpjbofodllhjbaadoor", sum := "f7169bdceb42c136bae142dc6c7fa0006338d68606a8792f0ea68731741f2f80", func := "carrefour/carrefourlaw08.StreamSends", spec := "streamSends", inPlace := ["internal/bytealg.MakeNoZero"], unfollowed := true, recurses := true, named := ["carrefour/attr.flags", "carrefour/attr.sizes"], apart := false, laid := [("carrefour/attr.flags", laid_carrefour_attr_flags), ("carrefour/attr.sizes", laid_carrefour_attr_sizes)] }
def StreamSendsSaid : Prop := streamSendsRow.holds Tryd.pinned (OpenSpec.ofChange streamSendsSpec)

/-- ITS FALSE NEIGHBOUR: 'it returns false'. Refute it at one input. -/
def streamSendsWrong : ChangeSpec := { name := "streamSends", fn := fun _ => fun
  | [d1, d2] => { results := [.lit (.bool false)], args := [d1, d2] }
  | _ => none }
def StreamSendsWrongFalsely : Prop := streamSendsRow.holds Tryd.pinned (OpenSpec.ofChange streamSendsWrong)

/-- 'carrefourlaw08.StreamQueues': WHATEVER THE INPUT: true; the input reads as it did. -/
def streamQueuesSpec : ChangeSpec := { name := "streamQueues", fn := fun _ => fun
  | [d1, d2] => { results := [.lit (.bool true)], args := [d1, d2] }
  | _ => none }
def streamQueuesRow : OpenClaim := { program := "ytpjbofodllhjbaadoor", sum := "f7169bdceb42c136bae142dc6c7fa0006338d68606a8792f0ea68731741f2f80", func := "carrefour/carrefourlaw08.StreamQueues", spec := "streamQueues", inPlace := ["internal/bytealg.MakeNoZero"], unfollowed := true, recurses := true, named := ["carrefour/attr.flags", "carrefour/attr.sizes"], apart := false, laid := [("carrefour/attr.flags", laid_carrefour_attr_flags), ("carrefour/attr.sizes", laid_carrefour_attr_sizes)] }
def StreamQueuesSaid : Prop := streamQueuesRow.holds Tryd.pinned (OpenSpec.ofChange streamQueuesSpec)

/-- ITS FALSE NEIGHBOUR: 'it returns false'. Refute it at one input. -/
def streamQueuesWrong : ChangeSpec := { name := "streamQueues", fn := fun _ => fun
  | [d1, d2] => { results := [.lit (.bool false)], args := [d1, d2] }
  | _ => none }
def StreamQueuesWrongFalsely : Prop := streamQueuesRow.holds Tryd.pinned (OpenSpec.ofChange streamQueuesWrong)

/- THE SECOND FORM. 'bulk': how many values and letters a reading holds, each counted each time it is reached (what is shared counts as often as it is met; a slice's spare places count too). A statement '..UptoSaid' is the law's where the arguments, and the package variables that the reading takes, are together of bulk at most 1048576: NARROWER than '..Said'. Prove '..Said' where nothing that the law and all that it calls make is longer than what came in: it says more and counts as full. Else prove '..UptoSaid'. A law counts once. -/
mutual
def uptoBulk {H : Type} : DataW H → Nat
  | .lit (.string bytes) => bytes.length + 1
  | .lit _ => 1
  | .nil => 1
  | .ptr d => uptoBulk d + 1
  | .slice elems spare => uptoBulkAll elems + uptoBulkAll spare + 1
  | .agg parts => uptoBulkAll parts + 1
  | .iface _ d => uptoBulk d + 1
  | .map entries => uptoBulkEntries entries + 1
  | .held _ => 1
def uptoBulkAll {H : Type} : List (DataW H) → Nat
  | [] => 0
  | d :: r => uptoBulk d + uptoBulkAll r
def uptoBulkEntries {H : Type} : List (Lit × DataW H) → Nat
  | [] => 0
  | x :: r => uptoBulkEntry x + uptoBulkEntries r
def uptoBulkEntry {H : Type} : Lit × DataW H → Nat
  | (.string bytes, d) => bytes.length + uptoBulk d + 1
  | (_, d) => uptoBulk d + 1
 end
def uptoSmall : (H : Type) → List (DataW H) → Bool := fun _ ds => decide (uptoBulkAll ds ≤ 1048576)
def OpenSpec.upto (s : _root_.Go.ChangeSpec) : _root_.Go.OpenSpec := { _root_.Go.OpenSpec.ofChange s with cond := some uptoSmall }

/-- 'carrefourlaw07.BgpSizes', WHERE WHAT IT READS IS OF BULK AT MOST 1048576: true; the input reads as it did. -/
def bgpSizesUptoRow : OpenClaim := { program := "ytpjbofodllhjbaadoor", sum := "f7169bdceb42c136bae142dc6c7fa0006338d68606a8792f0ea68731741f2f80", func := "carrefour/carrefourlaw07.BgpSizes", spec := "bgpSizes", inPlace := ["internal/bytealg.MakeNoZero"], named := ["carrefour/attr.flags"], apart := false, laid := [("carrefour/attr.flags", laid_carrefour_attr_flags)], narrowed := true }
def BgpSizesUptoSaid : Prop := bgpSizesUptoRow.holds Tryd.pinned (OpenSpec.upto bgpSizesSpec)

/-- 'carrefourlaw07.BgpReads', WHERE WHAT IT READS IS OF BULK AT MOST 1048576: true; the input reads as it did. -/
def bgpReadsUptoRow : OpenClaim := { program := "ytpjbofodllhjbaadoor", sum := "f7169bdceb42c136bae142dc6c7fa0006338d68606a8792f0ea68731741f2f80", func := "carrefour/carrefourlaw07.BgpReads", spec := "bgpReads", inPlace := ["internal/bytealg.MakeNoZero"], unfollowed := true, recurses := true, named := ["carrefour/attr.flags", "carrefour/attr.sizes"], apart := false, laid := [("carrefour/attr.flags", laid_carrefour_attr_flags), ("carrefour/attr.sizes", laid_carrefour_attr_sizes)], narrowed := true }
def BgpReadsUptoSaid : Prop := bgpReadsUptoRow.holds Tryd.pinned (OpenSpec.upto bgpReadsSpec)

/-- 'carrefourlaw07.BgpForm', WHERE WHAT IT READS IS OF BULK AT MOST 1048576: true; the input reads as it did. -/
def bgpFormUptoRow : OpenClaim := { program := "ytpjbofodllhjbaadoor", sum := "f7169bdceb42c136bae142dc6c7fa0006338d68606a8792f0ea68731741f2f80", func := "carrefour/carrefourlaw07.BgpForm", spec := "bgpForm", inPlace := ["internal/bytealg.MakeNoZero"], unfollowed := true, recurses := true, named := ["carrefour/attr.flags", "carrefour/attr.sizes"], apart := false, laid := [("carrefour/attr.flags", laid_carrefour_attr_flags), ("carrefour/attr.sizes", laid_carrefour_attr_sizes)], narrowed := true }
def BgpFormUptoSaid : Prop := bgpFormUptoRow.holds Tryd.pinned (OpenSpec.upto bgpFormSpec)

/-- 'carrefourlaw07.BgpCuts', WHERE WHAT IT READS IS OF BULK AT MOST 1048576: true; the input reads as it did. -/
def bgpCutsUptoRow : OpenClaim := { program := "ytpjbofodllhjbaadoor", sum := "f7169bdceb42c136bae142dc6c7fa0006338d68606a8792f0ea68731741f2f80", func := "carrefour/carrefourlaw07.BgpCuts", spec := "bgpCuts", inPlace := ["internal/bytealg.MakeNoZero"], unfollowed := true, recurses := true, named := ["carrefour/attr.flags", "carrefour/attr.sizes"], apart := false, laid := [("carrefour/attr.flags", laid_carrefour_attr_flags), ("carrefour/attr.sizes", laid_carrefour_attr_sizes)], narrowed := true }
def BgpCutsUptoSaid : Prop := bgpCutsUptoRow.holds Tryd.pinned (OpenSpec.upto bgpCutsSpec)

/-- 'carrefourlaw07.BgpNets', WHERE WHAT IT READS IS OF BULK AT MOST 1048576: true; the input reads as it did. -/
def bgpNetsUptoRow : OpenClaim := { program := "ytpjbofodllhjbaadoor", sum := "f7169bdceb42c136bae142dc6c7fa0006338d68606a8792f0ea68731741f2f80", func := "carrefour/carrefourlaw07.BgpNets", spec := "bgpNets", inPlace := ["internal/bytealg.MakeNoZero"], unfollowed := true, recurses := true, named := ["carrefour/attr.flags", "carrefour/attr.sizes"], apart := false, laid := [("carrefour/attr.flags", laid_carrefour_attr_flags), ("carrefour/attr.sizes", laid_carrefour_attr_sizes)], narrowed := true }
def BgpNetsUptoSaid : Prop := bgpNetsUptoRow.holds Tryd.pinned (OpenSpec.upto bgpNetsSpec)

/-- 'carrefourlaw08.StreamFeeds', WHERE WHAT IT READS IS OF BULK AT MOST 1048576: true; the input reads as it did. -/
def streamFeedsUptoRow : OpenClaim := { program := "ytpjbofodllhjbaadoor", sum := "f7169bdceb42c136bae142dc6c7fa0006338d68606a8792f0ea68731741f2f80", func := "carrefour/carrefourlaw08.StreamFeeds", spec := "streamFeeds", inPlace := ["internal/bytealg.MakeNoZero"], unfollowed := true, recurses := true, named := ["carrefour/attr.flags", "carrefour/attr.sizes"], apart := false, laid := [("carrefour/attr.flags", laid_carrefour_attr_flags), ("carrefour/attr.sizes", laid_carrefour_attr_sizes)], narrowed := true }
def StreamFeedsUptoSaid : Prop := streamFeedsUptoRow.holds Tryd.pinned (OpenSpec.upto streamFeedsSpec)

/-- 'carrefourlaw08.StreamWrites', WHERE WHAT IT READS IS OF BULK AT MOST 1048576: true; the input reads as it did. -/
def streamWritesUptoRow : OpenClaim := { program := "ytpjbofodllhjbaadoor", sum := "f7169bdceb42c136bae142dc6c7fa0006338d68606a8792f0ea68731741f2f80", func := "carrefour/carrefourlaw08.StreamWrites", spec := "streamWrites", inPlace := ["internal/bytealg.MakeNoZero"], unfollowed := true, recurses := true, named := ["carrefour/attr.flags", "carrefour/attr.sizes"], apart := false, laid := [("carrefour/attr.flags", laid_carrefour_attr_flags), ("carrefour/attr.sizes", laid_carrefour_attr_sizes)], narrowed := true }
def StreamWritesUptoSaid : Prop := streamWritesUptoRow.holds Tryd.pinned (OpenSpec.upto streamWritesSpec)

/-- 'carrefourlaw08.StreamStops', WHERE WHAT IT READS IS OF BULK AT MOST 1048576: true; the input reads as it did. -/
def streamStopsUptoRow : OpenClaim := { program := "ytpjbofodllhjbaadoor", sum := "f7169bdceb42c136bae142dc6c7fa0006338d68606a8792f0ea68731741f2f80", func := "carrefour/carrefourlaw08.StreamStops", spec := "streamStops", inPlace := ["internal/bytealg.MakeNoZero"], unfollowed := true, recurses := true, named := ["carrefour/attr.flags", "carrefour/attr.sizes"], apart := false, laid := [("carrefour/attr.flags", laid_carrefour_attr_flags), ("carrefour/attr.sizes", laid_carrefour_attr_sizes)], narrowed := true }
def StreamStopsUptoSaid : Prop := streamStopsUptoRow.holds Tryd.pinned (OpenSpec.upto streamStopsSpec)

/-- 'carrefourlaw08.StreamSends', WHERE WHAT IT READS IS OF BULK AT MOST 1048576: true; the input reads as it did. -/
def streamSendsUptoRow : OpenClaim := { program := "ytpjbofodllhjbaadoor", sum := "f7169bdceb42c136bae142dc6c7fa0006338d68606a8792f0ea68731741f2f80", func := "carrefour/carrefourlaw08.StreamSends", spec := "streamSends", inPlace := ["internal/bytealg.MakeNoZero"], unfollowed := true, recurses := true, named := ["carrefour/attr.flags", "carrefour/attr.sizes"], apart := false, laid := [("carrefour/attr.flags", laid_carrefour_attr_flags), ("carrefour/attr.sizes", laid_carrefour_attr_sizes)], narrowed := true }
def StreamSendsUptoSaid : Prop := streamSendsUptoRow.holds Tryd.pinned (OpenSpec.upto streamSendsSpec)

/-- 'carrefourlaw08.StreamQueues', WHERE WHAT IT READS IS OF BULK AT MOST 1048576: true; the input reads as it did. -/
def streamQueuesUptoRow : OpenClaim := { program := "ytpjbofodllhjbaadoor", sum := "f7169bdceb42c136bae142dc6c7fa0006338d68606a8792f0ea68731741f2f80", func := "carrefour/carrefourlaw08.StreamQueues", spec := "streamQueues", inPlace := ["internal/bytealg.MakeNoZero"], unfollowed := true, recurses := true, named := ["carrefour/attr.flags", "carrefour/attr.sizes"], apart := false, laid := [("carrefour/attr.flags", laid_carrefour_attr_flags), ("carrefour/attr.sizes", laid_carrefour_attr_sizes)], narrowed := true }
def StreamQueuesUptoSaid : Prop := streamQueuesUptoRow.holds Tryd.pinned (OpenSpec.upto streamQueuesSpec)

end Rows
end Go.Proofs.YtpjbofodllhjbaaDoor
