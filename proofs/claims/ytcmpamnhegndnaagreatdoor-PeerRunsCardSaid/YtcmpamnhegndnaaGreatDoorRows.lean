/-
  NARROWER THAN 'FOR EVERY INPUT', by the rows' own cells (each row's printed sentence says how): PeerRefuses: laid · PeerMeets: laid · PeerHolds: laid · PeerRetries: laid · PeerTurns: laid · PeerRuns: laid.
  DERIVED. THE GIVEN ROWS OF THIS SEAT. 6 by the template 'for every input the law returns true; each argument reads behind the call as it read before'; 0 by the template 'total and deterministic' (their statements: YtcmpamnhegndnaaGreatDoorTotals.lean).
  GIVEN WITH THE SEED: the statements are not yours to turn. If you find one false, say at which input.
  Laid BY PROGRAM, IN A SANDBOX (cutbox-rows.mjs): the forced cells as the released guide's own fill.sh prints them over the translation 43859a53b9a7759f… (all of the seat's roots in one cut). By AI agents, Wed Nov 11 2026. No macro, syntax, notation, axiom, sorry.
-/
import Derived.Test.YtcmpamnhegndnaaGreatDoorChecked
import GoSem.Claim
import GoSem.ClaimJoined
import GoSem.ClaimMapViews
import Derived.JoinedTies
import Derived.KernelRfl
namespace Go.Proofs.YtcmpamnhegndnaaGreatDoor
/- THE CELL 'sum', in the pinned program and in every row, IS THE sha256 OF THE DUMP (.gsa) THAT YtcmpamnhegndnaaGreatDoorProg.lean LOADS. Nothing in Lean hashes anything: it is a label: what it is worth is what the hold of that sum in a sandbox is worth. -/
noncomputable def Tryz.pinned : Pinned := { name := "ytcmpamnhegndnaagreatdoor", sum := "43859a53b9a7759f76dd1888e5c46f82724c3c7fcd29ca7acef999ce2225da1e", checked := Tryz.checked }
namespace Rows
def none {H : Type} : Left H := { results := [], args := [] }

/- WHAT THE LISTED PACKAGE-LEVEL VARIABLES READ AS WHEN THE CALL BEGINS. Each datum BY PROGRAM (the guide's laid-datum.mjs) off the statement by which the dump's own 'gosem.cut.vars' lays the variable. In a bare row this is a premise. The card (YtcmpamnhegndnaaGreatDoorCards.lean) ties it to the program's text. -/
def laid_carrefour_attr_flags {H : Type} : DataW H := .agg [.lit (.int .i64 0), .lit (.int .i64 64), .lit (.int .i64 64), .lit (.int .i64 64), .lit (.int .i64 128), .lit (.int .i64 64), .lit (.int .i64 64), .lit (.int .i64 192), .lit (.int .i64 192)]
def laid_carrefour_attr_sizes {H : Type} : DataW H := .agg [.lit (.int .i64 0), .lit (.int .i64 1), .lit (.int .i64 (-1)), .lit (.int .i64 4), .lit (.int .i64 4), .lit (.int .i64 4), .lit (.int .i64 0), .lit (.int .i64 6), .lit (.int .i64 (-1))]

/-- 'carrefourlaw10.PeerRefuses': WHATEVER THE INPUT: true; the input reads as it did. -/
def peerRefusesSpec : ChangeSpec := { name := "peerRefuses", fn := fun _ => fun
  | [d1, d2, d3] => { results := [.lit (.bool true)], args := [d1, d2, d3] }
  | _ => none }
def peerRefusesRow : OpenClaim := { program := "ytcmpamnhegndnaagreatdoor", sum := "43859a53b9a7759f76dd1888e5c46f82724c3c7fcd29ca7acef999ce2225da1e", func := "carrefour/carrefourlaw10.PeerRefuses", spec := "peerRefuses", inPlace := ["internal/bytealg.MakeNoZero"], unfollowed := true, recurses := true, named := ["carrefour/attr.flags", "carrefour/attr.sizes"], apart := false, laid := [("carrefour/attr.flags", laid_carrefour_attr_flags), ("carrefour/attr.sizes", laid_carrefour_attr_sizes)] }
def PeerRefusesSaid : Prop := peerRefusesRow.holds Tryz.pinned (OpenSpec.ofChange peerRefusesSpec)

/-- ITS FALSE NEIGHBOUR: 'it returns false'. Refute it at one input. -/
def peerRefusesWrong : ChangeSpec := { name := "peerRefuses", fn := fun _ => fun
  | [d1, d2, d3] => { results := [.lit (.bool false)], args := [d1, d2, d3] }
  | _ => none }
def PeerRefusesWrongFalsely : Prop := peerRefusesRow.holds Tryz.pinned (OpenSpec.ofChange peerRefusesWrong)

/-- 'carrefourlaw10.PeerMeets': WHATEVER THE INPUT: true; the input reads as it did. -/
def peerMeetsSpec : ChangeSpec := { name := "peerMeets", fn := fun _ => fun
  | [d1, d2, d3] => { results := [.lit (.bool true)], args := [d1, d2, d3] }
  | _ => none }
def peerMeetsRow : OpenClaim := { program := "ytcmpamnhegndnaagreatdoor", sum := "43859a53b9a7759f76dd1888e5c46f82724c3c7fcd29ca7acef999ce2225da1e", func := "carrefour/carrefourlaw10.PeerMeets", spec := "peerMeets", inPlace := ["internal/bytealg.MakeNoZero"], unfollowed := true, recurses := true, named := ["carrefour/attr.flags", "carrefour/attr.sizes"], apart := false, laid := [("carrefour/attr.flags", laid_carrefour_attr_flags), ("carrefour/attr.sizes", laid_carrefour_attr_sizes)] }
def PeerMeetsSaid : Prop := peerMeetsRow.holds Tryz.pinned (OpenSpec.ofChange peerMeetsSpec)

/-- ITS FALSE NEIGHBOUR: 'it returns false'. Refute it at one input. -/
def peerMeetsWrong : ChangeSpec := { name := "peerMeets", fn := fun _ => fun
  | [d1, d2, d3] => { results := [.lit (.bool false)], args := [d1, d2, d3] }
  | _ => none }
def PeerMeetsWrongFalsely : Prop := peerMeetsRow.holds Tryz.pinned (OpenSpec.ofChange peerMeetsWrong)

/-- 'carrefourlaw10.PeerHolds': WHATEVER THE INPUT: true; the input reads as it did. -/
def peerHoldsSpec : ChangeSpec := { name := "peerHolds", fn := fun _ => fun
  | [d1, d2, d3] => { results := [.lit (.bool true)], args := [d1, d2, d3] }
  | _ => none }
def peerHoldsRow : OpenClaim := { program := "ytcmpamnhegndnaagreatdoor", sum := "43859a53b9a7759f76dd1888e5c46f82724c3c7fcd29ca7acef999ce2225da1e", func := "carrefour/carrefourlaw10.PeerHolds", spec := "peerHolds", inPlace := ["internal/bytealg.MakeNoZero"], unfollowed := true, recurses := true, named := ["carrefour/attr.flags", "carrefour/attr.sizes"], apart := false, laid := [("carrefour/attr.flags", laid_carrefour_attr_flags), ("carrefour/attr.sizes", laid_carrefour_attr_sizes)] }
def PeerHoldsSaid : Prop := peerHoldsRow.holds Tryz.pinned (OpenSpec.ofChange peerHoldsSpec)

/-- ITS FALSE NEIGHBOUR: 'it returns false'. Refute it at one input. -/
def peerHoldsWrong : ChangeSpec := { name := "peerHolds", fn := fun _ => fun
  | [d1, d2, d3] => { results := [.lit (.bool false)], args := [d1, d2, d3] }
  | _ => none }
def PeerHoldsWrongFalsely : Prop := peerHoldsRow.holds Tryz.pinned (OpenSpec.ofChange peerHoldsWrong)

/-- 'carrefourlaw10.PeerRetries': WHATEVER THE INPUT: true; the input reads as it did. -/
def peerRetriesSpec : ChangeSpec := { name := "peerRetries", fn := fun _ => fun
  | [d1, d2] => { results := [.lit (.bool true)], args := [d1, d2] }
  | _ => none }
def peerRetriesRow : OpenClaim := { program := "ytcmpamnhegndnaagreatdoor", sum := "43859a53b9a7759f76dd1888e5c46f82724c3c7fcd29ca7acef999ce2225da1e", func := "carrefour/carrefourlaw10.PeerRetries", spec := "peerRetries", inPlace := ["internal/bytealg.MakeNoZero"], unfollowed := true, recurses := true, named := ["carrefour/attr.flags", "carrefour/attr.sizes"], apart := false, laid := [("carrefour/attr.flags", laid_carrefour_attr_flags), ("carrefour/attr.sizes", laid_carrefour_attr_sizes)] }
def PeerRetriesSaid : Prop := peerRetriesRow.holds Tryz.pinned (OpenSpec.ofChange peerRetriesSpec)

/-- ITS FALSE NEIGHBOUR: 'it returns false'. Refute it at one input. -/
def peerRetriesWrong : ChangeSpec := { name := "peerRetries", fn := fun _ => fun
  | [d1, d2] => { results := [.lit (.bool false)], args := [d1, d2] }
  | _ => none }
def PeerRetriesWrongFalsely : Prop := peerRetriesRow.holds Tryz.pinned (OpenSpec.ofChange peerRetriesWrong)

/-- 'carrefourlaw10.PeerTurns': WHATEVER THE INPUT: true; the input reads as it did. -/
def peerTurnsSpec : ChangeSpec := { name := "peerTurns", fn := fun _ => fun
  | [d] => { results := [.lit (.bool true)], args := [d] }
  | _ => none }
def peerTurnsRow : OpenClaim := { program := "ytcmpamnhegndnaagreatdoor", sum := "43859a53b9a7759f76dd1888e5c46f82724c3c7fcd29ca7acef999ce2225da1e", func := "carrefour/carrefourlaw10.PeerTurns", spec := "peerTurns", inPlace := ["internal/bytealg.MakeNoZero"], unfollowed := true, recurses := true, named := ["carrefour/attr.flags", "carrefour/attr.sizes"], apart := false, laid := [("carrefour/attr.flags", laid_carrefour_attr_flags), ("carrefour/attr.sizes", laid_carrefour_attr_sizes)] }
def PeerTurnsSaid : Prop := peerTurnsRow.holds Tryz.pinned (OpenSpec.ofChange peerTurnsSpec)

/-- ITS FALSE NEIGHBOUR: 'it returns false'. Refute it at one input. -/
def peerTurnsWrong : ChangeSpec := { name := "peerTurns", fn := fun _ => fun
  | [d] => { results := [.lit (.bool false)], args := [d] }
  | _ => none }
def PeerTurnsWrongFalsely : Prop := peerTurnsRow.holds Tryz.pinned (OpenSpec.ofChange peerTurnsWrong)

/-- 'carrefourlaw10.PeerRuns': WHATEVER THE INPUT: true; the input reads as it did. -/
def peerRunsSpec : ChangeSpec := { name := "peerRuns", fn := fun _ => fun
  | [d1, d2] => { results := [.lit (.bool true)], args := [d1, d2] }
  | _ => none }
def peerRunsRow : OpenClaim := { program := "ytcmpamnhegndnaagreatdoor", sum := "43859a53b9a7759f76dd1888e5c46f82724c3c7fcd29ca7acef999ce2225da1e", func := "carrefour/carrefourlaw10.PeerRuns", spec := "peerRuns", inPlace := ["internal/bytealg.MakeNoZero"], unfollowed := true, recurses := true, named := ["carrefour/attr.flags", "carrefour/attr.sizes"], apart := false, laid := [("carrefour/attr.flags", laid_carrefour_attr_flags), ("carrefour/attr.sizes", laid_carrefour_attr_sizes)] }
def PeerRunsSaid : Prop := peerRunsRow.holds Tryz.pinned (OpenSpec.ofChange peerRunsSpec)

/-- ITS FALSE NEIGHBOUR: 'it returns false'. Refute it at one input. -/
def peerRunsWrong : ChangeSpec := { name := "peerRuns", fn := fun _ => fun
  | [d1, d2] => { results := [.lit (.bool false)], args := [d1, d2] }
  | _ => none }
def PeerRunsWrongFalsely : Prop := peerRunsRow.holds Tryz.pinned (OpenSpec.ofChange peerRunsWrong)

/- THE SECOND FORM. 'bulk': how many values and letters a reading holds, each counted each time it is reached (what is shared counts as often as it is met; a slice's spare places count too). A statement '..UptoSaid' is the law's where the arguments, and the package variables that the reading takes, are together of bulk at most 1048576: NARROWER than '..Said'. Prove '..Said' where nothing that the law and all that it calls make is longer than what came in: it says more and counts as full. Else prove '..UptoSaid'. A law counts once. -/
mutual
def uptoBulk {H : Type} : DataW H → Nat
  | .lit (.string bytes) => bytes.length + 1
  | .lit _ => 1
  | .nil => 1
  | .ptr d => uptoBulk d + 1
  | .slice elems spare => uptoBulkAll elems + uptoBulkAll spare + 1
  | .agg parts => uptoBulkAll parts + 1
  | .iface _ d => uptoBulk d + 1
  | .map entries => uptoBulkEntries entries + 1
  | .held _ => 1
def uptoBulkAll {H : Type} : List (DataW H) → Nat
  | [] => 0
  | d :: r => uptoBulk d + uptoBulkAll r
def uptoBulkEntries {H : Type} : List (Lit × DataW H) → Nat
  | [] => 0
  | x :: r => uptoBulkEntry x + uptoBulkEntries r
def uptoBulkEntry {H : Type} : Lit × DataW H → Nat
  | (.string bytes, d) => bytes.length + uptoBulk d + 1
  | (_, d) => uptoBulk d + 1
 end
def uptoSmall : (H : Type) → List (DataW H) → Bool := fun _ ds => decide (uptoBulkAll ds ≤ 1048576)
def OpenSpec.upto (s : _root_.Go.ChangeSpec) : _root_.Go.OpenSpec := { _root_.Go.OpenSpec.ofChange s with cond := some uptoSmall }

/-- 'carrefourlaw10.PeerRefuses', WHERE WHAT IT READS IS OF BULK AT MOST 1048576: true; the input reads as it did. -/
def peerRefusesUptoRow : OpenClaim := { program := "ytcmpamnhegndnaagreatdoor", sum := "43859a53b9a7759f76dd1888e5c46f82724c3c7fcd29ca7acef999ce2225da1e", func := "carrefour/carrefourlaw10.PeerRefuses", spec := "peerRefuses", inPlace := ["internal/bytealg.MakeNoZero"], unfollowed := true, recurses := true, named := ["carrefour/attr.flags", "carrefour/attr.sizes"], apart := false, laid := [("carrefour/attr.flags", laid_carrefour_attr_flags), ("carrefour/attr.sizes", laid_carrefour_attr_sizes)], narrowed := true }
def PeerRefusesUptoSaid : Prop := peerRefusesUptoRow.holds Tryz.pinned (OpenSpec.upto peerRefusesSpec)

/-- 'carrefourlaw10.PeerMeets', WHERE WHAT IT READS IS OF BULK AT MOST 1048576: true; the input reads as it did. -/
def peerMeetsUptoRow : OpenClaim := { program := "ytcmpamnhegndnaagreatdoor", sum := "43859a53b9a7759f76dd1888e5c46f82724c3c7fcd29ca7acef999ce2225da1e", func := "carrefour/carrefourlaw10.PeerMeets", spec := "peerMeets", inPlace := ["internal/bytealg.MakeNoZero"], unfollowed := true, recurses := true, named := ["carrefour/attr.flags", "carrefour/attr.sizes"], apart := false, laid := [("carrefour/attr.flags", laid_carrefour_attr_flags), ("carrefour/attr.sizes", laid_carrefour_attr_sizes)], narrowed := true }
def PeerMeetsUptoSaid : Prop := peerMeetsUptoRow.holds Tryz.pinned (OpenSpec.upto peerMeetsSpec)

/-- 'carrefourlaw10.PeerHolds', WHERE WHAT IT READS IS OF BULK AT MOST 1048576: true; the input reads as it did. -/
def peerHoldsUptoRow : OpenClaim := { program := "ytcmpamnhegndnaagreatdoor", sum := "43859a53b9a7759f76dd1888e5c46f82724c3c7fcd29ca7acef999ce2225da1e", func := "carrefour/carrefourlaw10.PeerHolds", spec := "peerHolds", inPlace := ["internal/bytealg.MakeNoZero"], unfollowed := true, recurses := true, named := ["carrefour/attr.flags", "carrefour/attr.sizes"], apart := false, laid := [("carrefour/attr.flags", laid_carrefour_attr_flags), ("carrefour/attr.sizes", laid_carrefour_attr_sizes)], narrowed := true }
def PeerHoldsUptoSaid : Prop := peerHoldsUptoRow.holds Tryz.pinned (OpenSpec.upto peerHoldsSpec)

/-- 'carrefourlaw10.PeerRetries', WHERE WHAT IT READS IS OF BULK AT MOST 1048576: true; the input reads as it did. -/
def peerRetriesUptoRow : OpenClaim := { program := "ytcmpamnhegndnaagreatdoor", sum := "43859a53b9a7759f76dd1888e5c46f82724c3c7fcd29ca7acef999ce2225da1e", func := "carrefour/carrefourlaw10.PeerRetries", spec := "peerRetries", inPlace := ["internal/bytealg.MakeNoZero"], unfollowed := true, recurses := true, named := ["carrefour/attr.flags", "carrefour/attr.sizes"], apart := false, laid := [("carrefour/attr.flags", laid_carrefour_attr_flags), ("carrefour/attr.sizes", laid_carrefour_attr_sizes)], narrowed := true }
def PeerRetriesUptoSaid : Prop := peerRetriesUptoRow.holds Tryz.pinned (OpenSpec.upto peerRetriesSpec)

/-- 'carrefourlaw10.PeerTurns', WHERE WHAT IT READS IS OF BULK AT MOST 1048576: true; the input reads as it did. -/
def peerTurnsUptoRow : OpenClaim := { program := "ytcmpamnhegndnaagreatdoor", sum := "43859a53b9a7759f76dd1888e5c46f82724c3c7fcd29ca7acef999ce2225da1e", func := "carrefour/carrefourlaw10.PeerTurns", spec := "peerTurns", inPlace := ["internal/bytealg.MakeNoZero"], unfollowed := true, recurses := true, named := ["carrefour/attr.flags", "carrefour/attr.sizes"], apart := false, laid := [("carrefour/attr.flags", laid_carrefour_attr_flags), ("carrefour/attr.sizes", laid_carrefour_attr_sizes)], narrowed := true }
def PeerTurnsUptoSaid : Prop := peerTurnsUptoRow.holds Tryz.pinned (OpenSpec.upto peerTurnsSpec)

/-- 'carrefourlaw10.PeerRuns', WHERE WHAT IT READS IS OF BULK AT MOST 1048576: true; the input reads as it did. -/
def peerRunsUptoRow : OpenClaim := { program := "ytcmpamnhegndnaagreatdoor", sum := "43859a53b9a7759f76dd1888e5c46f82724c3c7fcd29ca7acef999ce2225da1e", func := "carrefour/carrefourlaw10.PeerRuns", spec := "peerRuns", inPlace := ["internal/bytealg.MakeNoZero"], unfollowed := true, recurses := true, named := ["carrefour/attr.flags", "carrefour/attr.sizes"], apart := false, laid := [("carrefour/attr.flags", laid_carrefour_attr_flags), ("carrefour/attr.sizes", laid_carrefour_attr_sizes)], narrowed := true }
def PeerRunsUptoSaid : Prop := peerRunsUptoRow.holds Tryz.pinned (OpenSpec.upto peerRunsSpec)

end Rows
end Go.Proofs.YtcmpamnhegndnaaGreatDoor
