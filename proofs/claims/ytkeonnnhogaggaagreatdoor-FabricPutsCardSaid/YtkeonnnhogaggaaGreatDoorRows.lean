/-
  NARROWER THAN 'FOR EVERY INPUT', by the rows' own cells (each row's printed sentence says how): JoinWeighs: loops, laid · FabricFrames: laid · FabricSame: laid · FabricDrops: laid · FabricPuts: laid · StageBest: laid · StageNone: laid · StageChecks: loops, laid.
  DERIVED. THE GIVEN ROWS OF THIS SEAT. 8 by the template 'for every input the law returns true; each argument reads behind the call as it read before'; 0 by the template 'total and deterministic' (their statements: YtkeonnnhogaggaaGreatDoorTotals.lean).
  GIVEN WITH THE SEED: the statements are not yours to turn. If you find one false, say at which input.
  Laid BY PROGRAM, IN A SANDBOX (cutbox-rows.mjs): the forced cells as the released guide's own fill.sh prints them over the translation 398d3d9e2868c6b6… (all of the seat's roots in one cut). By AI agents, Wed Nov 11 2026. No macro, syntax, notation, axiom, sorry.
-/
import Derived.Test.YtkeonnnhogaggaaGreatDoorChecked
import GoSem.Claim
import GoSem.ClaimJoined
import GoSem.ClaimMapViews
import Derived.JoinedTies
import Derived.KernelRfl
namespace Go.Proofs.YtkeonnnhogaggaaGreatDoor
/- THE CELL 'sum', in the pinned program and in every row, IS THE sha256 OF THE DUMP (.gsa) THAT YtkeonnnhogaggaaGreatDoorProg.lean LOADS. Nothing in Lean hashes anything: it is a label: what it is worth is what the hold of that sum in a sandbox is worth. -/
noncomputable def Tryz.pinned : Pinned := { name := "ytkeonnnhogaggaagreatdoor", sum := "398d3d9e2868c6b6d406229ce0677f56af80250a8009bc8977eb4cade5431576", checked := Tryz.checked }
namespace Rows
def none {H : Type} : Left H := { results := [], args := [] }

/- WHAT THE LISTED PACKAGE-LEVEL VARIABLES READ AS WHEN THE CALL BEGINS. Each datum BY PROGRAM (the guide's laid-datum.mjs) off the statement by which the dump's own 'gosem.cut.vars' lays the variable. In a bare row this is a premise. The card (YtkeonnnhogaggaaGreatDoorCards.lean) ties it to the program's text. -/
def laid_carrefour_head_widths {H : Type} : DataW H := .agg [.lit (.int .i64 8), .lit (.int .i64 48), .lit (.int .i64 48), .lit (.int .i64 16), .lit (.int .i64 32), .lit (.int .i64 32), .lit (.int .i64 8), .lit (.int .i64 16), .lit (.int .i64 16)]

/-- 'carrefourlaw18.JoinWeighs': WHATEVER THE INPUT: true; the input reads as it did. -/
def joinWeighsSpec : ChangeSpec := { name := "joinWeighs", fn := fun _ => fun
  | [d] => { results := [.lit (.bool true)], args := [d] }
  | _ => none }
def joinWeighsRow : OpenClaim := { program := "ytkeonnnhogaggaagreatdoor", sum := "398d3d9e2868c6b6d406229ce0677f56af80250a8009bc8977eb4cade5431576", func := "carrefour/carrefourlaw18.JoinWeighs", spec := "joinWeighs", unfollowed := true, recurses := true, named := ["carrefour/head.widths"], loops := true, plainKeys := false, apart := false, laid := [("carrefour/head.widths", laid_carrefour_head_widths)] }
def JoinWeighsSaid : Prop := joinWeighsRow.holds Tryz.pinned (OpenSpec.ofChange joinWeighsSpec)

/-- ITS FALSE NEIGHBOUR: 'it returns false'. Refute it at one input. -/
def joinWeighsWrong : ChangeSpec := { name := "joinWeighs", fn := fun _ => fun
  | [d] => { results := [.lit (.bool false)], args := [d] }
  | _ => none }
def JoinWeighsWrongFalsely : Prop := joinWeighsRow.holds Tryz.pinned (OpenSpec.ofChange joinWeighsWrong)

/-- 'carrefourlaw20.FabricFrames': WHATEVER THE INPUT: true; the input reads as it did. -/
def fabricFramesSpec : ChangeSpec := { name := "fabricFrames", fn := fun _ => fun
  | [d1, d2, d3] => { results := [.lit (.bool true)], args := [d1, d2, d3] }
  | _ => none }
def fabricFramesRow : OpenClaim := { program := "ytkeonnnhogaggaagreatdoor", sum := "398d3d9e2868c6b6d406229ce0677f56af80250a8009bc8977eb4cade5431576", func := "carrefour/carrefourlaw20.FabricFrames", spec := "fabricFrames", inPlace := ["internal/bytealg.Compare"], unfollowed := true, recurses := true, named := ["carrefour/head.widths"], plainKeys := false, apart := false, laid := [("carrefour/head.widths", laid_carrefour_head_widths)] }
def FabricFramesSaid : Prop := fabricFramesRow.holds Tryz.pinned (OpenSpec.ofChange fabricFramesSpec)

/-- ITS FALSE NEIGHBOUR: 'it returns false'. Refute it at one input. -/
def fabricFramesWrong : ChangeSpec := { name := "fabricFrames", fn := fun _ => fun
  | [d1, d2, d3] => { results := [.lit (.bool false)], args := [d1, d2, d3] }
  | _ => none }
def FabricFramesWrongFalsely : Prop := fabricFramesRow.holds Tryz.pinned (OpenSpec.ofChange fabricFramesWrong)

/-- 'carrefourlaw20.FabricSame': WHATEVER THE INPUT: true; the input reads as it did. -/
def fabricSameSpec : ChangeSpec := { name := "fabricSame", fn := fun _ => fun
  | [d1, d2, d3, d4] => { results := [.lit (.bool true)], args := [d1, d2, d3, d4] }
  | _ => none }
def fabricSameRow : OpenClaim := { program := "ytkeonnnhogaggaagreatdoor", sum := "398d3d9e2868c6b6d406229ce0677f56af80250a8009bc8977eb4cade5431576", func := "carrefour/carrefourlaw20.FabricSame", spec := "fabricSame", inPlace := ["internal/bytealg.Compare"], unfollowed := true, recurses := true, named := ["carrefour/head.widths"], plainKeys := false, apart := false, laid := [("carrefour/head.widths", laid_carrefour_head_widths)] }
def FabricSameSaid : Prop := fabricSameRow.holds Tryz.pinned (OpenSpec.ofChange fabricSameSpec)

/-- ITS FALSE NEIGHBOUR: 'it returns false'. Refute it at one input. -/
def fabricSameWrong : ChangeSpec := { name := "fabricSame", fn := fun _ => fun
  | [d1, d2, d3, d4] => { results := [.lit (.bool false)], args := [d1, d2, d3, d4] }
  | _ => none }
def FabricSameWrongFalsely : Prop := fabricSameRow.holds Tryz.pinned (OpenSpec.ofChange fabricSameWrong)

/-- 'carrefourlaw20.FabricDrops': WHATEVER THE INPUT: true; the input reads as it did. -/
def fabricDropsSpec : ChangeSpec := { name := "fabricDrops", fn := fun _ => fun
  | [d] => { results := [.lit (.bool true)], args := [d] }
  | _ => none }
def fabricDropsRow : OpenClaim := { program := "ytkeonnnhogaggaagreatdoor", sum := "398d3d9e2868c6b6d406229ce0677f56af80250a8009bc8977eb4cade5431576", func := "carrefour/carrefourlaw20.FabricDrops", spec := "fabricDrops", inPlace := ["internal/bytealg.Compare"], unfollowed := true, recurses := true, named := ["carrefour/head.widths"], plainKeys := false, apart := false, laid := [("carrefour/head.widths", laid_carrefour_head_widths)] }
def FabricDropsSaid : Prop := fabricDropsRow.holds Tryz.pinned (OpenSpec.ofChange fabricDropsSpec)

/-- ITS FALSE NEIGHBOUR: 'it returns false'. Refute it at one input. -/
def fabricDropsWrong : ChangeSpec := { name := "fabricDrops", fn := fun _ => fun
  | [d] => { results := [.lit (.bool false)], args := [d] }
  | _ => none }
def FabricDropsWrongFalsely : Prop := fabricDropsRow.holds Tryz.pinned (OpenSpec.ofChange fabricDropsWrong)

/-- 'carrefourlaw20.FabricPuts': WHATEVER THE INPUT: true; the input reads as it did. -/
def fabricPutsSpec : ChangeSpec := { name := "fabricPuts", fn := fun _ => fun
  | [d1, d2, d3, d4] => { results := [.lit (.bool true)], args := [d1, d2, d3, d4] }
  | _ => none }
def fabricPutsRow : OpenClaim := { program := "ytkeonnnhogaggaagreatdoor", sum := "398d3d9e2868c6b6d406229ce0677f56af80250a8009bc8977eb4cade5431576", func := "carrefour/carrefourlaw20.FabricPuts", spec := "fabricPuts", inPlace := ["internal/bytealg.Compare"], unfollowed := true, recurses := true, named := ["carrefour/head.widths"], plainKeys := false, apart := false, laid := [("carrefour/head.widths", laid_carrefour_head_widths)] }
def FabricPutsSaid : Prop := fabricPutsRow.holds Tryz.pinned (OpenSpec.ofChange fabricPutsSpec)

/-- ITS FALSE NEIGHBOUR: 'it returns false'. Refute it at one input. -/
def fabricPutsWrong : ChangeSpec := { name := "fabricPuts", fn := fun _ => fun
  | [d1, d2, d3, d4] => { results := [.lit (.bool false)], args := [d1, d2, d3, d4] }
  | _ => none }
def FabricPutsWrongFalsely : Prop := fabricPutsRow.holds Tryz.pinned (OpenSpec.ofChange fabricPutsWrong)

/-- 'carrefourlaw24.StageBest': WHATEVER THE INPUT: true; the input reads as it did. -/
def stageBestSpec : ChangeSpec := { name := "stageBest", fn := fun _ => fun
  | [d1, d2, d3] => { results := [.lit (.bool true)], args := [d1, d2, d3] }
  | _ => none }
def stageBestRow : OpenClaim := { program := "ytkeonnnhogaggaagreatdoor", sum := "398d3d9e2868c6b6d406229ce0677f56af80250a8009bc8977eb4cade5431576", func := "carrefour/carrefourlaw24.StageBest", spec := "stageBest", unfollowed := true, recurses := true, named := ["carrefour/head.widths"], plainKeys := false, apart := false, laid := [("carrefour/head.widths", laid_carrefour_head_widths)] }
def StageBestSaid : Prop := stageBestRow.holds Tryz.pinned (OpenSpec.ofChange stageBestSpec)

/-- ITS FALSE NEIGHBOUR: 'it returns false'. Refute it at one input. -/
def stageBestWrong : ChangeSpec := { name := "stageBest", fn := fun _ => fun
  | [d1, d2, d3] => { results := [.lit (.bool false)], args := [d1, d2, d3] }
  | _ => none }
def StageBestWrongFalsely : Prop := stageBestRow.holds Tryz.pinned (OpenSpec.ofChange stageBestWrong)

/-- 'carrefourlaw24.StageNone': WHATEVER THE INPUT: true; the input reads as it did. -/
def stageNoneSpec : ChangeSpec := { name := "stageNone", fn := fun _ => fun
  | [d1, d2, d3, d4] => { results := [.lit (.bool true)], args := [d1, d2, d3, d4] }
  | _ => none }
def stageNoneRow : OpenClaim := { program := "ytkeonnnhogaggaagreatdoor", sum := "398d3d9e2868c6b6d406229ce0677f56af80250a8009bc8977eb4cade5431576", func := "carrefour/carrefourlaw24.StageNone", spec := "stageNone", unfollowed := true, recurses := true, named := ["carrefour/head.widths"], plainKeys := false, apart := false, laid := [("carrefour/head.widths", laid_carrefour_head_widths)] }
def StageNoneSaid : Prop := stageNoneRow.holds Tryz.pinned (OpenSpec.ofChange stageNoneSpec)

/-- ITS FALSE NEIGHBOUR: 'it returns false'. Refute it at one input. -/
def stageNoneWrong : ChangeSpec := { name := "stageNone", fn := fun _ => fun
  | [d1, d2, d3, d4] => { results := [.lit (.bool false)], args := [d1, d2, d3, d4] }
  | _ => none }
def StageNoneWrongFalsely : Prop := stageNoneRow.holds Tryz.pinned (OpenSpec.ofChange stageNoneWrong)

/-- 'carrefourlaw24.StageChecks': WHATEVER THE INPUT: true; the input reads as it did. -/
def stageChecksSpec : ChangeSpec := { name := "stageChecks", fn := fun _ => fun
  | [d1, d2, d3] => { results := [.lit (.bool true)], args := [d1, d2, d3] }
  | _ => none }
def stageChecksRow : OpenClaim := { program := "ytkeonnnhogaggaagreatdoor", sum := "398d3d9e2868c6b6d406229ce0677f56af80250a8009bc8977eb4cade5431576", func := "carrefour/carrefourlaw24.StageChecks", spec := "stageChecks", unfollowed := true, recurses := true, named := ["carrefour/head.widths"], loops := true, plainKeys := false, apart := false, laid := [("carrefour/head.widths", laid_carrefour_head_widths)] }
def StageChecksSaid : Prop := stageChecksRow.holds Tryz.pinned (OpenSpec.ofChange stageChecksSpec)

/-- ITS FALSE NEIGHBOUR: 'it returns false'. Refute it at one input. -/
def stageChecksWrong : ChangeSpec := { name := "stageChecks", fn := fun _ => fun
  | [d1, d2, d3] => { results := [.lit (.bool false)], args := [d1, d2, d3] }
  | _ => none }
def StageChecksWrongFalsely : Prop := stageChecksRow.holds Tryz.pinned (OpenSpec.ofChange stageChecksWrong)

/- THE SECOND FORM. 'bulk': how many values and letters a reading holds, each counted each time it is reached (what is shared counts as often as it is met; a slice's spare places count too). A statement '..UptoSaid' is the law's where the arguments, and the package variables that the reading takes, are together of bulk at most 1048576: NARROWER than '..Said'. Prove '..Said' where nothing that the law and all that it calls make is longer than what came in: it says more and counts as full. Else prove '..UptoSaid'. A law counts once. -/
mutual
def uptoBulk {H : Type} : DataW H → Nat
  | .lit (.string bytes) => bytes.length + 1
  | .lit _ => 1
  | .nil => 1
  | .ptr d => uptoBulk d + 1
  | .slice elems spare => uptoBulkAll elems + uptoBulkAll spare + 1
  | .agg parts => uptoBulkAll parts + 1
  | .iface _ d => uptoBulk d + 1
  | .map entries => uptoBulkEntries entries + 1
  | .held _ => 1
def uptoBulkAll {H : Type} : List (DataW H) → Nat
  | [] => 0
  | d :: r => uptoBulk d + uptoBulkAll r
def uptoBulkEntries {H : Type} : List (Lit × DataW H) → Nat
  | [] => 0
  | x :: r => uptoBulkEntry x + uptoBulkEntries r
def uptoBulkEntry {H : Type} : Lit × DataW H → Nat
  | (.string bytes, d) => bytes.length + uptoBulk d + 1
  | (_, d) => uptoBulk d + 1
 end
def uptoSmall : (H : Type) → List (DataW H) → Bool := fun _ ds => decide (uptoBulkAll ds ≤ 1048576)
def OpenSpec.upto (s : _root_.Go.ChangeSpec) : _root_.Go.OpenSpec := { _root_.Go.OpenSpec.ofChange s with cond := some uptoSmall }

/-- 'carrefourlaw18.JoinWeighs', WHERE WHAT IT READS IS OF BULK AT MOST 1048576: true; the input reads as it did. -/
def joinWeighsUptoRow : OpenClaim := { program := "ytkeonnnhogaggaagreatdoor", sum := "398d3d9e2868c6b6d406229ce0677f56af80250a8009bc8977eb4cade5431576", func := "carrefour/carrefourlaw18.JoinWeighs", spec := "joinWeighs", unfollowed := true, recurses := true, named := ["carrefour/head.widths"], loops := true, plainKeys := false, apart := false, laid := [("carrefour/head.widths", laid_carrefour_head_widths)], narrowed := true }
def JoinWeighsUptoSaid : Prop := joinWeighsUptoRow.holds Tryz.pinned (OpenSpec.upto joinWeighsSpec)

/-- 'carrefourlaw20.FabricFrames', WHERE WHAT IT READS IS OF BULK AT MOST 1048576: true; the input reads as it did. -/
def fabricFramesUptoRow : OpenClaim := { program := "ytkeonnnhogaggaagreatdoor", sum := "398d3d9e2868c6b6d406229ce0677f56af80250a8009bc8977eb4cade5431576", func := "carrefour/carrefourlaw20.FabricFrames", spec := "fabricFrames", inPlace := ["internal/bytealg.Compare"], unfollowed := true, recurses := true, named := ["carrefour/head.widths"], plainKeys := false, apart := false, laid := [("carrefour/head.widths", laid_carrefour_head_widths)], narrowed := true }
def FabricFramesUptoSaid : Prop := fabricFramesUptoRow.holds Tryz.pinned (OpenSpec.upto fabricFramesSpec)

/-- 'carrefourlaw20.FabricSame', WHERE WHAT IT READS IS OF BULK AT MOST 1048576: true; the input reads as it did. -/
def fabricSameUptoRow : OpenClaim := { program := "ytkeonnnhogaggaagreatdoor", sum := "398d3d9e2868c6b6d406229ce0677f56af80250a8009bc8977eb4cade5431576", func := "carrefour/carrefourlaw20.FabricSame", spec := "fabricSame", inPlace := ["internal/bytealg.Compare"], unfollowed := true, recurses := true, named := ["carrefour/head.widths"], plainKeys := false, apart := false, laid := [("carrefour/head.widths", laid_carrefour_head_widths)], narrowed := true }
def FabricSameUptoSaid : Prop := fabricSameUptoRow.holds Tryz.pinned (OpenSpec.upto fabricSameSpec)

/-- 'carrefourlaw20.FabricDrops', WHERE WHAT IT READS IS OF BULK AT MOST 1048576: true; the input reads as it did. -/
def fabricDropsUptoRow : OpenClaim := { program := "ytkeonnnhogaggaagreatdoor", sum := "398d3d9e2868c6b6d406229ce0677f56af80250a8009bc8977eb4cade5431576", func := "carrefour/carrefourlaw20.FabricDrops", spec := "fabricDrops", inPlace := ["internal/bytealg.Compare"], unfollowed := true, recurses := true, named := ["carrefour/head.widths"], plainKeys := false, apart := false, laid := [("carrefour/head.widths", laid_carrefour_head_widths)], narrowed := true }
def FabricDropsUptoSaid : Prop := fabricDropsUptoRow.holds Tryz.pinned (OpenSpec.upto fabricDropsSpec)

/-- 'carrefourlaw20.FabricPuts', WHERE WHAT IT READS IS OF BULK AT MOST 1048576: true; the input reads as it did. -/
def fabricPutsUptoRow : OpenClaim := { program := "ytkeonnnhogaggaagreatdoor", sum := "398d3d9e2868c6b6d406229ce0677f56af80250a8009bc8977eb4cade5431576", func := "carrefour/carrefourlaw20.FabricPuts", spec := "fabricPuts", inPlace := ["internal/bytealg.Compare"], unfollowed := true, recurses := true, named := ["carrefour/head.widths"], plainKeys := false, apart := false, laid := [("carrefour/head.widths", laid_carrefour_head_widths)], narrowed := true }
def FabricPutsUptoSaid : Prop := fabricPutsUptoRow.holds Tryz.pinned (OpenSpec.upto fabricPutsSpec)

/-- 'carrefourlaw24.StageBest', WHERE WHAT IT READS IS OF BULK AT MOST 1048576: true; the input reads as it did. -/
def stageBestUptoRow : OpenClaim := { program := "ytkeonnnhogaggaagreatdoor", sum := "398d3d9e2868c6b6d406229ce0677f56af80250a8009bc8977eb4cade5431576", func := "carrefour/carrefourlaw24.StageBest", spec := "stageBest", unfollowed := true, recurses := true, named := ["carrefour/head.widths"], plainKeys := false, apart := false, laid := [("carrefour/head.widths", laid_carrefour_head_widths)], narrowed := true }
def StageBestUptoSaid : Prop := stageBestUptoRow.holds Tryz.pinned (OpenSpec.upto stageBestSpec)

/-- 'carrefourlaw24.StageNone', WHERE WHAT IT READS IS OF BULK AT MOST 1048576: true; the input reads as it did. -/
def stageNoneUptoRow : OpenClaim := { program := "ytkeonnnhogaggaagreatdoor", sum := "398d3d9e2868c6b6d406229ce0677f56af80250a8009bc8977eb4cade5431576", func := "carrefour/carrefourlaw24.StageNone", spec := "stageNone", unfollowed := true, recurses := true, named := ["carrefour/head.widths"], plainKeys := false, apart := false, laid := [("carrefour/head.widths", laid_carrefour_head_widths)], narrowed := true }
def StageNoneUptoSaid : Prop := stageNoneUptoRow.holds Tryz.pinned (OpenSpec.upto stageNoneSpec)

/-- 'carrefourlaw24.StageChecks', WHERE WHAT IT READS IS OF BULK AT MOST 1048576: true; the input reads as it did. -/
def stageChecksUptoRow : OpenClaim := { program := "ytkeonnnhogaggaagreatdoor", sum := "398d3d9e2868c6b6d406229ce0677f56af80250a8009bc8977eb4cade5431576", func := "carrefour/carrefourlaw24.StageChecks", spec := "stageChecks", unfollowed := true, recurses := true, named := ["carrefour/head.widths"], loops := true, plainKeys := false, apart := false, laid := [("carrefour/head.widths", laid_carrefour_head_widths)], narrowed := true }
def StageChecksUptoSaid : Prop := stageChecksUptoRow.holds Tryz.pinned (OpenSpec.upto stageChecksSpec)

end Rows
end Go.Proofs.YtkeonnnhogaggaaGreatDoor
