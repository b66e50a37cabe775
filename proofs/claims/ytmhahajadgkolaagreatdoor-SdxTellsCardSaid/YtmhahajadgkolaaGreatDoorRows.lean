/-
  NARROWER THAN 'FOR EVERY INPUT', by the rows' own cells (each row's printed sentence says how): SdxWants: loops, laid · SdxTells: loops, laid · SdxForms: laid · SdxFrames: loops, laid.
  DERIVED. THE GIVEN ROWS OF THIS SEAT. 4 by the template 'for every input the law returns true; each argument reads behind the call as it read before'; 0 by the template 'total and deterministic' (their statements: YtmhahajadgkolaaGreatDoorTotals.lean).
  GIVEN WITH THE SEED: the statements are not yours to turn. If you find one false, say at which input.
  Laid BY PROGRAM, IN A SANDBOX (cutbox-rows.mjs): the forced cells as the released guide's own fill.sh prints them over the translation 3918130feff85baf… (all of the seat's roots in one cut). By AI agents, Wed Nov 11 2026. No macro, syntax, notation, axiom, sorry.
-/
import Derived.Test.YtmhahajadgkolaaGreatDoorChecked
import GoSem.Claim
import GoSem.ClaimJoined
import GoSem.ClaimMapViews
import Derived.JoinedTies
import Derived.KernelRfl
namespace Go.Proofs.YtmhahajadgkolaaGreatDoor
/- THE CELL 'sum', in the pinned program and in every row, IS THE sha256 OF THE DUMP (.gsa) THAT YtmhahajadgkolaaGreatDoorProg.lean LOADS. Nothing in Lean hashes anything: it is a label: what it is worth is what the hold of that sum in a sandbox is worth. -/
noncomputable def Tryz.pinned : Pinned := { name := "ytmhahajadgkolaagreatdoor", sum := "3918130feff85baf618ab884ba7e7b39cc6e69c4492e99f3d7a51a0095263e8c", checked := Tryz.checked }
namespace Rows
def none {H : Type} : Left H := { results := [], args := [] }

/- WHAT THE LISTED PACKAGE-LEVEL VARIABLES READ AS WHEN THE CALL BEGINS. Each datum BY PROGRAM (the guide's laid-datum.mjs) off the statement by which the dump's own 'gosem.cut.vars' lays the variable. In a bare row this is a premise. The card (YtmhahajadgkolaaGreatDoorCards.lean) ties it to the program's text. -/
def laid_carrefour_head_widths {H : Type} : DataW H := .agg [.lit (.int .i64 8), .lit (.int .i64 48), .lit (.int .i64 48), .lit (.int .i64 16), .lit (.int .i64 32), .lit (.int .i64 32), .lit (.int .i64 8), .lit (.int .i64 16), .lit (.int .i64 16)]

/-- 'carrefourlaw25.SdxWants': WHATEVER THE INPUT: true; the input reads as it did. -/
def sdxWantsSpec : ChangeSpec := { name := "sdxWants", fn := fun _ => fun
  | [d1, d2, d3, d4] => { results := [.lit (.bool true)], args := [d1, d2, d3, d4] }
  | _ => none }
def sdxWantsRow : OpenClaim := { program := "ytmhahajadgkolaagreatdoor", sum := "3918130feff85baf618ab884ba7e7b39cc6e69c4492e99f3d7a51a0095263e8c", func := "carrefour/carrefourlaw25.SdxWants", spec := "sdxWants", inPlace := ["internal/bytealg.Compare"], unfollowed := true, recurses := true, named := ["carrefour/head.widths"], loops := true, plainKeys := false, apart := false, laid := [("carrefour/head.widths", laid_carrefour_head_widths)] }
def SdxWantsSaid : Prop := sdxWantsRow.holds Tryz.pinned (OpenSpec.ofChange sdxWantsSpec)

/-- ITS FALSE NEIGHBOUR: 'it returns false'. Refute it at one input. -/
def sdxWantsWrong : ChangeSpec := { name := "sdxWants", fn := fun _ => fun
  | [d1, d2, d3, d4] => { results := [.lit (.bool false)], args := [d1, d2, d3, d4] }
  | _ => none }
def SdxWantsWrongFalsely : Prop := sdxWantsRow.holds Tryz.pinned (OpenSpec.ofChange sdxWantsWrong)

/-- 'carrefourlaw25.SdxTells': WHATEVER THE INPUT: true; the input reads as it did. -/
def sdxTellsSpec : ChangeSpec := { name := "sdxTells", fn := fun _ => fun
  | [d1, d2, d3] => { results := [.lit (.bool true)], args := [d1, d2, d3] }
  | _ => none }
def sdxTellsRow : OpenClaim := { program := "ytmhahajadgkolaagreatdoor", sum := "3918130feff85baf618ab884ba7e7b39cc6e69c4492e99f3d7a51a0095263e8c", func := "carrefour/carrefourlaw25.SdxTells", spec := "sdxTells", inPlace := ["internal/bytealg.Compare"], unfollowed := true, recurses := true, named := ["carrefour/head.widths"], loops := true, plainKeys := false, apart := false, laid := [("carrefour/head.widths", laid_carrefour_head_widths)] }
def SdxTellsSaid : Prop := sdxTellsRow.holds Tryz.pinned (OpenSpec.ofChange sdxTellsSpec)

/-- ITS FALSE NEIGHBOUR: 'it returns false'. Refute it at one input. -/
def sdxTellsWrong : ChangeSpec := { name := "sdxTells", fn := fun _ => fun
  | [d1, d2, d3] => { results := [.lit (.bool false)], args := [d1, d2, d3] }
  | _ => none }
def SdxTellsWrongFalsely : Prop := sdxTellsRow.holds Tryz.pinned (OpenSpec.ofChange sdxTellsWrong)

/-- 'carrefourlaw25.SdxForms': WHATEVER THE INPUT: true; the input reads as it did. -/
def sdxFormsSpec : ChangeSpec := { name := "sdxForms", fn := fun _ => fun
  | [d1, d2] => { results := [.lit (.bool true)], args := [d1, d2] }
  | _ => none }
def sdxFormsRow : OpenClaim := { program := "ytmhahajadgkolaagreatdoor", sum := "3918130feff85baf618ab884ba7e7b39cc6e69c4492e99f3d7a51a0095263e8c", func := "carrefour/carrefourlaw25.SdxForms", spec := "sdxForms", inPlace := ["internal/bytealg.Compare"], unfollowed := true, recurses := true, named := ["carrefour/head.widths"], plainKeys := false, apart := false, laid := [("carrefour/head.widths", laid_carrefour_head_widths)] }
def SdxFormsSaid : Prop := sdxFormsRow.holds Tryz.pinned (OpenSpec.ofChange sdxFormsSpec)

/-- ITS FALSE NEIGHBOUR: 'it returns false'. Refute it at one input. -/
def sdxFormsWrong : ChangeSpec := { name := "sdxForms", fn := fun _ => fun
  | [d1, d2] => { results := [.lit (.bool false)], args := [d1, d2] }
  | _ => none }
def SdxFormsWrongFalsely : Prop := sdxFormsRow.holds Tryz.pinned (OpenSpec.ofChange sdxFormsWrong)

/-- 'carrefourlaw25.SdxFrames': WHATEVER THE INPUT: true; the input reads as it did. -/
def sdxFramesSpec : ChangeSpec := { name := "sdxFrames", fn := fun _ => fun
  | [d1, d2, d3, d4, d5] => { results := [.lit (.bool true)], args := [d1, d2, d3, d4, d5] }
  | _ => none }
def sdxFramesRow : OpenClaim := { program := "ytmhahajadgkolaagreatdoor", sum := "3918130feff85baf618ab884ba7e7b39cc6e69c4492e99f3d7a51a0095263e8c", func := "carrefour/carrefourlaw25.SdxFrames", spec := "sdxFrames", inPlace := ["internal/bytealg.Compare"], unfollowed := true, recurses := true, named := ["carrefour/head.widths"], loops := true, plainKeys := false, apart := false, laid := [("carrefour/head.widths", laid_carrefour_head_widths)] }
def SdxFramesSaid : Prop := sdxFramesRow.holds Tryz.pinned (OpenSpec.ofChange sdxFramesSpec)

/-- ITS FALSE NEIGHBOUR: 'it returns false'. Refute it at one input. -/
def sdxFramesWrong : ChangeSpec := { name := "sdxFrames", fn := fun _ => fun
  | [d1, d2, d3, d4, d5] => { results := [.lit (.bool false)], args := [d1, d2, d3, d4, d5] }
  | _ => none }
def SdxFramesWrongFalsely : Prop := sdxFramesRow.holds Tryz.pinned (OpenSpec.ofChange sdxFramesWrong)

/- THE SECOND FORM. 'bulk': how many values and letters a reading holds, each counted each time it is reached (what is shared counts as often as it is met; a slice's spare places count too). A statement '..UptoSaid' is the law's where the arguments, and the package variables that the reading takes, are together of bulk at most 1048576: NARROWER than '..Said'. Prove '..Said' where nothing that the law and all that it calls make is longer than what came in: it says more and counts as full. Else prove '..UptoSaid'. A law counts once. -/
mutual
def uptoBulk {H : Type} : DataW H → Nat
  | .lit (.string bytes) => bytes.length + 1
  | .lit _ => 1
  | .nil => 1
  | .ptr d => uptoBulk d + 1
  | .slice elems spare => uptoBulkAll elems + uptoBulkAll spare + 1
  | .agg parts => uptoBulkAll parts + 1
  | .iface _ d => uptoBulk d + 1
  | .map entries => uptoBulkEntries entries + 1
  | .held _ => 1
def uptoBulkAll {H : Type} : List (DataW H) → Nat
  | [] => 0
  | d :: r => uptoBulk d + uptoBulkAll r
def uptoBulkEntries {H : Type} : List (Lit × DataW H) → Nat
  | [] => 0
  | x :: r => uptoBulkEntry x + uptoBulkEntries r
def uptoBulkEntry {H : Type} : Lit × DataW H → Nat
  | (.string bytes, d) => bytes.length + uptoBulk d + 1
  | (_, d) => uptoBulk d + 1
 end
def uptoSmall : (H : Type) → List (DataW H) → Bool := fun _ ds => decide (uptoBulkAll ds ≤ 1048576)
def OpenSpec.upto (s : _root_.Go.ChangeSpec) : _root_.Go.OpenSpec := { _root_.Go.OpenSpec.ofChange s with cond := some uptoSmall }

/-- 'carrefourlaw25.SdxWants', WHERE WHAT IT READS IS OF BULK AT MOST 1048576: true; the input reads as it did. -/
def sdxWantsUptoRow : OpenClaim := { program := "ytmhahajadgkolaagreatdoor", sum := "3918130feff85baf618ab884ba7e7b39cc6e69c4492e99f3d7a51a0095263e8c", func := "carrefour/carrefourlaw25.SdxWants", spec := "sdxWants", inPlace := ["internal/bytealg.Compare"], unfollowed := true, recurses := true, named := ["carrefour/head.widths"], loops := true, plainKeys := false, apart := false, laid := [("carrefour/head.widths", laid_carrefour_head_widths)], narrowed := true }
def SdxWantsUptoSaid : Prop := sdxWantsUptoRow.holds Tryz.pinned (OpenSpec.upto sdxWantsSpec)

/-- 'carrefourlaw25.SdxTells', WHERE WHAT IT READS IS OF BULK AT MOST 1048576: true; the input reads as it did. -/
def sdxTellsUptoRow : OpenClaim := { program := "ytmhahajadgkolaagreatdoor", sum := "3918130feff85baf618ab884ba7e7b39cc6e69c4492e99f3d7a51a0095263e8c", func := "carrefour/carrefourlaw25.SdxTells", spec := "sdxTells", inPlace := ["internal/bytealg.Compare"], unfollowed := true, recurses := true, named := ["carrefour/head.widths"], loops := true, plainKeys := false, apart := false, laid := [("carrefour/head.widths", laid_carrefour_head_widths)], narrowed := true }
def SdxTellsUptoSaid : Prop := sdxTellsUptoRow.holds Tryz.pinned (OpenSpec.upto sdxTellsSpec)

/-- 'carrefourlaw25.SdxForms', WHERE WHAT IT READS IS OF BULK AT MOST 1048576: true; the input reads as it did. -/
def sdxFormsUptoRow : OpenClaim := { program := "ytmhahajadgkolaagreatdoor", sum := "3918130feff85baf618ab884ba7e7b39cc6e69c4492e99f3d7a51a0095263e8c", func := "carrefour/carrefourlaw25.SdxForms", spec := "sdxForms", inPlace := ["internal/bytealg.Compare"], unfollowed := true, recurses := true, named := ["carrefour/head.widths"], plainKeys := false, apart := false, laid := [("carrefour/head.widths", laid_carrefour_head_widths)], narrowed := true }
def SdxFormsUptoSaid : Prop := sdxFormsUptoRow.holds Tryz.pinned (OpenSpec.upto sdxFormsSpec)

/-- 'carrefourlaw25.SdxFrames', WHERE WHAT IT READS IS OF BULK AT MOST 1048576: true; the input reads as it did. -/
def sdxFramesUptoRow : OpenClaim := { program := "ytmhahajadgkolaagreatdoor", sum := "3918130feff85baf618ab884ba7e7b39cc6e69c4492e99f3d7a51a0095263e8c", func := "carrefour/carrefourlaw25.SdxFrames", spec := "sdxFrames", inPlace := ["internal/bytealg.Compare"], unfollowed := true, recurses := true, named := ["carrefour/head.widths"], loops := true, plainKeys := false, apart := false, laid := [("carrefour/head.widths", laid_carrefour_head_widths)], narrowed := true }
def SdxFramesUptoSaid : Prop := sdxFramesUptoRow.holds Tryz.pinned (OpenSpec.upto sdxFramesSpec)

end Rows
end Go.Proofs.YtmhahajadgkolaaGreatDoor
