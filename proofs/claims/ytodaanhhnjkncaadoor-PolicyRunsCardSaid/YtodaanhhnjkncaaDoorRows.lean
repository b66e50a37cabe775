/-
  NARROWER THAN 'FOR EVERY INPUT', by the rows' own cells (each row's printed sentence says how): RulesActs: laid · PolicyRuns: loops, laid · PolicyLaws: loops, laid · PolicySets: laid · PolicyChecks: loops, laid · PolicyFilters: loops, laid · TableOrder: laid · TableFull: laid · TableTakes: laid.
  DERIVED. THE GIVEN ROWS OF THIS SEAT. 9 by the template 'for every input the law returns true; each argument reads behind the call as it read before'; 0 by the template 'total and deterministic' (their statements: YtodaanhhnjkncaaDoorTotals.lean).
  GIVEN WITH THE SEED: the statements are not yours to turn. If you find one false, say at which input.
  Laid BY PROGRAM, IN A SANDBOX (cutbox-rows.mjs): the forced cells as the released guide's own fill.sh prints them over the translation 1d428c8df0edb16a… (all of the seat's roots in one cut). By AI agents, Wed Nov 11 2026. No macro, syntax, notation, axiom, sorry.
-/
import Derived.Test.YtodaanhhnjkncaaDoorChecked
import GoSem.Claim
import GoSem.ClaimJoined
import GoSem.ClaimMapViews
import Derived.JoinedTies
import Derived.KernelRfl
namespace Go.Proofs.YtodaanhhnjkncaaDoor
/- THE CELL 'sum', in the pinned program and in every row, IS THE sha256 OF THE DUMP (.gsa) THAT YtodaanhhnjkncaaDoorProg.lean LOADS. Nothing in Lean hashes anything: it is a label: what it is worth is what the hold of that sum in a sandbox is worth. -/
noncomputable def Tryd.pinned : Pinned := { name := "ytodaanhhnjkncaadoor", sum := "1d428c8df0edb16a77c0c4330c906bf69226de4f7da258b1ee00f6f7024e7c02", checked := Tryd.checked }
namespace Rows
def none {H : Type} : Left H := { results := [], args := [] }

/- WHAT THE LISTED PACKAGE-LEVEL VARIABLES READ AS WHEN THE CALL BEGINS. Each datum BY PROGRAM (the guide's laid-datum.mjs) off the statement by which the dump's own 'gosem.cut.vars' lays the variable. In a bare row this is a premise. The card (YtodaanhhnjkncaaDoorCards.lean) ties it to the program's text. -/
def laid_carrefour_head_widths {H : Type} : DataW H := .agg [.lit (.int .i64 8), .lit (.int .i64 48), .lit (.int .i64 48), .lit (.int .i64 16), .lit (.int .i64 32), .lit (.int .i64 32), .lit (.int .i64 8), .lit (.int .i64 16), .lit (.int .i64 16)]

/-- 'carrefourlaw17.RulesActs': WHATEVER THE INPUT: true; the input reads as it did. -/
def rulesActsSpec : ChangeSpec := { name := "rulesActs", fn := fun _ => fun
  | [d1, d2, d3] => { results := [.lit (.bool true)], args := [d1, d2, d3] }
  | _ => none }
def rulesActsRow : OpenClaim := { program := "ytodaanhhnjkncaadoor", sum := "1d428c8df0edb16a77c0c4330c906bf69226de4f7da258b1ee00f6f7024e7c02", func := "carrefour/carrefourlaw17.RulesActs", spec := "rulesActs", unfollowed := true, recurses := true, named := ["carrefour/head.widths"], apart := false, laid := [("carrefour/head.widths", laid_carrefour_head_widths)] }
def RulesActsSaid : Prop := rulesActsRow.holds Tryd.pinned (OpenSpec.ofChange rulesActsSpec)

/-- ITS FALSE NEIGHBOUR: 'it returns false'. Refute it at one input. -/
def rulesActsWrong : ChangeSpec := { name := "rulesActs", fn := fun _ => fun
  | [d1, d2, d3] => { results := [.lit (.bool false)], args := [d1, d2, d3] }
  | _ => none }
def RulesActsWrongFalsely : Prop := rulesActsRow.holds Tryd.pinned (OpenSpec.ofChange rulesActsWrong)

/-- 'carrefourlaw16.PolicyRuns': WHATEVER THE INPUT: true; the input reads as it did. -/
def policyRunsSpec : ChangeSpec := { name := "policyRuns", fn := fun _ => fun
  | [d1, d2] => { results := [.lit (.bool true)], args := [d1, d2] }
  | _ => none }
def policyRunsRow : OpenClaim := { program := "ytodaanhhnjkncaadoor", sum := "1d428c8df0edb16a77c0c4330c906bf69226de4f7da258b1ee00f6f7024e7c02", func := "carrefour/carrefourlaw16.PolicyRuns", spec := "policyRuns", unfollowed := true, recurses := true, named := ["carrefour/head.widths"], loops := true, apart := false, laid := [("carrefour/head.widths", laid_carrefour_head_widths)] }
def PolicyRunsSaid : Prop := policyRunsRow.holds Tryd.pinned (OpenSpec.ofChange policyRunsSpec)

/-- ITS FALSE NEIGHBOUR: 'it returns false'. Refute it at one input. -/
def policyRunsWrong : ChangeSpec := { name := "policyRuns", fn := fun _ => fun
  | [d1, d2] => { results := [.lit (.bool false)], args := [d1, d2] }
  | _ => none }
def PolicyRunsWrongFalsely : Prop := policyRunsRow.holds Tryd.pinned (OpenSpec.ofChange policyRunsWrong)

/-- 'carrefourlaw16.PolicyLaws': WHATEVER THE INPUT: true; the input reads as it did. -/
def policyLawsSpec : ChangeSpec := { name := "policyLaws", fn := fun _ => fun
  | [d1, d2, d3, d4] => { results := [.lit (.bool true)], args := [d1, d2, d3, d4] }
  | _ => none }
def policyLawsRow : OpenClaim := { program := "ytodaanhhnjkncaadoor", sum := "1d428c8df0edb16a77c0c4330c906bf69226de4f7da258b1ee00f6f7024e7c02", func := "carrefour/carrefourlaw16.PolicyLaws", spec := "policyLaws", unfollowed := true, recurses := true, named := ["carrefour/head.widths"], loops := true, apart := false, laid := [("carrefour/head.widths", laid_carrefour_head_widths)] }
def PolicyLawsSaid : Prop := policyLawsRow.holds Tryd.pinned (OpenSpec.ofChange policyLawsSpec)

/-- ITS FALSE NEIGHBOUR: 'it returns false'. Refute it at one input. -/
def policyLawsWrong : ChangeSpec := { name := "policyLaws", fn := fun _ => fun
  | [d1, d2, d3, d4] => { results := [.lit (.bool false)], args := [d1, d2, d3, d4] }
  | _ => none }
def PolicyLawsWrongFalsely : Prop := policyLawsRow.holds Tryd.pinned (OpenSpec.ofChange policyLawsWrong)

/-- 'carrefourlaw16.PolicySets': WHATEVER THE INPUT: true; the input reads as it did. -/
def policySetsSpec : ChangeSpec := { name := "policySets", fn := fun _ => fun
  | [d1, d2, d3, d4, d5] => { results := [.lit (.bool true)], args := [d1, d2, d3, d4, d5] }
  | _ => none }
def policySetsRow : OpenClaim := { program := "ytodaanhhnjkncaadoor", sum := "1d428c8df0edb16a77c0c4330c906bf69226de4f7da258b1ee00f6f7024e7c02", func := "carrefour/carrefourlaw16.PolicySets", spec := "policySets", unfollowed := true, recurses := true, named := ["carrefour/head.widths"], apart := false, laid := [("carrefour/head.widths", laid_carrefour_head_widths)] }
def PolicySetsSaid : Prop := policySetsRow.holds Tryd.pinned (OpenSpec.ofChange policySetsSpec)

/-- ITS FALSE NEIGHBOUR: 'it returns false'. Refute it at one input. -/
def policySetsWrong : ChangeSpec := { name := "policySets", fn := fun _ => fun
  | [d1, d2, d3, d4, d5] => { results := [.lit (.bool false)], args := [d1, d2, d3, d4, d5] }
  | _ => none }
def PolicySetsWrongFalsely : Prop := policySetsRow.holds Tryd.pinned (OpenSpec.ofChange policySetsWrong)

/-- 'carrefourlaw16.PolicyChecks': WHATEVER THE INPUT: true; the input reads as it did. -/
def policyChecksSpec : ChangeSpec := { name := "policyChecks", fn := fun _ => fun
  | [d] => { results := [.lit (.bool true)], args := [d] }
  | _ => none }
def policyChecksRow : OpenClaim := { program := "ytodaanhhnjkncaadoor", sum := "1d428c8df0edb16a77c0c4330c906bf69226de4f7da258b1ee00f6f7024e7c02", func := "carrefour/carrefourlaw16.PolicyChecks", spec := "policyChecks", unfollowed := true, recurses := true, named := ["carrefour/head.widths"], loops := true, apart := false, laid := [("carrefour/head.widths", laid_carrefour_head_widths)] }
def PolicyChecksSaid : Prop := policyChecksRow.holds Tryd.pinned (OpenSpec.ofChange policyChecksSpec)

/-- ITS FALSE NEIGHBOUR: 'it returns false'. Refute it at one input. -/
def policyChecksWrong : ChangeSpec := { name := "policyChecks", fn := fun _ => fun
  | [d] => { results := [.lit (.bool false)], args := [d] }
  | _ => none }
def PolicyChecksWrongFalsely : Prop := policyChecksRow.holds Tryd.pinned (OpenSpec.ofChange policyChecksWrong)

/-- 'carrefourlaw16.PolicyFilters': WHATEVER THE INPUT: true; the input reads as it did. -/
def policyFiltersSpec : ChangeSpec := { name := "policyFilters", fn := fun _ => fun
  | [d1, d2, d3, d4] => { results := [.lit (.bool true)], args := [d1, d2, d3, d4] }
  | _ => none }
def policyFiltersRow : OpenClaim := { program := "ytodaanhhnjkncaadoor", sum := "1d428c8df0edb16a77c0c4330c906bf69226de4f7da258b1ee00f6f7024e7c02", func := "carrefour/carrefourlaw16.PolicyFilters", spec := "policyFilters", unfollowed := true, recurses := true, named := ["carrefour/head.widths"], loops := true, apart := false, laid := [("carrefour/head.widths", laid_carrefour_head_widths)] }
def PolicyFiltersSaid : Prop := policyFiltersRow.holds Tryd.pinned (OpenSpec.ofChange policyFiltersSpec)

/-- ITS FALSE NEIGHBOUR: 'it returns false'. Refute it at one input. -/
def policyFiltersWrong : ChangeSpec := { name := "policyFilters", fn := fun _ => fun
  | [d1, d2, d3, d4] => { results := [.lit (.bool false)], args := [d1, d2, d3, d4] }
  | _ => none }
def PolicyFiltersWrongFalsely : Prop := policyFiltersRow.holds Tryd.pinned (OpenSpec.ofChange policyFiltersWrong)

/-- 'carrefourlaw19.TableOrder': WHATEVER THE INPUT: true; the input reads as it did. -/
def tableOrderSpec : ChangeSpec := { name := "tableOrder", fn := fun _ => fun
  | [d1, d2] => { results := [.lit (.bool true)], args := [d1, d2] }
  | _ => none }
def tableOrderRow : OpenClaim := { program := "ytodaanhhnjkncaadoor", sum := "1d428c8df0edb16a77c0c4330c906bf69226de4f7da258b1ee00f6f7024e7c02", func := "carrefour/carrefourlaw19.TableOrder", spec := "tableOrder", unfollowed := true, recurses := true, named := ["carrefour/head.widths"], apart := false, laid := [("carrefour/head.widths", laid_carrefour_head_widths)] }
def TableOrderSaid : Prop := tableOrderRow.holds Tryd.pinned (OpenSpec.ofChange tableOrderSpec)

/-- ITS FALSE NEIGHBOUR: 'it returns false'. Refute it at one input. -/
def tableOrderWrong : ChangeSpec := { name := "tableOrder", fn := fun _ => fun
  | [d1, d2] => { results := [.lit (.bool false)], args := [d1, d2] }
  | _ => none }
def TableOrderWrongFalsely : Prop := tableOrderRow.holds Tryd.pinned (OpenSpec.ofChange tableOrderWrong)

/-- 'carrefourlaw19.TableFull': WHATEVER THE INPUT: true; the input reads as it did. -/
def tableFullSpec : ChangeSpec := { name := "tableFull", fn := fun _ => fun
  | [d] => { results := [.lit (.bool true)], args := [d] }
  | _ => none }
def tableFullRow : OpenClaim := { program := "ytodaanhhnjkncaadoor", sum := "1d428c8df0edb16a77c0c4330c906bf69226de4f7da258b1ee00f6f7024e7c02", func := "carrefour/carrefourlaw19.TableFull", spec := "tableFull", unfollowed := true, recurses := true, named := ["carrefour/head.widths"], apart := false, laid := [("carrefour/head.widths", laid_carrefour_head_widths)] }
def TableFullSaid : Prop := tableFullRow.holds Tryd.pinned (OpenSpec.ofChange tableFullSpec)

/-- ITS FALSE NEIGHBOUR: 'it returns false'. Refute it at one input. -/
def tableFullWrong : ChangeSpec := { name := "tableFull", fn := fun _ => fun
  | [d] => { results := [.lit (.bool false)], args := [d] }
  | _ => none }
def TableFullWrongFalsely : Prop := tableFullRow.holds Tryd.pinned (OpenSpec.ofChange tableFullWrong)

/-- 'carrefourlaw19.TableTakes': WHATEVER THE INPUT: true; the input reads as it did. -/
def tableTakesSpec : ChangeSpec := { name := "tableTakes", fn := fun _ => fun
  | [d1, d2, d3] => { results := [.lit (.bool true)], args := [d1, d2, d3] }
  | _ => none }
def tableTakesRow : OpenClaim := { program := "ytodaanhhnjkncaadoor", sum := "1d428c8df0edb16a77c0c4330c906bf69226de4f7da258b1ee00f6f7024e7c02", func := "carrefour/carrefourlaw19.TableTakes", spec := "tableTakes", unfollowed := true, recurses := true, named := ["carrefour/head.widths"], apart := false, laid := [("carrefour/head.widths", laid_carrefour_head_widths)] }
def TableTakesSaid : Prop := tableTakesRow.holds Tryd.pinned (OpenSpec.ofChange tableTakesSpec)

/-- ITS FALSE NEIGHBOUR: 'it returns false'. Refute it at one input. -/
def tableTakesWrong : ChangeSpec := { name := "tableTakes", fn := fun _ => fun
  | [d1, d2, d3] => { results := [.lit (.bool false)], args := [d1, d2, d3] }
  | _ => none }
def TableTakesWrongFalsely : Prop := tableTakesRow.holds Tryd.pinned (OpenSpec.ofChange tableTakesWrong)

/- THE SECOND FORM. 'bulk': how many values and letters a reading holds, each counted each time it is reached (what is shared counts as often as it is met; a slice's spare places count too). A statement '..UptoSaid' is the law's where the arguments, and the package variables that the reading takes, are together of bulk at most 1048576: NARROWER than '..Said'. Prove '..Said' where nothing that the law and all that it calls make is longer than what came in: it says more and counts as full. Else prove '..UptoSaid'. A law counts once. -/
mutual
def uptoBulk {H : Type} : DataW H → Nat
  | .lit (.string bytes) => bytes.length + 1
  | .lit _ => 1
  | .nil => 1
  | .ptr d => uptoBulk d + 1
  | .slice elems spare => uptoBulkAll elems + uptoBulkAll spare + 1
  | .agg parts => uptoBulkAll parts + 1
  | .iface _ d => uptoBulk d + 1
  | .map entries => uptoBulkEntries entries + 1
  | .held _ => 1
def uptoBulkAll {H : Type} : List (DataW H) → Nat
  | [] => 0
  | d :: r => uptoBulk d + uptoBulkAll r
def uptoBulkEntries {H : Type} : List (Lit × DataW H) → Nat
  | [] => 0
  | x :: r => uptoBulkEntry x + uptoBulkEntries r
def uptoBulkEntry {H : Type} : Lit × DataW H → Nat
  | (.string bytes, d) => bytes.length + uptoBulk d + 1
  | (_, d) => uptoBulk d + 1
 end
def uptoSmall : (H : Type) → List (DataW H) → Bool := fun _ ds => decide (uptoBulkAll ds ≤ 1048576)
def OpenSpec.upto (s : _root_.Go.ChangeSpec) : _root_.Go.OpenSpec := { _root_.Go.OpenSpec.ofChange s with cond := some uptoSmall }

/-- 'carrefourlaw17.RulesActs', WHERE WHAT IT READS IS OF BULK AT MOST 1048576: true; the input reads as it did. -/
def rulesActsUptoRow : OpenClaim := { program := "ytodaanhhnjkncaadoor", sum := "1d428c8df0edb16a77c0c4330c906bf69226de4f7da258b1ee00f6f7024e7c02", func := "carrefour/carrefourlaw17.RulesActs", spec := "rulesActs", unfollowed := true, recurses := true, named := ["carrefour/head.widths"], apart := false, laid := [("carrefour/head.widths", laid_carrefour_head_widths)], narrowed := true }
def RulesActsUptoSaid : Prop := rulesActsUptoRow.holds Tryd.pinned (OpenSpec.upto rulesActsSpec)

/-- 'carrefourlaw16.PolicyRuns', WHERE WHAT IT READS IS OF BULK AT MOST 1048576: true; the input reads as it did. -/
def policyRunsUptoRow : OpenClaim := { program := "ytodaanhhnjkncaadoor", sum := "1d428c8df0edb16a77c0c4330c906bf69226de4f7da258b1ee00f6f7024e7c02", func := "carrefour/carrefourlaw16.PolicyRuns", spec := "policyRuns", unfollowed := true, recurses := true, named := ["carrefour/head.widths"], loops := true, apart := false, laid := [("carrefour/head.widths", laid_carrefour_head_widths)], narrowed := true }
def PolicyRunsUptoSaid : Prop := policyRunsUptoRow.holds Tryd.pinned (OpenSpec.upto policyRunsSpec)

/-- 'carrefourlaw16.PolicyLaws', WHERE WHAT IT READS IS OF BULK AT MOST 1048576: true; the input reads as it did. -/
def policyLawsUptoRow : OpenClaim := { program := "ytodaanhhnjkncaadoor", sum := "1d428c8df0edb16a77c0c4330c906bf69226de4f7da258b1ee00f6f7024e7c02", func := "carrefour/carrefourlaw16.PolicyLaws", spec := "policyLaws", unfollowed := true, recurses := true, named := ["carrefour/head.widths"], loops := true, apart := false, laid := [("carrefour/head.widths", laid_carrefour_head_widths)], narrowed := true }
def PolicyLawsUptoSaid : Prop := policyLawsUptoRow.holds Tryd.pinned (OpenSpec.upto policyLawsSpec)

/-- 'carrefourlaw16.PolicySets', WHERE WHAT IT READS IS OF BULK AT MOST 1048576: true; the input reads as it did. -/
def policySetsUptoRow : OpenClaim := { program := "ytodaanhhnjkncaadoor", sum := "1d428c8df0edb16a77c0c4330c906bf69226de4f7da258b1ee00f6f7024e7c02", func := "carrefour/carrefourlaw16.PolicySets", spec := "policySets", unfollowed := true, recurses := true, named := ["carrefour/head.widths"], apart := false, laid := [("carrefour/head.widths", laid_carrefour_head_widths)], narrowed := true }
def PolicySetsUptoSaid : Prop := policySetsUptoRow.holds Tryd.pinned (OpenSpec.upto policySetsSpec)

/-- 'carrefourlaw16.PolicyChecks', WHERE WHAT IT READS IS OF BULK AT MOST 1048576: true; the input reads as it did. -/
def policyChecksUptoRow : OpenClaim := { program := "ytodaanhhnjkncaadoor", sum := "1d428c8df0edb16a77c0c4330c906bf69226de4f7da258b1ee00f6f7024e7c02", func := "carrefour/carrefourlaw16.PolicyChecks", spec := "policyChecks", unfollowed := true, recurses := true, named := ["carrefour/head.widths"], loops := true, apart := false, laid := [("carrefour/head.widths", laid_carrefour_head_widths)], narrowed := true }
def PolicyChecksUptoSaid : Prop := policyChecksUptoRow.holds Tryd.pinned (OpenSpec.upto policyChecksSpec)

/-- 'carrefourlaw16.PolicyFilters', WHERE WHAT IT READS IS OF BULK AT MOST 1048576: true; the input reads as it did. -/
def policyFiltersUptoRow : OpenClaim := { program := "ytodaanhhnjkncaadoor", sum := "1d428c8df0edb16a77c0c4330c906bf69226de4f7da258b1ee00f6f7024e7c02", func := "carrefour/carrefourlaw16.PolicyFilters", spec := "policyFilters", unfollowed := true, recurses := true, named := ["carrefour/head.widths"], loops := true, apart := false, laid := [("carrefour/head.widths", laid_carrefour_head_widths)], narrowed := true }
def PolicyFiltersUptoSaid : Prop := policyFiltersUptoRow.holds Tryd.pinned (OpenSpec.upto policyFiltersSpec)

/-- 'carrefourlaw19.TableOrder', WHERE WHAT IT READS IS OF BULK AT MOST 1048576: true; the input reads as it did. -/
def tableOrderUptoRow : OpenClaim := { program := "ytodaanhhnjkncaadoor", sum := "1d428c8df0edb16a77c0c4330c906bf69226de4f7da258b1ee00f6f7024e7c02", func := "carrefour/carrefourlaw19.TableOrder", spec := "tableOrder", unfollowed := true, recurses := true, named := ["carrefour/head.widths"], apart := false, laid := [("carrefour/head.widths", laid_carrefour_head_widths)], narrowed := true }
def TableOrderUptoSaid : Prop := tableOrderUptoRow.holds Tryd.pinned (OpenSpec.upto tableOrderSpec)

/-- 'carrefourlaw19.TableFull', WHERE WHAT IT READS IS OF BULK AT MOST 1048576: true; the input reads as it did. -/
def tableFullUptoRow : OpenClaim := { program := "ytodaanhhnjkncaadoor", sum := "1d428c8df0edb16a77c0c4330c906bf69226de4f7da258b1ee00f6f7024e7c02", func := "carrefour/carrefourlaw19.TableFull", spec := "tableFull", unfollowed := true, recurses := true, named := ["carrefour/head.widths"], apart := false, laid := [("carrefour/head.widths", laid_carrefour_head_widths)], narrowed := true }
def TableFullUptoSaid : Prop := tableFullUptoRow.holds Tryd.pinned (OpenSpec.upto tableFullSpec)

/-- 'carrefourlaw19.TableTakes', WHERE WHAT IT READS IS OF BULK AT MOST 1048576: true; the input reads as it did. -/
def tableTakesUptoRow : OpenClaim := { program := "ytodaanhhnjkncaadoor", sum := "1d428c8df0edb16a77c0c4330c906bf69226de4f7da258b1ee00f6f7024e7c02", func := "carrefour/carrefourlaw19.TableTakes", spec := "tableTakes", unfollowed := true, recurses := true, named := ["carrefour/head.widths"], apart := false, laid := [("carrefour/head.widths", laid_carrefour_head_widths)], narrowed := true }
def TableTakesUptoSaid : Prop := tableTakesUptoRow.holds Tryd.pinned (OpenSpec.upto tableTakesSpec)

end Rows
end Go.Proofs.YtodaanhhnjkncaaDoor
