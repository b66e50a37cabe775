/-
  NARROWER THAN 'FOR EVERY INPUT', by the rows' own cells (each row's printed sentence says how): TableOrder: laid · TableFull: laid · TableTakes: laid.
  DERIVED. THE GIVEN ROWS OF THIS SEAT. 3 by the template 'for every input the law returns true; each argument reads behind the call as it read before'; 0 by the template 'total and deterministic' (their statements: YtkeonnnhogaggaaDoorTotals.lean).
  GIVEN WITH THE SEED: the statements are not yours to turn. If you find one false, say at which input.
  Laid BY PROGRAM, IN A SANDBOX (cutbox-rows.mjs): the forced cells as the released guide's own fill.sh prints them over the translation d6b5883a464f1715… (all of the seat's roots in one cut). By AI agents, Wed Nov 11 2026. No macro, syntax, notation, axiom, sorry.
-/
import Derived.Test.YtkeonnnhogaggaaDoorChecked
import GoSem.Claim
import GoSem.ClaimJoined
import GoSem.ClaimMapViews
import Derived.JoinedTies
import Derived.KernelRfl
namespace Go.Proofs.YtkeonnnhogaggaaDoor
/- THE CELL 'sum', in the pinned program and in every row, IS THE sha256 OF THE DUMP (.gsa) THAT YtkeonnnhogaggaaDoorProg.lean LOADS. Nothing in Lean hashes anything: it is a label: what it is worth is what the hold of that sum in a sandbox is worth. -/
noncomputable def Tryd.pinned : Pinned := { name := "ytkeonnnhogaggaadoor", sum := "d6b5883a464f1715d17e0cb18d85139f29a5bbc62017157ccb03c9db3a811c2b", checked := Tryd.checked }
namespace Rows
def none {H : Type} : Left H := { results := [], args := [] }

/- WHAT THE LISTED PACKAGE-LEVEL VARIABLES READ AS WHEN THE CALL BEGINS. Each datum BY PROGRAM (the guide's laid-datum.mjs) off the statement by which the dump's own 'gosem.cut.vars' lays the variable. In a bare row this is a premise. The card (YtkeonnnhogaggaaDoorCards.lean) ties it to the program's text. -/
def laid_carrefour_head_widths {H : Type} : DataW H := .agg [.lit (.int .i64 8), .lit (.int .i64 48), .lit (.int .i64 48), .lit (.int .i64 16), .lit (.int .i64 32), .lit (.int .i64 32), .lit (.int .i64 8), .lit (.int .i64 16), .lit (.int .i64 16)]

/-- 'carrefourlaw19.TableOrder': WHATEVER THE INPUT: true; the input reads as it did. -/
def tableOrderSpec : ChangeSpec := { name := "tableOrder", fn := fun _ => fun
  | [d1, d2] => { results := [.lit (.bool true)], args := [d1, d2] }
  | _ => none }
def tableOrderRow : OpenClaim := { program := "ytkeonnnhogaggaadoor", sum := "d6b5883a464f1715d17e0cb18d85139f29a5bbc62017157ccb03c9db3a811c2b", func := "carrefour/carrefourlaw19.TableOrder", spec := "tableOrder", unfollowed := true, recurses := true, named := ["carrefour/head.widths"], apart := false, laid := [("carrefour/head.widths", laid_carrefour_head_widths)] }
def TableOrderSaid : Prop := tableOrderRow.holds Tryd.pinned (OpenSpec.ofChange tableOrderSpec)

/-- ITS FALSE NEIGHBOUR: 'it returns false'. Refute it at one input. -/
def tableOrderWrong : ChangeSpec := { name := "tableOrder", fn := fun _ => fun
  | [d1, d2] => { results := [.lit (.bool false)], args := [d1, d2] }
  | _ => none }
def TableOrderWrongFalsely : Prop := tableOrderRow.holds Tryd.pinned (OpenSpec.ofChange tableOrderWrong)

/-- 'carrefourlaw19.TableFull': WHATEVER THE INPUT: true; the input reads as it did. -/
def tableFullSpec : ChangeSpec := { name := "tableFull", fn := fun _ => fun
  | [d] => { results := [.lit (.bool true)], args := [d] }
  | _ => none }
def tableFullRow : OpenClaim := { program := "ytkeonnnhogaggaadoor", sum := "d6b5883a464f1715d17e0cb18d85139f29a5bbc62017157ccb03c9db3a811c2b", func := "carrefour/carrefourlaw19.TableFull", spec := "tableFull", unfollowed := true, recurses := true, named := ["carrefour/head.widths"], apart := false, laid := [("carrefour/head.widths", laid_carrefour_head_widths)] }
def TableFullSaid : Prop := tableFullRow.holds Tryd.pinned (OpenSpec.ofChange tableFullSpec)

/-- ITS FALSE NEIGHBOUR: 'it returns false'. Refute it at one input. -/
def tableFullWrong : ChangeSpec := { name := "tableFull", fn := fun _ => fun
  | [d] => { results := [.lit (.bool false)], args := [d] }
  | _ => none }
def TableFullWrongFalsely : Prop := tableFullRow.holds Tryd.pinned (OpenSpec.ofChange tableFullWrong)

/-- 'carrefourlaw19.TableTakes': WHATEVER THE INPUT: true; the input reads as it did. -/
def tableTakesSpec : ChangeSpec := { name := "tableTakes", fn := fun _ => fun
  | [d1, d2, d3] => { results := [.lit (.bool true)], args := [d1, d2, d3] }
  | _ => none }
def tableTakesRow : OpenClaim := { program := "ytkeonnnhogaggaadoor", sum := "d6b5883a464f1715d17e0cb18d85139f29a5bbc62017157ccb03c9db3a811c2b", func := "carrefour/carrefourlaw19.TableTakes", spec := "tableTakes", unfollowed := true, recurses := true, named := ["carrefour/head.widths"], apart := false, laid := [("carrefour/head.widths", laid_carrefour_head_widths)] }
def TableTakesSaid : Prop := tableTakesRow.holds Tryd.pinned (OpenSpec.ofChange tableTakesSpec)

/-- ITS FALSE NEIGHBOUR: 'it returns false'. Refute it at one input. -/
def tableTakesWrong : ChangeSpec := { name := "tableTakes", fn := fun _ => fun
  | [d1, d2, d3] => { results := [.lit (.bool false)], args := [d1, d2, d3] }
  | _ => none }
def TableTakesWrongFalsely : Prop := tableTakesRow.holds Tryd.pinned (OpenSpec.ofChange tableTakesWrong)

/- THE SECOND FORM. 'bulk': how many values and letters a reading holds, each counted each time it is reached (what is shared counts as often as it is met; a slice's spare places count too). A statement '..UptoSaid' is the law's where the arguments, and the package variables that the reading takes, are together of bulk at most 1048576: NARROWER than '..Said'. Prove '..Said' where nothing that the law and all that it calls make is longer than what came in: it says more and counts as full. Else prove '..UptoSaid'. A law counts once. -/
mutual
def uptoBulk {H : Type} : DataW H → Nat
  | .lit (.string bytes) => bytes.length + 1
  | .lit _ => 1
  | .nil => 1
  | .ptr d => uptoBulk d + 1
  | .slice elems spare => uptoBulkAll elems + uptoBulkAll spare + 1
  | .agg parts => uptoBulkAll parts + 1
  | .iface _ d => uptoBulk d + 1
  | .map entries => uptoBulkEntries entries + 1
  | .held _ => 1
def uptoBulkAll {H : Type} : List (DataW H) → Nat
  | [] => 0
  | d :: r => uptoBulk d + uptoBulkAll r
def uptoBulkEntries {H : Type} : List (Lit × DataW H) → Nat
  | [] => 0
  | x :: r => uptoBulkEntry x + uptoBulkEntries r
def uptoBulkEntry {H : Type} : Lit × DataW H → Nat
  | (.string bytes, d) => bytes.length + uptoBulk d + 1
  | (_, d) => uptoBulk d + 1
 end
def uptoSmall : (H : Type) → List (DataW H) → Bool := fun _ ds => decide (uptoBulkAll ds ≤ 1048576)
def OpenSpec.upto (s : _root_.Go.ChangeSpec) : _root_.Go.OpenSpec := { _root_.Go.OpenSpec.ofChange s with cond := some uptoSmall }

/-- 'carrefourlaw19.TableOrder', WHERE WHAT IT READS IS OF BULK AT MOST 1048576: true; the input reads as it did. -/
def tableOrderUptoRow : OpenClaim := { program := "ytkeonnnhogaggaadoor", sum := "d6b5883a464f1715d17e0cb18d85139f29a5bbc62017157ccb03c9db3a811c2b", func := "carrefour/carrefourlaw19.TableOrder", spec := "tableOrder", unfollowed := true, recurses := true, named := ["carrefour/head.widths"], apart := false, laid := [("carrefour/head.widths", laid_carrefour_head_widths)], narrowed := true }
def TableOrderUptoSaid : Prop := tableOrderUptoRow.holds Tryd.pinned (OpenSpec.upto tableOrderSpec)

/-- 'carrefourlaw19.TableFull', WHERE WHAT IT READS IS OF BULK AT MOST 1048576: true; the input reads as it did. -/
def tableFullUptoRow : OpenClaim := { program := "ytkeonnnhogaggaadoor", sum := "d6b5883a464f1715d17e0cb18d85139f29a5bbc62017157ccb03c9db3a811c2b", func := "carrefour/carrefourlaw19.TableFull", spec := "tableFull", unfollowed := true, recurses := true, named := ["carrefour/head.widths"], apart := false, laid := [("carrefour/head.widths", laid_carrefour_head_widths)], narrowed := true }
def TableFullUptoSaid : Prop := tableFullUptoRow.holds Tryd.pinned (OpenSpec.upto tableFullSpec)

/-- 'carrefourlaw19.TableTakes', WHERE WHAT IT READS IS OF BULK AT MOST 1048576: true; the input reads as it did. -/
def tableTakesUptoRow : OpenClaim := { program := "ytkeonnnhogaggaadoor", sum := "d6b5883a464f1715d17e0cb18d85139f29a5bbc62017157ccb03c9db3a811c2b", func := "carrefour/carrefourlaw19.TableTakes", spec := "tableTakes", unfollowed := true, recurses := true, named := ["carrefour/head.widths"], apart := false, laid := [("carrefour/head.widths", laid_carrefour_head_widths)], narrowed := true }
def TableTakesUptoSaid : Prop := tableTakesUptoRow.holds Tryd.pinned (OpenSpec.upto tableTakesSpec)

end Rows
end Go.Proofs.YtkeonnnhogaggaaDoor
