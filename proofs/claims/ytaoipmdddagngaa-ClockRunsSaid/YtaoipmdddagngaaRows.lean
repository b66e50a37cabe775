/-
  No cell of these rows narrows 'for every input' (looked for: loops, veiled, ifaces, maps, wideKeys, modest, calm, conditions, laid).
  DERIVED. THE GIVEN ROWS OF THIS SEAT. 4 by the template 'for every input the law returns true; each argument reads behind the call as it read before'; 0 by the template 'total and deterministic' (their statements: YtaoipmdddagngaaTotals.lean).
  GIVEN WITH THE SEED: the statements are not yours to turn. If you find one false, say at which input.
  Laid BY PROGRAM, IN A SANDBOX (cutbox-rows.mjs): the forced cells as the released guide's own fill.sh prints them over the translation 2f0b5e06104ea1e5… (all of the seat's roots in one cut). By AI agents, Wed Nov 11 2026. No macro, syntax, notation, axiom, sorry.
-/
import Derived.Test.YtaoipmdddagngaaChecked
import GoSem.Claim
import GoSem.ClaimJoined
import GoSem.ClaimMapViews
import Derived.JoinedTies
import Derived.KernelRfl
namespace Go.Proofs.Ytaoipmdddagngaa
/- THE CELL 'sum', in the pinned program and in every row, IS THE sha256 OF THE DUMP (.gsa) THAT YtaoipmdddagngaaProg.lean LOADS. Nothing in Lean hashes anything: it is a label: what it is worth is what the hold of that sum in a sandbox is worth. -/
noncomputable def Try.pinned : Pinned := { name := "ytaoipmdddagngaa", sum := "2f0b5e06104ea1e59754ab514905c2cdefddb29aefe4110b1900663e06bd52ce", checked := Try.checked }
namespace Rows
def none {H : Type} : Left H := { results := [], args := [] }

/-- 'carrefourlaw09.ClockSorts': WHATEVER THE INPUT: true; the input reads as it did. -/
def clockSortsSpec : ChangeSpec := { name := "clockSorts", fn := fun _ => fun
  | [d] => { results := [.lit (.bool true)], args := [d] }
  | _ => none }
def clockSortsRow : OpenClaim := { program := "ytaoipmdddagngaa", sum := "2f0b5e06104ea1e59754ab514905c2cdefddb29aefe4110b1900663e06bd52ce", func := "carrefour/carrefourlaw09.ClockSorts", spec := "clockSorts", unfollowed := true, recurses := true, apart := false }
def ClockSortsSaid : Prop := clockSortsRow.holds Try.pinned (OpenSpec.ofChange clockSortsSpec)

/-- ITS FALSE NEIGHBOUR: 'it returns false'. Refute it at one input. -/
def clockSortsWrong : ChangeSpec := { name := "clockSorts", fn := fun _ => fun
  | [d] => { results := [.lit (.bool false)], args := [d] }
  | _ => none }
def ClockSortsWrongFalsely : Prop := clockSortsRow.holds Try.pinned (OpenSpec.ofChange clockSortsWrong)

/-- 'carrefourlaw09.ClockLate': WHATEVER THE INPUT: true; the input reads as it did. -/
def clockLateSpec : ChangeSpec := { name := "clockLate", fn := fun _ => fun
  | [d1, d2, d3, d4] => { results := [.lit (.bool true)], args := [d1, d2, d3, d4] }
  | _ => none }
def clockLateRow : OpenClaim := { program := "ytaoipmdddagngaa", sum := "2f0b5e06104ea1e59754ab514905c2cdefddb29aefe4110b1900663e06bd52ce", func := "carrefour/carrefourlaw09.ClockLate", spec := "clockLate", unfollowed := true, recurses := true, apart := false }
def ClockLateSaid : Prop := clockLateRow.holds Try.pinned (OpenSpec.ofChange clockLateSpec)

/-- ITS FALSE NEIGHBOUR: 'it returns false'. Refute it at one input. -/
def clockLateWrong : ChangeSpec := { name := "clockLate", fn := fun _ => fun
  | [d1, d2, d3, d4] => { results := [.lit (.bool false)], args := [d1, d2, d3, d4] }
  | _ => none }
def ClockLateWrongFalsely : Prop := clockLateRow.holds Try.pinned (OpenSpec.ofChange clockLateWrong)

/-- 'carrefourlaw09.ClockRuns': WHATEVER THE INPUT: true; the input reads as it did. -/
def clockRunsSpec : ChangeSpec := { name := "clockRuns", fn := fun _ => fun
  | [d] => { results := [.lit (.bool true)], args := [d] }
  | _ => none }
def clockRunsRow : OpenClaim := { program := "ytaoipmdddagngaa", sum := "2f0b5e06104ea1e59754ab514905c2cdefddb29aefe4110b1900663e06bd52ce", func := "carrefour/carrefourlaw09.ClockRuns", spec := "clockRuns", unfollowed := true, recurses := true, apart := false }
def ClockRunsSaid : Prop := clockRunsRow.holds Try.pinned (OpenSpec.ofChange clockRunsSpec)

/-- ITS FALSE NEIGHBOUR: 'it returns false'. Refute it at one input. -/
def clockRunsWrong : ChangeSpec := { name := "clockRuns", fn := fun _ => fun
  | [d] => { results := [.lit (.bool false)], args := [d] }
  | _ => none }
def ClockRunsWrongFalsely : Prop := clockRunsRow.holds Try.pinned (OpenSpec.ofChange clockRunsWrong)

/-- 'carrefourlaw09.ClockRoom': WHATEVER THE INPUT: true; the input reads as it did. -/
def clockRoomSpec : ChangeSpec := { name := "clockRoom", fn := fun _ => fun
  | [d] => { results := [.lit (.bool true)], args := [d] }
  | _ => none }
def clockRoomRow : OpenClaim := { program := "ytaoipmdddagngaa", sum := "2f0b5e06104ea1e59754ab514905c2cdefddb29aefe4110b1900663e06bd52ce", func := "carrefour/carrefourlaw09.ClockRoom", spec := "clockRoom", unfollowed := true, recurses := true, apart := false }
def ClockRoomSaid : Prop := clockRoomRow.holds Try.pinned (OpenSpec.ofChange clockRoomSpec)

/-- ITS FALSE NEIGHBOUR: 'it returns false'. Refute it at one input. -/
def clockRoomWrong : ChangeSpec := { name := "clockRoom", fn := fun _ => fun
  | [d] => { results := [.lit (.bool false)], args := [d] }
  | _ => none }
def ClockRoomWrongFalsely : Prop := clockRoomRow.holds Try.pinned (OpenSpec.ofChange clockRoomWrong)

/- THE SECOND FORM. 'bulk': how many values and letters a reading holds, each counted each time it is reached (what is shared counts as often as it is met; a slice's spare places count too). A statement '..UptoSaid' is the law's where the arguments, and the package variables that the reading takes, are together of bulk at most 1048576: NARROWER than '..Said'. Prove '..Said' where nothing that the law and all that it calls make is longer than what came in: it says more and counts as full. Else prove '..UptoSaid'. A law counts once. -/
mutual
def uptoBulk {H : Type} : DataW H → Nat
  | .lit (.string bytes) => bytes.length + 1
  | .lit _ => 1
  | .nil => 1
  | .ptr d => uptoBulk d + 1
  | .slice elems spare => uptoBulkAll elems + uptoBulkAll spare + 1
  | .agg parts => uptoBulkAll parts + 1
  | .iface _ d => uptoBulk d + 1
  | .map entries => uptoBulkEntries entries + 1
  | .held _ => 1
def uptoBulkAll {H : Type} : List (DataW H) → Nat
  | [] => 0
  | d :: r => uptoBulk d + uptoBulkAll r
def uptoBulkEntries {H : Type} : List (Lit × DataW H) → Nat
  | [] => 0
  | x :: r => uptoBulkEntry x + uptoBulkEntries r
def uptoBulkEntry {H : Type} : Lit × DataW H → Nat
  | (.string bytes, d) => bytes.length + uptoBulk d + 1
  | (_, d) => uptoBulk d + 1
 end
def uptoSmall : (H : Type) → List (DataW H) → Bool := fun _ ds => decide (uptoBulkAll ds ≤ 1048576)
def OpenSpec.upto (s : _root_.Go.ChangeSpec) : _root_.Go.OpenSpec := { _root_.Go.OpenSpec.ofChange s with cond := some uptoSmall }

/-- 'carrefourlaw09.ClockSorts', WHERE WHAT IT READS IS OF BULK AT MOST 1048576: true; the input reads as it did. -/
def clockSortsUptoRow : OpenClaim := { program := "ytaoipmdddagngaa", sum := "2f0b5e06104ea1e59754ab514905c2cdefddb29aefe4110b1900663e06bd52ce", func := "carrefour/carrefourlaw09.ClockSorts", spec := "clockSorts", unfollowed := true, recurses := true, apart := false, narrowed := true }
def ClockSortsUptoSaid : Prop := clockSortsUptoRow.holds Try.pinned (OpenSpec.upto clockSortsSpec)

/-- 'carrefourlaw09.ClockLate', WHERE WHAT IT READS IS OF BULK AT MOST 1048576: true; the input reads as it did. -/
def clockLateUptoRow : OpenClaim := { program := "ytaoipmdddagngaa", sum := "2f0b5e06104ea1e59754ab514905c2cdefddb29aefe4110b1900663e06bd52ce", func := "carrefour/carrefourlaw09.ClockLate", spec := "clockLate", unfollowed := true, recurses := true, apart := false, narrowed := true }
def ClockLateUptoSaid : Prop := clockLateUptoRow.holds Try.pinned (OpenSpec.upto clockLateSpec)

/-- 'carrefourlaw09.ClockRuns', WHERE WHAT IT READS IS OF BULK AT MOST 1048576: true; the input reads as it did. -/
def clockRunsUptoRow : OpenClaim := { program := "ytaoipmdddagngaa", sum := "2f0b5e06104ea1e59754ab514905c2cdefddb29aefe4110b1900663e06bd52ce", func := "carrefour/carrefourlaw09.ClockRuns", spec := "clockRuns", unfollowed := true, recurses := true, apart := false, narrowed := true }
def ClockRunsUptoSaid : Prop := clockRunsUptoRow.holds Try.pinned (OpenSpec.upto clockRunsSpec)

/-- 'carrefourlaw09.ClockRoom', WHERE WHAT IT READS IS OF BULK AT MOST 1048576: true; the input reads as it did. -/
def clockRoomUptoRow : OpenClaim := { program := "ytaoipmdddagngaa", sum := "2f0b5e06104ea1e59754ab514905c2cdefddb29aefe4110b1900663e06bd52ce", func := "carrefour/carrefourlaw09.ClockRoom", spec := "clockRoom", unfollowed := true, recurses := true, apart := false, narrowed := true }
def ClockRoomUptoSaid : Prop := clockRoomUptoRow.holds Try.pinned (OpenSpec.upto clockRoomSpec)

end Rows
end Go.Proofs.Ytaoipmdddagngaa
