/- 'TableFull' of every input: true, and nothing that was there has turned. No condition. (The frame is the kit's own shell, the walk is ours.) -/
import Derived.Test.YtkeonnnhogaggaaDoorRows
import Derived.Test.YtkeonnnhogaggaaDoorBcTableFull
import Derived.Test.YtkeonnnhogaggaaDoorCards
import Derived.Test.YtkeonnnhogaggaaDoorTie
import Derived.WalkKit
import Derived.ProofKit
import Derived.OpenShut
import Derived.ShutString
import Derived.ChangeOld
import Derived.Below
import Derived.LaidMore
import Derived.Stop.Joined
import Derived.SevenTiedAt
import Derived.Lib.LaidTab
namespace Go.Proofs.YtkeonnnhogaggaaDoor.tableFull
open Go.ChangeShapes Go.WideShapes Go.ChangeAt Go.RowKit
set_option linter.unusedVariables false

theorem own : ownKnob Tryd.prog.godebug = none := by kernel_rfl
theorem laidOut : laidOutB Tryd.prog = true := by kernel_rfl

theorem walk (v0 : Value) (w : World) (a0 : Arg Tryd.prog w 3 v0) (hL : laidMetH Tryd.prog [("carrefour/head.widths", Rows.laid_carrefour_head_widths)] w) :
    Calls Tryd.prog 4 #[v0] w fun e w' => e = .returned (.bool true) ∧ Below w.heap.size w w' := by
  obtain ⟨n, rfl, _⟩ := a0.int Tryd.underlying3
  have hG : GW w := by
    rw [MakeChecks.laidMetH_plain _ _ _ (by kernel_rfl)] at hL
    have hT := Lib.tabIs_of_head (zs := [8, 48, 48, 16, 32, 32, 8, 16, 16]) (k := .i64) (show Tryd.prog.globalNamed "carrefour/head.widths" = some 0 by kernel_rfl) (show (Tryd.prog.globals[0]?).map (·.type) = some 100 by kernel_rfl) Tryd.underlying100 Tryd.underlying3 (by kernel_rfl) (by kernel_rfl) hL
    intro i hi
    have := hT.cell (show Tryd.prog.globalNamed "carrefour/head.widths" = some 0 by kernel_rfl) i hi
    match i, hi with
    | 0, _ | 1, _ | 2, _ | 3, _ | 4, _ | 5, _ | 6, _ | 7, _ | 8, _ => exact this
  exact (TableFull_all w hG n).mono fun e w' ⟨he, hF⟩ => ⟨he, hF.below (Nat.le_refl _) (fun _ h => h.elim)⟩

theorem door_met (os : Os) (args : Array Value) : laidMetH Tryd.prog [("carrefour/head.widths", Rows.laid_carrefour_head_widths)] ((World.doorLaid Tryd.prog 14 os).forCall (fun _ _ => 0) ⟨#[], args, []⟩).memory :=
  laidMetH_of_parts3 (fuel := 8) (laidMet_of_run' 8 (by kernel_rfl) (by kernel_rfl)) (by kernel_rfl) (by kernel_rfl)
set_option maxRecDepth 100000 in
theorem lifted (os : Os) (started : os.Started) (H : Type) (enc : TypeId × Value → H) :
    ReturnsInHanded {} Tryd.checked os 4 .any (fun w args => (Rows.tableFullSpec.pre enc Tryd.prog Tryd.f4 [] false w args ∧ laidMetH Tryd.prog [("carrefour/head.widths", Rows.laid_carrefour_head_widths)] w) ∧ sizedMet enc Tryd.prog Tryd.f4 (OpenSpec.ofChange Rows.tableFullSpec) false w args)
      (Rows.tableFullSpec.post enc Tryd.prog Tryd.f4 false true false false) := by
  refine returnsInHanded_of_change_and (C := Tryd.checked) (X := fun w _ => laidMetH Tryd.prog [("carrefour/head.widths", Rows.laid_carrefour_head_widths)] w) (fun _ _ _ hh h => h.of_heap hh) own started (by kernel_rfl) Tryd.func4
    (ChangeSpec.witness_shaped (enc := enc) (C := Tryd.checked) (os := os) (X := fun w _ => laidMetH Tryd.prog [("carrefour/head.widths", Rows.laid_carrefour_head_widths)] w) false (World.doorLaid Tryd.prog 14 os) #[.int .i64 0] 8 rfl (World.shaped_of_RefB (by kernel_rfl) (by kernel_rfl)) (by kernel_rfl) (by kernel_rfl) (by kernel_rfl) (door_met os _)) ?_
  intro W base args ds gs before hval0 hW hcnd _ hL _
  have hval : ∀ (j : Nat) t v, Tryd.f4.params[j]? = some t → args[j]? = some v → Value.okWide Tryd.prog W .any base t v := hval0
  have hW' := hW
  obtain ⟨p, q, hA0, hV, rfl, hfz, hnd⟩ := hW
  have hA : DataW.TrodAll enc Tryd.prog W 0 (fun _ => true) true Tryd.f4.params.toList args.toList ds p := hA0
  rw [Tryd.params4] at hA hval
  obtain ⟨v0, vs0, d0, ds0, p0, q0, hargs, rfl, rfl, h0, r0⟩ := trodAll_cons hA
  obtain ⟨rfl, rfl, rfl⟩ := trodAll_nil r0
  obtain rfl : args = #[v0] := by cases args; simp_all
  obtain ⟨rfl, rfl⟩ := trodVars_none hV
  have k0 := h0
  have lt0 : ∀ x ∈ p0, x.block < W.heap.size := by obtain ⟨m, hm⟩ := k0; exact DataW.trod_lt m _ _ _ hm
  have b0 : Arg Tryd.prog W 3 v0 := ⟨⟨base, hval 0 3 v0 rfl rfl⟩, h0.elim fun m hm => ⟨H, enc, m, _, hm⟩⟩
  clear hA0 hval0
  refine (walk v0 W b0 hL).mono fun e W' ⟨he, bel⟩ => ?_
  subst he
  exact ⟨_, rfl, _, _, _, [], _, [], hW', trodAll_mk1 (shut_bool Tryd.underlying4 _), (trodAll_cons_mk (Below.trod laidOut (by kernel_rfl) (of_decide_eq_true (by kernel_rfl)) k0 bel lt0) trodAll_mk0), rfl, bel.frame _, fun h => by cases h⟩

theorem over : Rows.tableFullRow.holds Tryd.pinned (OpenSpec.ofChange Rows.tableFullSpec) :=
  OpenClaim.holds_of_wide 4 Tryd.f4 rfl rfl rfl rfl rfl rfl rfl ⟨rfl, rfl, rfl, rfl, rfl⟩ rfl rfl rfl rfl rfl (by kernel_rfl) Tryd.func4 (by kernel_rfl)
    (of_decide_eq_true (by kernel_rfl)) (by unfold Func.isWrapper; first | (rw [if_pos (by decide +kernel)]; kernel_rfl) | (rw [if_neg (by decide +kernel)]; exact ⟨rfl, rfl⟩))
    (fun os started H enc _ => lifted os started H enc)

/-- ████ THE STATEMENT: THE TIED CARD ████ -/
theorem proved : Rows.TableFullCardSaid :=
  Claim7.holds_tied_plain_at .later [] [.data] true (true, "ca22b6d2d6315beae703b88ad012b619bcfd8a63d019614d52d64824285de831") false
    over (fun _ h => by cases h) (by kernel_rfl) (fun _ h => by cases h) tableFull_row_tie rfl ⟨rfl, rfl⟩ (by kernel_rfl) rfl
    (fun f fn hf hfn => by
      obtain rfl : f = 4 := Option.some.inj ((show Tryd.prog.funcNamed "carrefour/carrefourlaw19.TableFull" = some 4 by kernel_rfl).symm.trans hf) |>.symm
      obtain rfl : fn = Tryd.f4 := (Option.some.inj (Tryd.func4.symm.trans hfn)).symm
      exact ⟨by kernel_rfl, fun j t ht => by
        rw [Tryd.params4] at ht
        have hm : t ∈ [3] := by simpa using Array.mem_of_getElem? ht
        have hall : ([3].all fun u => !Tryd.prog.wantsStandIn u) = true := by kernel_rfl
        exact (show Tryd.prog.wantsStandIn t = false by simpa using List.all_eq_true.1 hall t hm)⟩)
    (by kernel_rfl)
#print axioms proved
end Go.Proofs.YtkeonnnhogaggaaDoor.tableFull
