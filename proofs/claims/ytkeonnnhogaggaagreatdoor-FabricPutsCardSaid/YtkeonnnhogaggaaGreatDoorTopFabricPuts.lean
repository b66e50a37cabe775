/- 'FabricPuts' of every input: true, and nothing that was there has turned. No condition. (The frame is the kit's own shell, the walk is ours.) -/
import Derived.Test.YtkeonnnhogaggaaGreatDoorRows
import Derived.Test.YtkeonnnhogaggaaGreatDoorBdFabricPuts
import Derived.Test.YtkeonnnhogaggaaGreatDoorCards
import Derived.Test.YtkeonnnhogaggaaGreatDoorTie
import Derived.WalkKit
import Derived.ProofKit
import Derived.OpenShut
import Derived.ShutString
import Derived.ChangeOld
import Derived.Below
import Derived.LaidMore
import Derived.Stop.Joined
import Derived.SevenTiedAt
import Derived.Lib.LaidTab
namespace Go.Proofs.YtkeonnnhogaggaaGreatDoor.fabricPuts
open Go.ChangeShapes Go.WideShapes Go.ChangeAt Go.RowKit
set_option linter.unusedVariables false

theorem own : ownKnob Tryz.prog.godebug = none := by kernel_rfl
theorem laidOut : laidOutB Tryz.prog = true := by kernel_rfl

theorem walk (v0 : Value) (v1 : Value) (v2 : Value) (v3 : Value) (w : World) (a0 : Arg Tryz.prog w 3 v0) (a1 : Arg Tryz.prog w 40 v1) (a2 : Arg Tryz.prog w 72 v2) (a3 : Arg Tryz.prog w 74 v3) (hL : laidMetH Tryz.prog [("carrefour/head.widths", Rows.laid_carrefour_head_widths)] w) :
    Calls Tryz.prog 7 #[v0, v1, v2, v3] w fun e w' => e = .returned (.bool true) ∧ Below w.heap.size w w' := by
  obtain ⟨ports, rfl, _⟩ := a0.int Tryz.underlying3
  obtain ⟨ia, ic, ins, rfl, _, hi, hI⟩ := a1.ens
  obtain ⟨fa, fc, fs, rfl, _, hr, hx⟩ := a2.frs
  obtain ⟨aa, ac, ats, rfl, ha⟩ := a3.ints
  have hG : GW w := by
    rw [MakeChecks.laidMetH_plain _ _ _ (by kernel_rfl)] at hL
    have hT := Lib.tabIs_of_head (zs := [8, 48, 48, 16, 32, 32, 8, 16, 16]) (k := .i64) (show Tryz.prog.globalNamed "carrefour/head.widths" = some 1 by kernel_rfl) (show (Tryz.prog.globals[1]?).map (·.type) = some 236 by kernel_rfl) Tryz.underlying236 Tryz.underlying3 (by kernel_rfl) (by kernel_rfl) hL
    intro i hi
    have := hT.cell (show Tryz.prog.globalNamed "carrefour/head.widths" = some 1 by kernel_rfl) i hi
    match i, hi with
    | 0, _ | 1, _ | 2, _ | 3, _ | 4, _ | 5, _ | 6, _ | 7, _ | 8, _ => exact this
  exact (FabricPuts_all w hG ports ia ic ins hi hI fa fc fs hr hx aa ac ats ha).mono fun e w' ⟨he, hF⟩ => ⟨he, hF.below (Nat.le_refl _) (fun _ h => h.elim)⟩

theorem door_met (os : Os) (args : Array Value) : laidMetH Tryz.prog [("carrefour/head.widths", Rows.laid_carrefour_head_widths)] ((World.doorLaid Tryz.prog 14 os).forCall (fun _ _ => 0) ⟨#[], args, []⟩).memory :=
  laidMetH_of_parts3 (fuel := 8) (laidMet_of_run' 8 (by kernel_rfl) (by kernel_rfl)) (by kernel_rfl) (by kernel_rfl)
set_option maxRecDepth 100000 in
theorem lifted (os : Os) (started : os.Started) (H : Type) (enc : TypeId × Value → H) :
    ReturnsInHanded {} Tryz.checked os 7 .any (fun w args => (Rows.fabricPutsSpec.pre enc Tryz.prog Tryz.f7 [] false w args ∧ laidMetH Tryz.prog [("carrefour/head.widths", Rows.laid_carrefour_head_widths)] w) ∧ sizedMet enc Tryz.prog Tryz.f7 (OpenSpec.ofChange Rows.fabricPutsSpec) false w args)
      (Rows.fabricPutsSpec.post enc Tryz.prog Tryz.f7 false true false false) := by
  refine returnsInHanded_of_change_and (C := Tryz.checked) (X := fun w _ => laidMetH Tryz.prog [("carrefour/head.widths", Rows.laid_carrefour_head_widths)] w) (fun _ _ _ hh h => h.of_heap hh) own started (by kernel_rfl) Tryz.func7
    (ChangeSpec.witness_shaped (enc := enc) (C := Tryz.checked) (os := os) (X := fun w _ => laidMetH Tryz.prog [("carrefour/head.widths", Rows.laid_carrefour_head_widths)] w) false (World.doorLaid Tryz.prog 14 os) #[.int .i64 0, .slice none 0 0, .slice none 0 0, .slice none 0 0] 8 rfl (World.shaped_of_RefB (by kernel_rfl) (by kernel_rfl)) (by kernel_rfl) (by kernel_rfl) (by kernel_rfl) (door_met os _)) ?_
  intro W base args ds gs before hval0 hW hcnd _ hL _
  have hval : ∀ (j : Nat) t v, Tryz.f7.params[j]? = some t → args[j]? = some v → Value.okWide Tryz.prog W .any base t v := hval0
  have hW' := hW
  obtain ⟨p, q, hA0, hV, rfl, hfz, hnd⟩ := hW
  have hA : DataW.TrodAll enc Tryz.prog W 0 (fun _ => true) true Tryz.f7.params.toList args.toList ds p := hA0
  rw [Tryz.params7] at hA hval
  obtain ⟨v0, vs0, d0, ds0, p0, q0, hargs, rfl, rfl, h0, r0⟩ := trodAll_cons hA
  obtain ⟨v1, vs1, d1, ds1, p1, q1, rfl, rfl, rfl, h1, r1⟩ := trodAll_cons r0
  obtain ⟨v2, vs2, d2, ds2, p2, q2, rfl, rfl, rfl, h2, r2⟩ := trodAll_cons r1
  obtain ⟨v3, vs3, d3, ds3, p3, q3, rfl, rfl, rfl, h3, r3⟩ := trodAll_cons r2
  obtain ⟨rfl, rfl, rfl⟩ := trodAll_nil r3
  obtain rfl : args = #[v0, v1, v2, v3] := by cases args; simp_all
  obtain ⟨rfl, rfl⟩ := trodVars_none hV
  have k0 := h0
  have lt0 : ∀ x ∈ p0, x.block < W.heap.size := by obtain ⟨m, hm⟩ := k0; exact DataW.trod_lt m _ _ _ hm
  have b0 : Arg Tryz.prog W 3 v0 := ⟨⟨base, hval 0 3 v0 rfl rfl⟩, h0.elim fun m hm => ⟨H, enc, m, _, hm⟩⟩
  have k1 := h1
  have lt1 : ∀ x ∈ p1, x.block < W.heap.size := by obtain ⟨m, hm⟩ := k1; exact DataW.trod_lt m _ _ _ hm
  have b1 : Arg Tryz.prog W 40 v1 := ⟨⟨base, hval 1 40 v1 rfl rfl⟩, h1.elim fun m hm => ⟨H, enc, m, _, hm⟩⟩
  have k2 := h2
  have lt2 : ∀ x ∈ p2, x.block < W.heap.size := by obtain ⟨m, hm⟩ := k2; exact DataW.trod_lt m _ _ _ hm
  have b2 : Arg Tryz.prog W 72 v2 := ⟨⟨base, hval 2 72 v2 rfl rfl⟩, h2.elim fun m hm => ⟨H, enc, m, _, hm⟩⟩
  have k3 := h3
  have lt3 : ∀ x ∈ p3, x.block < W.heap.size := by obtain ⟨m, hm⟩ := k3; exact DataW.trod_lt m _ _ _ hm
  have b3 : Arg Tryz.prog W 74 v3 := ⟨⟨base, hval 3 74 v3 rfl rfl⟩, h3.elim fun m hm => ⟨H, enc, m, _, hm⟩⟩
  clear hA0 hval0
  refine (walk v0 v1 v2 v3 W b0 b1 b2 b3 hL).mono fun e W' ⟨he, bel⟩ => ?_
  subst he
  exact ⟨_, rfl, _, _, _, [], _, [], hW', trodAll_mk1 (shut_bool Tryz.underlying4 _), (trodAll_cons_mk (Below.trod laidOut (by kernel_rfl) (of_decide_eq_true (by kernel_rfl)) k0 bel lt0) (trodAll_cons_mk (Below.trod laidOut (by kernel_rfl) (of_decide_eq_true (by kernel_rfl)) k1 bel lt1) (trodAll_cons_mk (Below.trod laidOut (by kernel_rfl) (of_decide_eq_true (by kernel_rfl)) k2 bel lt2) (trodAll_cons_mk (Below.trod laidOut (by kernel_rfl) (of_decide_eq_true (by kernel_rfl)) k3 bel lt3) trodAll_mk0)))), rfl, bel.frame _, fun h => by cases h⟩

theorem over : Rows.fabricPutsRow.holds Tryz.pinned (OpenSpec.ofChange Rows.fabricPutsSpec) :=
  OpenClaim.holds_of_wide 7 Tryz.f7 rfl rfl rfl rfl rfl rfl rfl ⟨rfl, rfl, rfl, rfl, rfl⟩ rfl rfl rfl rfl rfl (by kernel_rfl) Tryz.func7 (by kernel_rfl)
    (of_decide_eq_true (by kernel_rfl)) (by unfold Func.isWrapper; first | (rw [if_pos (by decide +kernel)]; kernel_rfl) | (rw [if_neg (by decide +kernel)]; exact ⟨rfl, rfl⟩))
    (fun os started H enc _ => lifted os started H enc)

/-- ████ THE STATEMENT: THE TIED CARD ████ -/
theorem proved : Rows.FabricPutsCardSaid :=
  Claim7.holds_tied_plain_at .later [] [.data] true (true, "53d7003cb6865951eae2eda08f73f0073266d6be182230a75a95ca569b064c47") false
    over (fun _ h => by cases h) (by kernel_rfl) (fun _ h => by cases h) fabricPuts_row_tie rfl ⟨rfl, rfl⟩ (by kernel_rfl) rfl
    (fun f fn hf hfn => by
      obtain rfl : f = 7 := Option.some.inj ((show Tryz.prog.funcNamed "carrefour/carrefourlaw20.FabricPuts" = some 7 by kernel_rfl).symm.trans hf) |>.symm
      obtain rfl : fn = Tryz.f7 := (Option.some.inj (Tryz.func7.symm.trans hfn)).symm
      exact ⟨by kernel_rfl, fun j t ht => by
        rw [Tryz.params7] at ht
        have hm : t ∈ [3, 40, 72, 74] := by simpa using Array.mem_of_getElem? ht
        have hall : ([3, 40, 72, 74].all fun u => !Tryz.prog.wantsStandIn u) = true := by kernel_rfl
        exact (show Tryz.prog.wantsStandIn t = false by simpa using List.all_eq_true.1 hall t hm)⟩)
    (by kernel_rfl)
#print axioms proved
end Go.Proofs.YtkeonnnhogaggaaGreatDoor.fabricPuts
