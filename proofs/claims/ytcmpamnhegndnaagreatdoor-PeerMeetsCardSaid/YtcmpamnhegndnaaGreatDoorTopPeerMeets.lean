/- 'PeerMeets' of every input: true, and nothing that was there has turned. No condition. (The frame is the kit's own shell, the walk is ours.) -/
import Derived.Test.YtcmpamnhegndnaaGreatDoorRows
import Derived.Test.YtcmpamnhegndnaaGreatDoorBfPeerMeets
import Derived.Test.YtcmpamnhegndnaaGreatDoorCards
import Derived.Test.YtcmpamnhegndnaaGreatDoorTie
import Derived.WalkKit
import Derived.ProofKit
import Derived.OpenShut
import Derived.ShutString
import Derived.ChangeOld
import Derived.Below
import Derived.LaidMore
import Derived.Stop.Joined
import Derived.SevenTiedAt
import Derived.Lib.LaidTab
namespace Go.Proofs.YtcmpamnhegndnaaGreatDoor.peerMeets
open Go.ChangeShapes Go.WideShapes Go.ChangeAt Go.RowKit
set_option linter.unusedVariables false

theorem own : ownKnob Tryz.prog.godebug = none := by kernel_rfl
theorem laidOut : laidOutB Tryz.prog = true := by kernel_rfl

theorem walk (v0 : Value) (v1 : Value) (v2 : Value) (w : World) (a0 : Arg Tryz.prog w 23 v0) (a1 : Arg Tryz.prog w 23 v1) (a2 : Arg Tryz.prog w 4 v2) (hL : laidMetH Tryz.prog [("carrefour/attr.flags", Rows.laid_carrefour_attr_flags), ("carrefour/attr.sizes", Rows.laid_carrefour_attr_sizes)] w) :
    Calls Tryz.prog 4 #[v0, v1, v2] w fun e w' => e = .returned (.bool true) ∧ Below w.heap.size w w' := by
  obtain ⟨a, rfl, ha⟩ := a0.int Tryz.underlying23
  obtain ⟨b, rfl, hb⟩ := a1.int Tryz.underlying23
  obtain ⟨c, rfl⟩ := a2.bool Tryz.underlying4
  have hGZ : GF w ∧ GZ w := by
    rw [MakeChecks.laidMetH_plain _ _ _ (by kernel_rfl)] at hL
    exact laid_attr hL
  exact (PeerMeets_all w hGZ.1 hGZ.2 a b (wf_u32 ha) (wf_u32 hb) c).mono fun e w' ⟨he, hF⟩ => ⟨he, hF.below (Nat.le_refl _) (fun _ h => h.elim)⟩

theorem door_met (os : Os) (args : Array Value) : laidMetH Tryz.prog [("carrefour/attr.flags", Rows.laid_carrefour_attr_flags), ("carrefour/attr.sizes", Rows.laid_carrefour_attr_sizes)] ((World.doorLaid Tryz.prog 19 os).forCall (fun _ _ => 0) ⟨#[], args, []⟩).memory :=
  laidMetH_of_parts3 (fuel := 8) (laidMet_of_run' 8 (by kernel_rfl) (by kernel_rfl)) (by kernel_rfl) (by kernel_rfl)
set_option maxRecDepth 100000 in
theorem lifted (os : Os) (started : os.Started) (H : Type) (enc : TypeId × Value → H) :
    ReturnsInHanded {} Tryz.checked os 4 .any (fun w args => (Rows.peerMeetsSpec.pre enc Tryz.prog Tryz.f4 [] false w args ∧ laidMetH Tryz.prog [("carrefour/attr.flags", Rows.laid_carrefour_attr_flags), ("carrefour/attr.sizes", Rows.laid_carrefour_attr_sizes)] w) ∧ sizedMet enc Tryz.prog Tryz.f4 (OpenSpec.ofChange Rows.peerMeetsSpec) false w args)
      (Rows.peerMeetsSpec.post enc Tryz.prog Tryz.f4 false true false false) := by
  refine returnsInHanded_of_change_and (C := Tryz.checked) (X := fun w _ => laidMetH Tryz.prog [("carrefour/attr.flags", Rows.laid_carrefour_attr_flags), ("carrefour/attr.sizes", Rows.laid_carrefour_attr_sizes)] w) (fun _ _ _ hh h => h.of_heap hh) own started (by kernel_rfl) Tryz.func4
    (ChangeSpec.witness_shaped (enc := enc) (C := Tryz.checked) (os := os) (X := fun w _ => laidMetH Tryz.prog [("carrefour/attr.flags", Rows.laid_carrefour_attr_flags), ("carrefour/attr.sizes", Rows.laid_carrefour_attr_sizes)] w) false (World.doorLaid Tryz.prog 19 os) #[.int .u32 0, .int .u32 0, .bool false] 8 rfl (World.shaped_of_RefB (by kernel_rfl) (by kernel_rfl)) (by kernel_rfl) (by kernel_rfl) (by kernel_rfl) (door_met os _)) ?_
  intro W base args ds gs before hval0 hW hcnd _ hL _
  have hval : ∀ (j : Nat) t v, Tryz.f4.params[j]? = some t → args[j]? = some v → Value.okWide Tryz.prog W .any base t v := hval0
  have hW' := hW
  obtain ⟨p, q, hA0, hV, rfl, hfz, hnd⟩ := hW
  have hA : DataW.TrodAll enc Tryz.prog W 0 (fun _ => true) true Tryz.f4.params.toList args.toList ds p := hA0
  rw [Tryz.params4] at hA hval
  obtain ⟨v0, vs0, d0, ds0, p0, q0, hargs, rfl, rfl, h0, r0⟩ := trodAll_cons hA
  obtain ⟨v1, vs1, d1, ds1, p1, q1, rfl, rfl, rfl, h1, r1⟩ := trodAll_cons r0
  obtain ⟨v2, vs2, d2, ds2, p2, q2, rfl, rfl, rfl, h2, r2⟩ := trodAll_cons r1
  obtain ⟨rfl, rfl, rfl⟩ := trodAll_nil r2
  obtain rfl : args = #[v0, v1, v2] := by cases args; simp_all
  obtain ⟨rfl, rfl⟩ := trodVars_none hV
  have k0 := h0
  have lt0 : ∀ x ∈ p0, x.block < W.heap.size := by obtain ⟨m, hm⟩ := k0; exact DataW.trod_lt m _ _ _ hm
  have b0 : Arg Tryz.prog W 23 v0 := ⟨⟨base, hval 0 23 v0 rfl rfl⟩, h0.elim fun m hm => ⟨H, enc, m, _, hm⟩⟩
  have k1 := h1
  have lt1 : ∀ x ∈ p1, x.block < W.heap.size := by obtain ⟨m, hm⟩ := k1; exact DataW.trod_lt m _ _ _ hm
  have b1 : Arg Tryz.prog W 23 v1 := ⟨⟨base, hval 1 23 v1 rfl rfl⟩, h1.elim fun m hm => ⟨H, enc, m, _, hm⟩⟩
  have k2 := h2
  have lt2 : ∀ x ∈ p2, x.block < W.heap.size := by obtain ⟨m, hm⟩ := k2; exact DataW.trod_lt m _ _ _ hm
  have b2 : Arg Tryz.prog W 4 v2 := ⟨⟨base, hval 2 4 v2 rfl rfl⟩, h2.elim fun m hm => ⟨H, enc, m, _, hm⟩⟩
  clear hA0 hval0
  refine (walk v0 v1 v2 W b0 b1 b2 hL).mono fun e W' ⟨he, bel⟩ => ?_
  subst he
  exact ⟨_, rfl, _, _, _, [], _, [], hW', trodAll_mk1 (shut_bool Tryz.underlying4 _), (trodAll_cons_mk (Below.trod laidOut (by kernel_rfl) (of_decide_eq_true (by kernel_rfl)) k0 bel lt0) (trodAll_cons_mk (Below.trod laidOut (by kernel_rfl) (of_decide_eq_true (by kernel_rfl)) k1 bel lt1) (trodAll_cons_mk (Below.trod laidOut (by kernel_rfl) (of_decide_eq_true (by kernel_rfl)) k2 bel lt2) trodAll_mk0))), rfl, bel.frame _, fun h => by cases h⟩

theorem over : Rows.peerMeetsRow.holds Tryz.pinned (OpenSpec.ofChange Rows.peerMeetsSpec) :=
  OpenClaim.holds_of_wide 4 Tryz.f4 rfl rfl rfl rfl rfl rfl rfl ⟨rfl, rfl, rfl, rfl, rfl⟩ rfl rfl rfl rfl rfl (by kernel_rfl) Tryz.func4 (by kernel_rfl)
    (of_decide_eq_true (by kernel_rfl)) (by unfold Func.isWrapper; first | (rw [if_pos (by decide +kernel)]; kernel_rfl) | (rw [if_neg (by decide +kernel)]; exact ⟨rfl, rfl⟩))
    (fun os started H enc _ => lifted os started H enc)

/-- ████ THE STATEMENT: THE TIED CARD ████ -/
theorem proved : Rows.PeerMeetsCardSaid :=
  Claim7.holds_tied_plain_at .later [] [.data, .data] true (true, "91d4db816b8b3e315c611a8cbae170fd5ba9ef10ff880f9f2a2bc59cae835e5d") true
    over (fun _ h => by cases h) (by kernel_rfl) (fun _ h => by cases h) peerMeets_row_tie rfl ⟨rfl, rfl⟩ (by kernel_rfl) rfl
    (fun f fn hf hfn => by
      obtain rfl : f = 4 := Option.some.inj ((show Tryz.prog.funcNamed "carrefour/carrefourlaw10.PeerMeets" = some 4 by kernel_rfl).symm.trans hf) |>.symm
      obtain rfl : fn = Tryz.f4 := (Option.some.inj (Tryz.func4.symm.trans hfn)).symm
      exact ⟨by kernel_rfl, fun j t ht => by
        rw [Tryz.params4] at ht
        have hm : t ∈ [23, 23, 4] := by simpa using Array.mem_of_getElem? ht
        have hall : ([23, 23, 4].all fun u => !Tryz.prog.wantsStandIn u) = true := by kernel_rfl
        exact (show Tryz.prog.wantsStandIn t = false by simpa using List.all_eq_true.1 hall t hm)⟩)
    (by kernel_rfl)
#print axioms proved
end Go.Proofs.YtcmpamnhegndnaaGreatDoor.peerMeets
