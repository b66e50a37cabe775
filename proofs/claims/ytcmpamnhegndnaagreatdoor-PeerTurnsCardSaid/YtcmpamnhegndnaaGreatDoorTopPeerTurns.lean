/- 'PeerTurns' of every input: true, and nothing that was there has turned. No condition. (The frame is the kit's own shell, the walk is ours.) -/
import Derived.Test.YtcmpamnhegndnaaGreatDoorRows
import Derived.Test.YtcmpamnhegndnaaGreatDoorBfPeerTurns
import Derived.Test.YtcmpamnhegndnaaGreatDoorCards
import Derived.Test.YtcmpamnhegndnaaGreatDoorTie
import Derived.WalkKit
import Derived.ProofKit
import Derived.OpenShut
import Derived.ShutString
import Derived.ChangeOld
import Derived.Below
import Derived.LaidMore
import Derived.Stop.Joined
import Derived.SevenTiedAt
import Derived.Lib.LaidTab
namespace Go.Proofs.YtcmpamnhegndnaaGreatDoor.peerTurns
open Go.ChangeShapes Go.WideShapes Go.ChangeAt Go.RowKit
set_option linter.unusedVariables false

theorem own : ownKnob Tryz.prog.godebug = none := by kernel_rfl
theorem laidOut : laidOutB Tryz.prog = true := by kernel_rfl

theorem walk (v0 : Value) (w : World) (a0 : Arg Tryz.prog w 68 v0) (hL : laidMetH Tryz.prog [("carrefour/attr.flags", Rows.laid_carrefour_attr_flags), ("carrefour/attr.sizes", Rows.laid_carrefour_attr_sizes)] w) :
    Calls Tryz.prog 7 #[v0] w fun e w' => e = .returned (.bool true) ∧ Below w.heap.size w w' := by
  obtain ⟨a, n, cap, rfl, hc, hmx, hE⟩ := a0.slice (s := 28) Tryz.underlying68 (by kernel_rfl) (by decide)
  obtain ⟨ss, rfl, hr, hg⟩ := hE.stps
  have hGZ : GF w ∧ GZ w := by
    rw [MakeChecks.laidMetH_plain _ _ _ (by kernel_rfl)] at hL
    exact laid_attr hL
  exact (PeerTurns_all w hGZ.1 hGZ.2 a cap ss hr hg).mono fun e w' ⟨he, hF⟩ => ⟨he, hF.below (Nat.le_refl _) (fun _ h => h.elim)⟩

theorem door_met (os : Os) (args : Array Value) : laidMetH Tryz.prog [("carrefour/attr.flags", Rows.laid_carrefour_attr_flags), ("carrefour/attr.sizes", Rows.laid_carrefour_attr_sizes)] ((World.doorLaid Tryz.prog 19 os).forCall (fun _ _ => 0) ⟨#[], args, []⟩).memory :=
  laidMetH_of_parts3 (fuel := 8) (laidMet_of_run' 8 (by kernel_rfl) (by kernel_rfl)) (by kernel_rfl) (by kernel_rfl)
set_option maxRecDepth 100000 in
theorem lifted (os : Os) (started : os.Started) (H : Type) (enc : TypeId × Value → H) :
    ReturnsInHanded {} Tryz.checked os 7 .any (fun w args => (Rows.peerTurnsSpec.pre enc Tryz.prog Tryz.f7 [] false w args ∧ laidMetH Tryz.prog [("carrefour/attr.flags", Rows.laid_carrefour_attr_flags), ("carrefour/attr.sizes", Rows.laid_carrefour_attr_sizes)] w) ∧ sizedMet enc Tryz.prog Tryz.f7 (OpenSpec.ofChange Rows.peerTurnsSpec) false w args)
      (Rows.peerTurnsSpec.post enc Tryz.prog Tryz.f7 false true false false) := by
  refine returnsInHanded_of_change_and (C := Tryz.checked) (X := fun w _ => laidMetH Tryz.prog [("carrefour/attr.flags", Rows.laid_carrefour_attr_flags), ("carrefour/attr.sizes", Rows.laid_carrefour_attr_sizes)] w) (fun _ _ _ hh h => h.of_heap hh) own started (by kernel_rfl) Tryz.func7
    (ChangeSpec.witness_shaped (enc := enc) (C := Tryz.checked) (os := os) (X := fun w _ => laidMetH Tryz.prog [("carrefour/attr.flags", Rows.laid_carrefour_attr_flags), ("carrefour/attr.sizes", Rows.laid_carrefour_attr_sizes)] w) false (World.doorLaid Tryz.prog 19 os) #[.slice none 0 0] 8 rfl (World.shaped_of_RefB (by kernel_rfl) (by kernel_rfl)) (by kernel_rfl) (by kernel_rfl) (by kernel_rfl) (door_met os _)) ?_
  intro W base args ds gs before hval0 hW hcnd _ hL _
  have hval : ∀ (j : Nat) t v, Tryz.f7.params[j]? = some t → args[j]? = some v → Value.okWide Tryz.prog W .any base t v := hval0
  have hW' := hW
  obtain ⟨p, q, hA0, hV, rfl, hfz, hnd⟩ := hW
  have hA : DataW.TrodAll enc Tryz.prog W 0 (fun _ => true) true Tryz.f7.params.toList args.toList ds p := hA0
  rw [Tryz.params7] at hA hval
  obtain ⟨v0, vs0, d0, ds0, p0, q0, hargs, rfl, rfl, h0, r0⟩ := trodAll_cons hA
  obtain ⟨rfl, rfl, rfl⟩ := trodAll_nil r0
  obtain rfl : args = #[v0] := by cases args; simp_all
  obtain ⟨rfl, rfl⟩ := trodVars_none hV
  have k0 := h0
  have lt0 : ∀ x ∈ p0, x.block < W.heap.size := by obtain ⟨m, hm⟩ := k0; exact DataW.trod_lt m _ _ _ hm
  have b0 : Arg Tryz.prog W 68 v0 := ⟨⟨base, hval 0 68 v0 rfl rfl⟩, h0.elim fun m hm => ⟨H, enc, m, _, hm⟩⟩
  clear hA0 hval0
  refine (walk v0 W b0 hL).mono fun e W' ⟨he, bel⟩ => ?_
  subst he
  exact ⟨_, rfl, _, _, _, [], _, [], hW', trodAll_mk1 (shut_bool Tryz.underlying4 _), (trodAll_cons_mk (Below.trod laidOut (by kernel_rfl) (of_decide_eq_true (by kernel_rfl)) k0 bel lt0) trodAll_mk0), rfl, bel.frame _, fun h => by cases h⟩

theorem over : Rows.peerTurnsRow.holds Tryz.pinned (OpenSpec.ofChange Rows.peerTurnsSpec) :=
  OpenClaim.holds_of_wide 7 Tryz.f7 rfl rfl rfl rfl rfl rfl rfl ⟨rfl, rfl, rfl, rfl, rfl⟩ rfl rfl rfl rfl rfl (by kernel_rfl) Tryz.func7 (by kernel_rfl)
    (of_decide_eq_true (by kernel_rfl)) (by unfold Func.isWrapper; first | (rw [if_pos (by decide +kernel)]; kernel_rfl) | (rw [if_neg (by decide +kernel)]; exact ⟨rfl, rfl⟩))
    (fun os started H enc _ => lifted os started H enc)

/-- ████ THE STATEMENT: THE TIED CARD ████ -/
theorem proved : Rows.PeerTurnsCardSaid :=
  Claim7.holds_tied_plain_at .later [] [.data, .data] true (true, "91d4db816b8b3e315c611a8cbae170fd5ba9ef10ff880f9f2a2bc59cae835e5d") true
    over (fun _ h => by cases h) (by kernel_rfl) (fun _ h => by cases h) peerTurns_row_tie rfl ⟨rfl, rfl⟩ (by kernel_rfl) rfl
    (fun f fn hf hfn => by
      obtain rfl : f = 7 := Option.some.inj ((show Tryz.prog.funcNamed "carrefour/carrefourlaw10.PeerTurns" = some 7 by kernel_rfl).symm.trans hf) |>.symm
      obtain rfl : fn = Tryz.f7 := (Option.some.inj (Tryz.func7.symm.trans hfn)).symm
      exact ⟨by kernel_rfl, fun j t ht => by
        rw [Tryz.params7] at ht
        have hm : t ∈ [68] := by simpa using Array.mem_of_getElem? ht
        have hall : ([68].all fun u => !Tryz.prog.wantsStandIn u) = true := by kernel_rfl
        exact (show Tryz.prog.wantsStandIn t = false by simpa using List.all_eq_true.1 hall t hm)⟩)
    (by kernel_rfl)
#print axioms proved
end Go.Proofs.YtcmpamnhegndnaaGreatDoor.peerTurns
