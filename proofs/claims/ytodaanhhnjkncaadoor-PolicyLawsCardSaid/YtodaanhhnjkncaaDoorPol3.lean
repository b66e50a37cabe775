/- policy: Check, CheckPred; holds. -/
import Derived.Test.YtodaanhhnjkncaaDoorPol2
namespace Go.Proofs.YtodaanhhnjkncaaDoor
open Go.RowKit

theorem St.range {p : Nat → Prop} {w0 w : World} {L : List Ent} (hp : ∀ b, ¬ p b) (hS : St p w0 w L) (b o : Nat) (cs : List Value) (h : w0.rangeAt b o cs) : w.rangeAt b o cs := fun j v hj => hS.old (hp b) (h j v hj)
theorem Nd.At.st {p : Nat → Prop} {w0 w : World} {L : List Ent} {t : Nd} (hp : ∀ b, ¬ p b) (h : t.At w0) (hS : St p w0 w L) : t.At w := Nd.At.keep (hS.range hp) t h
theorem check_c (w : World) (t : Nd) (pred : Bool) (hI : t.In) (hA : t.At w) (hG : GW w) :
    Calls Tryd.prog 65 #[ndV t, .bool pred] w fun e w' => e = .returned (.int .i64 (walkT t 1 pred 0).1) ∧ Frm (fun _ => False) w w' := by
  refine enter Tryd.func65 rfl Tryd.ntmps65 rfl (St.start (fun _ => False) w) ?_
  refine WC.seq ?_
  refine WC.region ?_
  refine WL.box rfl rfl rfl (.none rfl) rfl rfl ?_
  intro g2 hg2
  refine WL.val (v_assign rfl rfl) (.none rfl) rfl rfl ?_
  refine WL.nil ?_
  refine WE.then_n ?_
  refine WC.seq ?_
  refine WC.region ?_
  refine WL.alloc rfl zero_3 (.none rfl) rfl rfl ?_
  intro g5 hg5
  refine WL.store1 rfl rfl rfl rfl one_3 (Nat.le_of_ble_eq_true rfl) (.none rfl) rfl ?_
  refine WL.nil ?_
  refine WE.then_n ?_
  refine WC.seq ?_
  refine WC.region ?_
  refine WL.alloc rfl zero_139 (.none rfl) rfl rfl ?_
  intro g6 hg6
  refine WL.nil ?_
  refine WE.then_n ?_
  refine WC.seq ?_
  refine WC.region ?_
  refine WL.val (v_makeFunc rfl rfl rfl) (.none rfl) rfl rfl ?_
  refine WL.store1 rfl rfl rfl rfl one_139 (Nat.le_of_ble_eq_true rfl) (.none rfl) rfl ?_
  refine WL.nil ?_
  refine WE.then_n ?_
  refine WC.seq ?_
  refine WC.region ?_
  refine WL.val (v_load1 rfl rfl one_139 (cellAt rfl)) (.none rfl) rfl rfl ?_
  refine WL.val (v_loadN rfl rfl many_45 rfl allAt) (.none rfl) rfl rfl ?_
  refine WL.val (v_move rfl rfl) (.none rfl) rfl rfl ?_
  refine WL.callV rfl rfl rfl ck_85 (.none rfl) rfl rfl ?_
  intro w1 hS1
  refine (Chk1_c (fun _ => False) (fun _ h => h) w hG g5 g6 _ t (Nat.le_refl _) [.row g2 (ndL t)] w1 1 pred 0 hI (fun w' hS' => hA.st (fun _ h => h) hS') (by omega) (by omega) (by omega) (by omega) (hS1.perm (List.Perm.swap _ _ _))).mono ?_
  rintro e w' ⟨rfl, hS'⟩
  refine ⟨_, _, rfl, hS', ?_⟩
  refine WL.val (v_assign rfl rfl) (.none rfl) rfl rfl ?_
  refine WL.nil ?_
  refine WE.then_n ?_
  refine WC.ret ?_
  refine WE.ret1 (P := Tryd.prog) (.inl rfl) Tryd.results65 rfl ?_
  exact fun w' h => ⟨rfl, h.frm⟩
theorem Check_c (w : World) (t : Nd) (hI : t.In) (hA : t.At w) (hG : GW w) :
    Calls Tryd.prog 33 #[ndV t] w fun e w' => e = .returned (.int .i64 (walkT t 1 false 0).1) ∧ Frm (fun _ => False) w w' := by
  refine enter Tryd.func33 rfl Tryd.ntmps33 rfl (St.start (fun _ => False) w) ?_
  refine WC.seq ?_
  refine WC.region ?_
  refine WL.box rfl rfl rfl (.none rfl) rfl rfl ?_
  intro g1 hg1
  refine WL.val (v_assign rfl rfl) (.none rfl) rfl rfl ?_
  refine WL.nil ?_
  refine WE.then_n ?_
  refine WC.seq ?_
  refine WC.region ?_
  refine WL.val (v_loadN rfl rfl many_45 rfl allAt) (.none rfl) rfl rfl ?_
  refine WL.call rfl rfl ck_65 (.none rfl) rfl rfl ?_
  intro w hS
  refine Calls.then (check_c w t false hI (hA.st (fun _ h => h) hS) (hG.keep (fun h => h) hS)) hS ?_
  refine WL.val (v_assign rfl rfl) (.none rfl) rfl rfl ?_
  refine WL.nil ?_
  refine WE.then_n ?_
  refine WC.ret ?_
  refine WE.ret1 (P := Tryd.prog) (.inl rfl) Tryd.results33 rfl ?_
  exact fun w' h => ⟨rfl, h.frm⟩
theorem CheckPred_c (w : World) (t : Nd) (hI : t.In) (hA : t.At w) (hG : GW w) :
    Calls Tryd.prog 34 #[ndV t] w fun e w' => e = .returned (.int .i64 (walkT t 1 true 0).1) ∧ Frm (fun _ => False) w w' := by
  refine enter Tryd.func34 rfl Tryd.ntmps34 rfl (St.start (fun _ => False) w) ?_
  refine WC.seq ?_
  refine WC.region ?_
  refine WL.box rfl rfl rfl (.none rfl) rfl rfl ?_
  intro g1 hg1
  refine WL.val (v_assign rfl rfl) (.none rfl) rfl rfl ?_
  refine WL.nil ?_
  refine WE.then_n ?_
  refine WC.seq ?_
  refine WC.region ?_
  refine WL.val (v_loadN rfl rfl many_45 rfl allAt) (.none rfl) rfl rfl ?_
  refine WL.call rfl rfl ck_65 (.none rfl) rfl rfl ?_
  intro w hS
  refine Calls.then (check_c w t true hI (hA.st (fun _ h => h) hS) (hG.keep (fun h => h) hS)) hS ?_
  refine WL.val (v_assign rfl rfl) (.none rfl) rfl rfl ?_
  refine WL.nil ?_
  refine WE.then_n ?_
  refine WC.ret ?_
  refine WE.ret1 (P := Tryd.prog) (.inl rfl) Tryd.results34 rfl ?_
  exact fun w' h => ⟨rfl, h.frm⟩
end Go.Proofs.YtodaanhhnjkncaaDoor
