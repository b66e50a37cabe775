/- The law RulesActs, walked. -/
import Derived.Test.YtodaanhhnjkncaaDoorActE
import Derived.Test.YtodaanhhnjkncaaDoorActP
namespace Go.Proofs.YtodaanhhnjkncaaDoor
open Go.RowKit

set_option maxHeartbeats 2000000 in
theorem Acts_bad (w0 : World) (a b : Ac) (H : Hd) (hva : a.In) (_hvb : b.In) (_hH : H.In) (hG : GW w0) (ha : ¬ a.Ok) :
    Calls Tryd.prog 3 #[acV a, acV b, .agg (hdCells H)] w0 fun e w' => e = .returned (.bool true) ∧ Frm (fun _ => False) w0 w' := by
  refine enter Tryd.func3 rfl Tryd.ntmps3 rfl (St.start (fun _ => False) w0) ?_
  refine WC.seq ?_
  refine WC.region ?_
  refine WL.box rfl rfl rfl (.none rfl) rfl rfl ?_
  intro g3 hg3
  refine WL.box rfl rfl rfl (.none rfl) rfl rfl ?_
  intro g4 hg4
  refine WL.box rfl rfl rfl (.none rfl) rfl rfl ?_
  intro g5 hg5
  refine WL.val (v_assign rfl rfl) (.none rfl) rfl rfl ?_
  refine WL.nil ?_
  refine WE.then_n ?_
  refine WC.seq ?_
  refine WC.seq ?_
  refine WC.region ?_
  refine WL.call rfl rfl ck_12 (.none rfl) rfl rfl ?_
  intro w hS
  refine Calls.then (Ex17_c w (hG.keep (fun h => h) hS)) hS ?_
  refine WL.val (v_not rfl rfl rfl) (.none rfl) rfl rfl ?_
  refine WL.nil ?_
  refine WE.then_n ?_
  refine WC.cond_f rfl ?_
  refine WC.skip ?_
  refine WE.then_n ?_
  refine WC.seq ?_
  refine WC.seq ?_
  refine WC.quiet mixed (by kernel_rfl) ?_
  refine WQ.val (v_loadN rfl rfl many_25 rfl allAt) (.none rfl) rfl rfl ?_
  refine WQ.call _ rfl rfl ck_13 (.none rfl) rfl rfl (fun w hS => Calls.still ((ACheck_c w a (hG.keep (fun h => h) hS)).mono fun _ _ h => ⟨by rw [h.1, if_neg ha], h.2⟩) hS) ?_
  refine WQ.val ((v_eql rfl rfl rfl).f (by omega)) (.none rfl) rfl rfl ?_
  refine WQ.val (v_loadN rfl rfl many_25 rfl allAt) (.none rfl) rfl rfl ?_
  refine WQ.call _ rfl rfl ck_14 (.none rfl) rfl rfl (fun w hS => Calls.still ((LRight_c w a hva (hG.keep (fun h => h) hS)).mono fun _ _ h => ⟨by rw [h.1, decide_eq_false ha], h.2⟩) hS) ?_
  refine WQ.val ((v_neq_bool rfl rfl rfl Tryd.underlying4).f (fun h => h rfl)) (.none rfl) rfl rfl ?_
  refine WQ.val (v_move rfl rfl) (.none rfl) rfl rfl ?_
  refine WQ.val (v_loadN rfl rfl many_25 rfl allAt) (.some rfl rfl rfl) rfl rfl ?_
  refine WQ.call _ rfl rfl ck_14 (.some rfl rfl rfl) rfl rfl (fun w hS => Calls.still ((LRight_c w a hva (hG.keep (fun h => h) hS)).mono fun _ _ h => ⟨by rw [h.1, decide_eq_false ha], h.2⟩) hS) ?_
  refine WQ.val (v_not rfl rfl rfl) (.some rfl rfl rfl) rfl rfl ?_
  refine WQ.val (v_move rfl rfl) (.some rfl rfl rfl) rfl rfl ?_
  refine WQ.val (v_loadN rfl rfl many_25 rfl allAt) (.some rfl rfl rfl) rfl rfl ?_
  refine WQ.call _ rfl rfl ck_13 (.some rfl rfl rfl) rfl rfl (fun w hS => Calls.still ((ACheck_c w a (hG.keep (fun h => h) hS)).mono fun _ _ h => ⟨by rw [h.1, if_neg ha], h.2⟩) hS) ?_
  refine WQ.val ((v_neq rfl rfl rfl).f (fun h => h rfl)) (.some rfl rfl rfl) rfl rfl ?_
  refine WQ.val (v_pick_t rfl rfl rfl) (.some rfl rfl rfl) rfl rfl ?_
  refine WQ.val (v_pick_f rfl rfl rfl) (.none rfl) rfl rfl ?_
  refine WQ.nil ?_
  refine WE.then_n ?_
  refine WC.cond_f rfl ?_
  refine WC.skip ?_
  refine WE.then_n ?_
  refine WC.seq ?_
  refine WC.seq ?_
  refine WC.region ?_
  refine WL.val (v_loadN rfl rfl many_25 rfl allAt) (.none rfl) rfl rfl ?_
  refine WL.call rfl rfl ck_14 (.none rfl) rfl rfl ?_
  intro w hS
  refine Calls.then ((LRight_c w a hva (hG.keep (fun h => h) hS)).mono fun _ _ h => ⟨by rw [h.1, decide_eq_false ha], h.2⟩) hS ?_
  refine WL.val (v_not rfl rfl rfl) (.none rfl) rfl rfl ?_
  refine WL.val (v_move rfl rfl) (.none rfl) rfl rfl ?_
  refine WL.skip rfl rfl rfl rfl rfl rfl ?_
  refine WL.skip rfl rfl rfl rfl rfl rfl ?_
  refine WL.skip rfl rfl rfl rfl rfl rfl ?_
  refine WL.val (v_pick_t rfl rfl rfl) (.none rfl) rfl rfl ?_
  refine WL.nil ?_
  refine WE.then_n ?_
  refine WC.cond_t rfl ?_
  refine WC.seq ?_
  refine WC.region ?_
  refine WL.val (v_assign rfl rfl) (.none rfl) rfl rfl ?_
  refine WL.nil ?_
  refine WE.then_n ?_
  refine WC.ret ?_
  refine WE.then_ret ?_
  refine WE.ret1 (P := Tryd.prog) (.inl rfl) Tryd.results3 rfl ?_
  exact fun w' h => ⟨rfl, h.frm⟩
set_option maxHeartbeats 2000000 in
theorem Acts_badb (w0 : World) (a b : Ac) (H : Hd) (hva : a.In) (hvb : b.In) (_hH : H.In) (hG : GW w0) (ha : a.Ok) (hb : ¬ b.Ok) :
    Calls Tryd.prog 3 #[acV a, acV b, .agg (hdCells H)] w0 fun e w' => e = .returned (.bool true) ∧ Frm (fun _ => False) w0 w' := by
  refine enter Tryd.func3 rfl Tryd.ntmps3 rfl (St.start (fun _ => False) w0) ?_
  refine WC.seq ?_
  refine WC.region ?_
  refine WL.box rfl rfl rfl (.none rfl) rfl rfl ?_
  intro g3 hg3
  refine WL.box rfl rfl rfl (.none rfl) rfl rfl ?_
  intro g4 hg4
  refine WL.box rfl rfl rfl (.none rfl) rfl rfl ?_
  intro g5 hg5
  refine WL.val (v_assign rfl rfl) (.none rfl) rfl rfl ?_
  refine WL.nil ?_
  refine WE.then_n ?_
  refine WC.seq ?_
  refine WC.seq ?_
  refine WC.region ?_
  refine WL.call rfl rfl ck_12 (.none rfl) rfl rfl ?_
  intro w hS
  refine Calls.then (Ex17_c w (hG.keep (fun h => h) hS)) hS ?_
  refine WL.val (v_not rfl rfl rfl) (.none rfl) rfl rfl ?_
  refine WL.nil ?_
  refine WE.then_n ?_
  refine WC.cond_f rfl ?_
  refine WC.skip ?_
  refine WE.then_n ?_
  refine WC.seq ?_
  refine WC.seq ?_
  refine WC.orders mixed ?_
  refine WR.read (g := 4) [0, 1, 2, 3, 4, 5, 6, 7, 8, 9, 10, 11] (by kernel_rfl) (by kernel_rfl) (by kernel_rfl) (by kernel_rfl) rfl ?_
  refine WQ.val (v_loadN rfl rfl many_25 rfl allAt) (.none rfl) rfl rfl ?_
  refine WQ.call _ rfl rfl ck_13 (.none rfl) rfl rfl (fun w hS => Calls.still ((ACheck_c w a (hG.keep (fun h => h) hS)).mono fun _ _ h => ⟨by rw [h.1, if_pos ha], h.2⟩) hS) ?_
  refine WQ.val ((v_eql rfl rfl rfl).t (rfl)) (.none rfl) rfl rfl ?_
  refine WQ.val (v_loadN rfl rfl many_25 rfl allAt) (.none rfl) rfl rfl ?_
  refine WQ.call _ rfl rfl ck_14 (.none rfl) rfl rfl (fun w hS => Calls.still ((LRight_c w a hva (hG.keep (fun h => h) hS)).mono fun _ _ h => ⟨by rw [h.1, decide_eq_true ha], h.2⟩) hS) ?_
  refine WQ.val ((v_neq_bool rfl rfl rfl Tryd.underlying4).f (fun h => h rfl)) (.none rfl) rfl rfl ?_
  refine WQ.val (v_move rfl rfl) (.none rfl) rfl rfl ?_
  refine WQ.val (v_loadN rfl rfl many_25 rfl allAt) (.some rfl rfl rfl) rfl rfl ?_
  refine WQ.call _ rfl rfl ck_14 (.some rfl rfl rfl) rfl rfl (fun w hS => Calls.still ((LRight_c w a hva (hG.keep (fun h => h) hS)).mono fun _ _ h => ⟨by rw [h.1, decide_eq_true ha], h.2⟩) hS) ?_
  refine WQ.val (v_not rfl rfl rfl) (.some rfl rfl rfl) rfl rfl ?_
  refine WQ.val (v_move rfl rfl) (.some rfl rfl rfl) rfl rfl ?_
  refine WQ.skip rfl rfl rfl rfl rfl rfl ?_
  refine WQ.nilR ?_
  refine WR.ones (g := 3) [12] (by kernel_rfl) ?_
  refine WL.skip rfl rfl rfl rfl rfl rfl ?_
  refine WL.nilR ?_
  refine WR.first (g := 0) [13, 14, 15] (by kernel_rfl) (by kernel_rfl) ?_
  refine WP.skip rfl rfl rfl rfl rfl rfl ?_
  refine WP.val (v_pick_f rfl rfl rfl) (.some rfl rfl rfl) rfl rfl ?_
  refine WP.val (v_pick_f rfl rfl rfl) (.none rfl) rfl rfl ?_
  refine WP.nil ?_
  refine WR.done (by kernel_rfl) ?_
  refine WE.then_n ?_
  refine WC.cond_f rfl ?_
  refine WC.skip ?_
  refine WE.then_n ?_
  refine WC.seq ?_
  refine WC.seq ?_
  refine WC.region ?_
  refine WL.val (v_loadN rfl rfl many_25 rfl allAt) (.none rfl) rfl rfl ?_
  refine WL.call rfl rfl ck_14 (.none rfl) rfl rfl ?_
  intro w hS
  refine Calls.then ((LRight_c w a hva (hG.keep (fun h => h) hS)).mono fun _ _ h => ⟨by rw [h.1, decide_eq_true ha], h.2⟩) hS ?_
  refine WL.val (v_not rfl rfl rfl) (.none rfl) rfl rfl ?_
  refine WL.val (v_move rfl rfl) (.none rfl) rfl rfl ?_
  refine WL.val (v_loadN rfl rfl many_25 rfl allAt) (.some rfl rfl rfl) rfl rfl ?_
  refine WL.call rfl rfl ck_14 (.some rfl rfl rfl) rfl rfl ?_
  intro w hS
  refine Calls.then ((LRight_c w b hvb (hG.keep (fun h => h) hS)).mono fun _ _ h => ⟨by rw [h.1, decide_eq_false hb], h.2⟩) hS ?_
  refine WL.val (v_not rfl rfl rfl) (.some rfl rfl rfl) rfl rfl ?_
  refine WL.val (v_pick_f rfl rfl rfl) (.none rfl) rfl rfl ?_
  refine WL.nil ?_
  refine WE.then_n ?_
  refine WC.cond_t rfl ?_
  refine WC.seq ?_
  refine WC.region ?_
  refine WL.val (v_assign rfl rfl) (.none rfl) rfl rfl ?_
  refine WL.nil ?_
  refine WE.then_n ?_
  refine WC.ret ?_
  refine WE.then_ret ?_
  refine WE.ret1 (P := Tryd.prog) (.inl rfl) Tryd.results3 rfl ?_
  exact fun w' h => ⟨rfl, h.frm⟩
set_option maxHeartbeats 2000000 in
theorem Acts_eq (w0 : World) (a b : Ac) (H : Hd) (hva : a.In) (hvb : b.In) (hH : H.In) (hG : GW w0) (ha : a.Ok) (hb : b.Ok) (he : acL a = acL b) :
    Calls Tryd.prog 3 #[acV a, acV b, .agg (hdCells H)] w0 fun e w' => e = .returned (.bool true) ∧ Frm (fun _ => False) w0 w' := by
  refine enter Tryd.func3 rfl Tryd.ntmps3 rfl (St.start (fun _ => False) w0) ?_
  refine WC.seq ?_
  refine WC.region ?_
  refine WL.box rfl rfl rfl (.none rfl) rfl rfl ?_
  intro g3 hg3
  refine WL.box rfl rfl rfl (.none rfl) rfl rfl ?_
  intro g4 hg4
  refine WL.box rfl rfl rfl (.none rfl) rfl rfl ?_
  intro g5 hg5
  refine WL.val (v_assign rfl rfl) (.none rfl) rfl rfl ?_
  refine WL.nil ?_
  refine WE.then_n ?_
  refine WC.seq ?_
  refine WC.seq ?_
  refine WC.region ?_
  refine WL.call rfl rfl ck_12 (.none rfl) rfl rfl ?_
  intro w hS
  refine Calls.then (Ex17_c w (hG.keep (fun h => h) hS)) hS ?_
  refine WL.val (v_not rfl rfl rfl) (.none rfl) rfl rfl ?_
  refine WL.nil ?_
  refine WE.then_n ?_
  refine WC.cond_f rfl ?_
  refine WC.skip ?_
  refine WE.then_n ?_
  refine WC.seq ?_
  refine WC.seq ?_
  refine WC.orders mixed ?_
  refine WR.read (g := 4) [0, 1, 2, 3, 4, 5, 6, 7, 8, 9, 10, 11] (by kernel_rfl) (by kernel_rfl) (by kernel_rfl) (by kernel_rfl) rfl ?_
  refine WQ.val (v_loadN rfl rfl many_25 rfl allAt) (.none rfl) rfl rfl ?_
  refine WQ.call _ rfl rfl ck_13 (.none rfl) rfl rfl (fun w hS => Calls.still ((ACheck_c w a (hG.keep (fun h => h) hS)).mono fun _ _ h => ⟨by rw [h.1, if_pos ha], h.2⟩) hS) ?_
  refine WQ.val ((v_eql rfl rfl rfl).t (rfl)) (.none rfl) rfl rfl ?_
  refine WQ.val (v_loadN rfl rfl many_25 rfl allAt) (.none rfl) rfl rfl ?_
  refine WQ.call _ rfl rfl ck_14 (.none rfl) rfl rfl (fun w hS => Calls.still ((LRight_c w a hva (hG.keep (fun h => h) hS)).mono fun _ _ h => ⟨by rw [h.1, decide_eq_true ha], h.2⟩) hS) ?_
  refine WQ.val ((v_neq_bool rfl rfl rfl Tryd.underlying4).f (fun h => h rfl)) (.none rfl) rfl rfl ?_
  refine WQ.val (v_move rfl rfl) (.none rfl) rfl rfl ?_
  refine WQ.val (v_loadN rfl rfl many_25 rfl allAt) (.some rfl rfl rfl) rfl rfl ?_
  refine WQ.call _ rfl rfl ck_14 (.some rfl rfl rfl) rfl rfl (fun w hS => Calls.still ((LRight_c w a hva (hG.keep (fun h => h) hS)).mono fun _ _ h => ⟨by rw [h.1, decide_eq_true ha], h.2⟩) hS) ?_
  refine WQ.val (v_not rfl rfl rfl) (.some rfl rfl rfl) rfl rfl ?_
  refine WQ.val (v_move rfl rfl) (.some rfl rfl rfl) rfl rfl ?_
  refine WQ.skip rfl rfl rfl rfl rfl rfl ?_
  refine WQ.nilR ?_
  refine WR.ones (g := 3) [12] (by kernel_rfl) ?_
  refine WL.skip rfl rfl rfl rfl rfl rfl ?_
  refine WL.nilR ?_
  refine WR.first (g := 0) [13, 14, 15] (by kernel_rfl) (by kernel_rfl) ?_
  refine WP.skip rfl rfl rfl rfl rfl rfl ?_
  refine WP.val (v_pick_f rfl rfl rfl) (.some rfl rfl rfl) rfl rfl ?_
  refine WP.val (v_pick_f rfl rfl rfl) (.none rfl) rfl rfl ?_
  refine WP.nil ?_
  refine WR.done (by kernel_rfl) ?_
  refine WE.then_n ?_
  refine WC.cond_f rfl ?_
  refine WC.skip ?_
  refine WE.then_n ?_
  refine WC.seq ?_
  refine WC.seq ?_
  refine WC.region ?_
  refine WL.val (v_loadN rfl rfl many_25 rfl allAt) (.none rfl) rfl rfl ?_
  refine WL.call rfl rfl ck_14 (.none rfl) rfl rfl ?_
  intro w hS
  refine Calls.then ((LRight_c w a hva (hG.keep (fun h => h) hS)).mono fun _ _ h => ⟨by rw [h.1, decide_eq_true ha], h.2⟩) hS ?_
  refine WL.val (v_not rfl rfl rfl) (.none rfl) rfl rfl ?_
  refine WL.val (v_move rfl rfl) (.none rfl) rfl rfl ?_
  refine WL.val (v_loadN rfl rfl many_25 rfl allAt) (.some rfl rfl rfl) rfl rfl ?_
  refine WL.call rfl rfl ck_14 (.some rfl rfl rfl) rfl rfl ?_
  intro w hS
  refine Calls.then ((LRight_c w b hvb (hG.keep (fun h => h) hS)).mono fun _ _ h => ⟨by rw [h.1, decide_eq_true hb], h.2⟩) hS ?_
  refine WL.val (v_not rfl rfl rfl) (.some rfl rfl rfl) rfl rfl ?_
  refine WL.val (v_pick_f rfl rfl rfl) (.none rfl) rfl rfl ?_
  refine WL.nil ?_
  refine WE.then_n ?_
  refine WC.cond_f rfl ?_
  refine WC.skip ?_
  refine WE.then_n ?_
  refine WC.seq ?_
  refine WC.region ?_
  refine WL.val (v_loadN rfl rfl many_25 rfl allAt) (.none rfl) rfl rfl ?_
  refine WL.val (v_loadN rfl rfl many_31 rfl allAt) (.none rfl) rfl rfl ?_
  refine WL.call rfl rfl ck_15 (.none rfl) rfl rfl ?_
  intro w hS
  refine Calls.then (Apply_c w a H hva ha (hG.keep (fun h => h) hS)) hS ?_
  refine WL.alloc rfl zero_31 (.none rfl) rfl rfl ?_
  intro g7 hg7
  refine WL.storeW rfl rfl rfl rfl many_31 rfl rfl (.none rfl) rfl ?_
  refine WL.nil ?_
  refine WE.then_n ?_
  refine WC.seq ?_
  refine WC.seq ?_
  refine WC.region ?_
  refine WL.val (v_assign rfl rfl) (.none rfl) rfl rfl ?_
  refine WL.nil ?_
  refine WE.then_n ?_
  refine WC.block ?_
  refine WC.loop (fun k : Nat => [(8, .int .i64 k), (7, .pointer (some ⟨g7, 0, none⟩)), (5, .pointer (some ⟨g5, 0, none⟩)), (4, .pointer (some ⟨g4, 0, none⟩)), (3, .pointer (some ⟨g3, 0, none⟩))]) (fun _ => [.row g7 (hdL (appK a H 9)), .row g5 (hdL H), .row g4 (acL b), .row g3 (acL a)]) (fun k => k ≤ 9) (fun k => 9 - k) 0 (Nat.zero_le _) (.cons rfl (.cons rfl (.cons rfl (.cons rfl (.cons rfl .nil))))) (.refl _) ?_
  intro k hk
  refine WC.seq ?_
  refine WC.seq ?_
  refine WC.region ?_
  refine WL.val (v_move rfl rfl) (.none rfl) rfl rfl ?_
  refine WL.test (v_lss rfl rfl rfl) (.none rfl) rfl rfl (fun h41 => ?_) (fun h41 => ?_)
  · -- 41T
    refine WL.nil ?_
    refine WE.then_n ?_
    refine WC.cond_t rfl ?_
    refine WC.skip ?_
    refine WE.then_n ?_
    refine WC.seq ?_
    refine WC.block ?_
    refine WC.seq ?_
    refine WC.region ?_
    refine WL.val (v_loadN rfl rfl many_31 rfl allAt) (.none rfl) rfl rfl ?_
    refine WL.val (v_move rfl rfl) (.none rfl) rfl rfl ?_
    refine WL.call rfl rfl ck_16 (.none rfl) rfl rfl ?_
    intro w hS
    refine Calls.then (Get_c w H k (by omega) hH (hG.keep (fun h => h) hS)) hS ?_
    refine WL.val (v_assign rfl rfl) (.none rfl) rfl rfl ?_
    refine WL.nil ?_
    refine WE.then_n ?_
    refine WC.seq ?_
    refine WC.seq ?_
    refine WC.region ?_
    refine WL.val (v_fieldAddr0 rfl rfl fld_25_0) (.none rfl) rfl rfl ?_
    refine WL.val (v_load1 rfl rfl one_3 (cellAt rfl)) (.none rfl) rfl rfl ?_
    refine WL.val (v_move rfl rfl) (.none rfl) rfl rfl ?_
    refine WL.val (v_conv rfl rfl Tryd.underlying39 Tryd.underlying37 (by first | exact w_u64 (by omega) (by omega) | exact w_u64m _)) (.none rfl) rfl rfl ?_
    refine WL.val (v_shr (m := k) (c := (2 : Int) ^ k) rfl rfl rfl rfl (by show k ≤ 64; omega) rfl) (.none rfl) rfl rfl ?_
    refine WL.val (v_and rfl rfl rfl (mask_i64' (i := 1) (m := 2) (by decide) (by decide) (by decide))) (.none rfl) rfl rfl ?_
    refine WL.test (v_eql rfl rfl rfl) (.none rfl) rfl rfl (fun h53 => ?_) (fun h53 => ?_)
    · -- 53T
      refine WL.nil ?_
      refine WE.then_n ?_
      refine WC.cond_t rfl ?_
      refine WC.region ?_
      refine WL.val (v_move rfl rfl) (.none rfl) rfl rfl ?_
      refine WL.val (v_fieldAddr0 rfl rfl fld_25_1) (.none rfl) rfl rfl ?_
      refine WL.val (v_indexAddrA (lo := k) rfl rfl rfl Tryd.underlying23 sz_22 (by omega) (by omega)) (.none rfl) rfl rfl ?_
      refine WL.val (v_load1 rfl rfl one_22 (cellAt (acL_get a (by omega)))) (.none rfl) rfl rfl ?_
      refine WL.val (v_assign rfl rfl) (.none rfl) rfl rfl ?_
      refine WL.nil ?_
      refine WE.then_n ?_
      refine WC.seq ?_
      refine WC.region ?_
      refine WL.val (v_loadN rfl rfl many_31 rfl allAt) (.none rfl) rfl rfl ?_
      refine WL.val (v_move rfl rfl) (.none rfl) rfl rfl ?_
      refine WL.call rfl rfl ck_16 (.none rfl) rfl rfl ?_
      intro w hS
      refine Calls.then (Get_c w (appK a H 9) k (by omega) (appK_in hH hva ha 9 (by omega)) (hG.keep (fun h => h) hS)) hS ?_
      refine WL.val (v_move rfl rfl) (.none rfl) rfl rfl ?_
      refine WL.val ((v_neq rfl rfl rfl).f (fun h => h (by rw [getF_appK hva ha H (by omega), if_pos (c := a.sets k) h53]))) (.none rfl) rfl rfl ?_
      refine WL.nil ?_
      refine WE.then_n ?_
      refine WC.cond_f rfl ?_
      refine WC.skip ?_
      refine WE.block_n ?_
      refine WE.then_n ?_
      refine WC.region ?_
      refine WL.val (v_move rfl rfl) (.none rfl) rfl rfl ?_
      refine WL.val (v_add rfl rfl rfl (w_i64 (by omega) (by omega))) (.none rfl) rfl rfl ?_
      refine WL.val (v_assign rfl rfl) (.none rfl) rfl rfl ?_
      refine WL.nil ?_
      exact WE.next (k + 1) (by omega) (by omega) (.int rfl (by omega) (.cons rfl (.cons rfl (.cons rfl (.cons rfl .nil))))) (.refl _)
    · -- 53F
      refine WL.nil ?_
      refine WE.then_n ?_
      refine WC.cond_f rfl ?_
      refine WC.skip ?_
      refine WE.then_n ?_
      refine WC.seq ?_
      refine WC.region ?_
      refine WL.val (v_loadN rfl rfl many_31 rfl allAt) (.none rfl) rfl rfl ?_
      refine WL.val (v_move rfl rfl) (.none rfl) rfl rfl ?_
      refine WL.call rfl rfl ck_16 (.none rfl) rfl rfl ?_
      intro w hS
      refine Calls.then (Get_c w (appK a H 9) k (by omega) (appK_in hH hva ha 9 (by omega)) (hG.keep (fun h => h) hS)) hS ?_
      refine WL.val (v_move rfl rfl) (.none rfl) rfl rfl ?_
      refine WL.val ((v_neq rfl rfl rfl).f (fun h => h (by rw [getF_appK hva ha H (by omega), if_neg (c := a.sets k) h53]))) (.none rfl) rfl rfl ?_
      refine WL.nil ?_
      refine WE.then_n ?_
      refine WC.cond_f rfl ?_
      refine WC.skip ?_
      refine WE.block_n ?_
      refine WE.then_n ?_
      refine WC.region ?_
      refine WL.val (v_move rfl rfl) (.none rfl) rfl rfl ?_
      refine WL.val (v_add rfl rfl rfl (w_i64 (by omega) (by omega))) (.none rfl) rfl rfl ?_
      refine WL.val (v_assign rfl rfl) (.none rfl) rfl rfl ?_
      refine WL.nil ?_
      exact WE.next (k + 1) (by omega) (by omega) (.int rfl (by omega) (.cons rfl (.cons rfl (.cons rfl (.cons rfl .nil))))) (.refl _)
  · -- 41F
    refine WL.nil ?_
    refine WE.then_n ?_
    refine WC.cond_f rfl ?_
    refine WC.exit ?_
    refine WE.then_exit ?_
    refine WE.then_exit ?_
    refine WE.block_hit ?_
    refine WE.then_n ?_
    refine WC.seq ?_
    refine WC.region ?_
    refine WL.val (v_loadN rfl rfl many_25 rfl allAt) (.none rfl) rfl rfl ?_
    refine WL.val (v_loadN rfl rfl many_25 rfl allAt) (.none rfl) rfl rfl ?_
    refine WL.call rfl rfl ck_17 (.none rfl) rfl rfl ?_
    intro w hS
    refine Calls.then (Then_c w a b ha hb) hS ?_
    refine WL.alloc rfl zero_25 (.none rfl) rfl rfl ?_
    intro g10 hg10
    refine WL.storeW rfl rfl rfl rfl many_25 rfl rfl (.none rfl) rfl ?_
    refine WL.nil ?_
    refine WE.then_n ?_
    refine WC.seq ?_
    refine WC.quiet mixed (by kernel_rfl) ?_
    refine WQ.val (v_loadN rfl rfl many_25 rfl allAt) (.none rfl) rfl rfl ?_
    refine WQ.call _ rfl rfl ck_14 (.none rfl) rfl rfl (fun w hS => Calls.still ((LRight_c w (a.then b) (then_in ha hb hva hvb) (hG.keep (fun h => h) hS)).mono fun _ _ h => ⟨by rw [h.1, decide_eq_true (then_ok ha hb)], h.2⟩) hS) ?_
    refine WQ.val (v_move rfl rfl) (.none rfl) rfl rfl ?_
    refine WQ.val (v_loadN rfl rfl many_25 rfl allAt) (.some rfl rfl rfl) rfl rfl ?_
    refine WQ.val (v_loadN rfl rfl many_31 rfl allAt) (.some rfl rfl rfl) rfl rfl ?_
    refine WQ.call _ rfl rfl ck_15 (.some rfl rfl rfl) rfl rfl (fun w hS => Calls.still (Apply_c w (a.then b) H (then_in ha hb hva hvb) (then_ok ha hb) (hG.keep (fun h => h) hS)) hS) ?_
    refine WQ.val (v_loadN rfl rfl many_25 rfl allAt) (.some rfl rfl rfl) rfl rfl ?_
    refine WQ.val (v_loadN rfl rfl many_25 rfl allAt) (.some rfl rfl rfl) rfl rfl ?_
    refine WQ.val (v_loadN rfl rfl many_31 rfl allAt) (.some rfl rfl rfl) rfl rfl ?_
    refine WQ.call _ rfl rfl ck_15 (.some rfl rfl rfl) rfl rfl (fun w hS => Calls.still (Apply_c w a H hva ha (hG.keep (fun h => h) hS)) hS) ?_
    refine WQ.call _ rfl rfl ck_15 (.some rfl rfl rfl) rfl rfl (fun w hS => Calls.still (Apply_c w b (appK a H 9) hvb hb (hG.keep (fun h => h) hS)) hS) ?_
    refine WQ.val (v_eql_aggT rfl rfl rfl eqk_31 eqg_31 rfl rfl (by exact congrArg hdL (then_apply ha hb H))) (.some rfl rfl rfl) rfl rfl ?_
    refine WQ.val (v_pick_t rfl rfl rfl) (.none rfl) rfl rfl ?_
    refine WQ.val (v_move rfl rfl) (.none rfl) rfl rfl ?_
    refine WQ.val (v_loadN rfl rfl many_25 rfl allAt) (.some rfl rfl rfl) rfl rfl ?_
    refine WQ.val (v_loadN rfl rfl many_25 rfl allAt) (.some rfl rfl rfl) rfl rfl ?_
    refine WQ.call _ rfl rfl ck_17 (.some rfl rfl rfl) rfl rfl (fun w hS => Calls.still (Then_c w a a ha ha) hS) ?_
    refine WQ.val (v_loadN rfl rfl many_25 rfl allAt) (.some rfl rfl rfl) rfl rfl ?_
    refine WQ.val (v_eql_aggT rfl rfl rfl eqk_25 eqg_25 rfl rfl (by exact then_self ha)) (.some rfl rfl rfl) rfl rfl ?_
    refine WQ.val (v_pick_t rfl rfl rfl) (.none rfl) rfl rfl ?_
    refine WQ.val (v_move rfl rfl) (.none rfl) rfl rfl ?_
    refine WQ.val (v_loadN rfl rfl many_25 rfl allAt) (.some rfl rfl rfl) rfl rfl ?_
    refine WQ.val (v_loadN rfl rfl many_25 rfl allAt) (.some rfl rfl rfl) rfl rfl ?_
    refine WQ.call _ rfl rfl ck_18 (.some rfl rfl rfl) rfl rfl (fun w hS => Calls.still (ACmp_c w a b) hS) ?_
    refine WQ.val (v_loadN rfl rfl many_25 rfl allAt) (.some rfl rfl rfl) rfl rfl ?_
    refine WQ.val (v_loadN rfl rfl many_25 rfl allAt) (.some rfl rfl rfl) rfl rfl ?_
    refine WQ.call _ rfl rfl ck_18 (.some rfl rfl rfl) rfl rfl (fun w hS => Calls.still (ACmp_c w b a) hS) ?_
    refine WQ.val (v_neg rfl rfl (w_i64 (by have := acmp_le b a; omega) (by have := acmp_le b a; omega))) (.some rfl rfl rfl) rfl rfl ?_
    refine WQ.val ((v_eql rfl rfl rfl).t ((by have := acmp_neg a b; omega))) (.some rfl rfl rfl) rfl rfl ?_
    refine WQ.val (v_pick_t rfl rfl rfl) (.none rfl) rfl rfl ?_
    refine WQ.val (v_move rfl rfl) (.none rfl) rfl rfl ?_
    refine WQ.val (v_loadN rfl rfl many_25 rfl allAt) (.some rfl rfl rfl) rfl rfl ?_
    refine WQ.val (v_loadN rfl rfl many_25 rfl allAt) (.some rfl rfl rfl) rfl rfl ?_
    refine WQ.call _ rfl rfl ck_18 (.some rfl rfl rfl) rfl rfl (fun w hS => Calls.still (ACmp_c w a b) hS) ?_
    refine WQ.val ((v_eql rfl rfl rfl).t ((acmp_zero a b).2 he)) (.some rfl rfl rfl) rfl rfl ?_
    refine WQ.val (v_loadN rfl rfl many_25 rfl allAt) (.some rfl rfl rfl) rfl rfl ?_
    refine WQ.val (v_loadN rfl rfl many_25 rfl allAt) (.some rfl rfl rfl) rfl rfl ?_
    refine WQ.val (v_eql_aggT rfl rfl rfl eqk_25 eqg_25 rfl rfl (by exact he)) (.some rfl rfl rfl) rfl rfl ?_
    refine WQ.val ((v_eql_bool rfl rfl rfl Tryd.underlying4).t (rfl)) (.some rfl rfl rfl) rfl rfl ?_
    refine WQ.val (v_pick_t rfl rfl rfl) (.none rfl) rfl rfl ?_
    refine WQ.val (v_assign rfl rfl) (.none rfl) rfl rfl ?_
    refine WQ.nil ?_
    refine WE.then_n ?_
    refine WC.ret ?_
    refine WE.ret1 (P := Tryd.prog) (.inl rfl) Tryd.results3 rfl ?_
    exact fun w' h => ⟨rfl, h.frm⟩
set_option maxHeartbeats 2000000 in
theorem Acts_ne (w0 : World) (a b : Ac) (H : Hd) (hva : a.In) (hvb : b.In) (hH : H.In) (hG : GW w0) (ha : a.Ok) (hb : b.Ok) (he : ¬ acL a = acL b) :
    Calls Tryd.prog 3 #[acV a, acV b, .agg (hdCells H)] w0 fun e w' => e = .returned (.bool true) ∧ Frm (fun _ => False) w0 w' := by
  refine enter Tryd.func3 rfl Tryd.ntmps3 rfl (St.start (fun _ => False) w0) ?_
  refine WC.seq ?_
  refine WC.region ?_
  refine WL.box rfl rfl rfl (.none rfl) rfl rfl ?_
  intro g3 hg3
  refine WL.box rfl rfl rfl (.none rfl) rfl rfl ?_
  intro g4 hg4
  refine WL.box rfl rfl rfl (.none rfl) rfl rfl ?_
  intro g5 hg5
  refine WL.val (v_assign rfl rfl) (.none rfl) rfl rfl ?_
  refine WL.nil ?_
  refine WE.then_n ?_
  refine WC.seq ?_
  refine WC.seq ?_
  refine WC.region ?_
  refine WL.call rfl rfl ck_12 (.none rfl) rfl rfl ?_
  intro w hS
  refine Calls.then (Ex17_c w (hG.keep (fun h => h) hS)) hS ?_
  refine WL.val (v_not rfl rfl rfl) (.none rfl) rfl rfl ?_
  refine WL.nil ?_
  refine WE.then_n ?_
  refine WC.cond_f rfl ?_
  refine WC.skip ?_
  refine WE.then_n ?_
  refine WC.seq ?_
  refine WC.seq ?_
  refine WC.orders mixed ?_
  refine WR.read (g := 4) [0, 1, 2, 3, 4, 5, 6, 7, 8, 9, 10, 11] (by kernel_rfl) (by kernel_rfl) (by kernel_rfl) (by kernel_rfl) rfl ?_
  refine WQ.val (v_loadN rfl rfl many_25 rfl allAt) (.none rfl) rfl rfl ?_
  refine WQ.call _ rfl rfl ck_13 (.none rfl) rfl rfl (fun w hS => Calls.still ((ACheck_c w a (hG.keep (fun h => h) hS)).mono fun _ _ h => ⟨by rw [h.1, if_pos ha], h.2⟩) hS) ?_
  refine WQ.val ((v_eql rfl rfl rfl).t (rfl)) (.none rfl) rfl rfl ?_
  refine WQ.val (v_loadN rfl rfl many_25 rfl allAt) (.none rfl) rfl rfl ?_
  refine WQ.call _ rfl rfl ck_14 (.none rfl) rfl rfl (fun w hS => Calls.still ((LRight_c w a hva (hG.keep (fun h => h) hS)).mono fun _ _ h => ⟨by rw [h.1, decide_eq_true ha], h.2⟩) hS) ?_
  refine WQ.val ((v_neq_bool rfl rfl rfl Tryd.underlying4).f (fun h => h rfl)) (.none rfl) rfl rfl ?_
  refine WQ.val (v_move rfl rfl) (.none rfl) rfl rfl ?_
  refine WQ.val (v_loadN rfl rfl many_25 rfl allAt) (.some rfl rfl rfl) rfl rfl ?_
  refine WQ.call _ rfl rfl ck_14 (.some rfl rfl rfl) rfl rfl (fun w hS => Calls.still ((LRight_c w a hva (hG.keep (fun h => h) hS)).mono fun _ _ h => ⟨by rw [h.1, decide_eq_true ha], h.2⟩) hS) ?_
  refine WQ.val (v_not rfl rfl rfl) (.some rfl rfl rfl) rfl rfl ?_
  refine WQ.val (v_move rfl rfl) (.some rfl rfl rfl) rfl rfl ?_
  refine WQ.skip rfl rfl rfl rfl rfl rfl ?_
  refine WQ.nilR ?_
  refine WR.ones (g := 3) [12] (by kernel_rfl) ?_
  refine WL.skip rfl rfl rfl rfl rfl rfl ?_
  refine WL.nilR ?_
  refine WR.first (g := 0) [13, 14, 15] (by kernel_rfl) (by kernel_rfl) ?_
  refine WP.skip rfl rfl rfl rfl rfl rfl ?_
  refine WP.val (v_pick_f rfl rfl rfl) (.some rfl rfl rfl) rfl rfl ?_
  refine WP.val (v_pick_f rfl rfl rfl) (.none rfl) rfl rfl ?_
  refine WP.nil ?_
  refine WR.done (by kernel_rfl) ?_
  refine WE.then_n ?_
  refine WC.cond_f rfl ?_
  refine WC.skip ?_
  refine WE.then_n ?_
  refine WC.seq ?_
  refine WC.seq ?_
  refine WC.region ?_
  refine WL.val (v_loadN rfl rfl many_25 rfl allAt) (.none rfl) rfl rfl ?_
  refine WL.call rfl rfl ck_14 (.none rfl) rfl rfl ?_
  intro w hS
  refine Calls.then ((LRight_c w a hva (hG.keep (fun h => h) hS)).mono fun _ _ h => ⟨by rw [h.1, decide_eq_true ha], h.2⟩) hS ?_
  refine WL.val (v_not rfl rfl rfl) (.none rfl) rfl rfl ?_
  refine WL.val (v_move rfl rfl) (.none rfl) rfl rfl ?_
  refine WL.val (v_loadN rfl rfl many_25 rfl allAt) (.some rfl rfl rfl) rfl rfl ?_
  refine WL.call rfl rfl ck_14 (.some rfl rfl rfl) rfl rfl ?_
  intro w hS
  refine Calls.then ((LRight_c w b hvb (hG.keep (fun h => h) hS)).mono fun _ _ h => ⟨by rw [h.1, decide_eq_true hb], h.2⟩) hS ?_
  refine WL.val (v_not rfl rfl rfl) (.some rfl rfl rfl) rfl rfl ?_
  refine WL.val (v_pick_f rfl rfl rfl) (.none rfl) rfl rfl ?_
  refine WL.nil ?_
  refine WE.then_n ?_
  refine WC.cond_f rfl ?_
  refine WC.skip ?_
  refine WE.then_n ?_
  refine WC.seq ?_
  refine WC.region ?_
  refine WL.val (v_loadN rfl rfl many_25 rfl allAt) (.none rfl) rfl rfl ?_
  refine WL.val (v_loadN rfl rfl many_31 rfl allAt) (.none rfl) rfl rfl ?_
  refine WL.call rfl rfl ck_15 (.none rfl) rfl rfl ?_
  intro w hS
  refine Calls.then (Apply_c w a H hva ha (hG.keep (fun h => h) hS)) hS ?_
  refine WL.alloc rfl zero_31 (.none rfl) rfl rfl ?_
  intro g7 hg7
  refine WL.storeW rfl rfl rfl rfl many_31 rfl rfl (.none rfl) rfl ?_
  refine WL.nil ?_
  refine WE.then_n ?_
  refine WC.seq ?_
  refine WC.seq ?_
  refine WC.region ?_
  refine WL.val (v_assign rfl rfl) (.none rfl) rfl rfl ?_
  refine WL.nil ?_
  refine WE.then_n ?_
  refine WC.block ?_
  refine WC.loop (fun k : Nat => [(8, .int .i64 k), (7, .pointer (some ⟨g7, 0, none⟩)), (5, .pointer (some ⟨g5, 0, none⟩)), (4, .pointer (some ⟨g4, 0, none⟩)), (3, .pointer (some ⟨g3, 0, none⟩))]) (fun _ => [.row g7 (hdL (appK a H 9)), .row g5 (hdL H), .row g4 (acL b), .row g3 (acL a)]) (fun k => k ≤ 9) (fun k => 9 - k) 0 (Nat.zero_le _) (.cons rfl (.cons rfl (.cons rfl (.cons rfl (.cons rfl .nil))))) (.refl _) ?_
  intro k hk
  refine WC.seq ?_
  refine WC.seq ?_
  refine WC.region ?_
  refine WL.val (v_move rfl rfl) (.none rfl) rfl rfl ?_
  refine WL.test (v_lss rfl rfl rfl) (.none rfl) rfl rfl (fun h41 => ?_) (fun h41 => ?_)
  · -- 41T
    refine WL.nil ?_
    refine WE.then_n ?_
    refine WC.cond_t rfl ?_
    refine WC.skip ?_
    refine WE.then_n ?_
    refine WC.seq ?_
    refine WC.block ?_
    refine WC.seq ?_
    refine WC.region ?_
    refine WL.val (v_loadN rfl rfl many_31 rfl allAt) (.none rfl) rfl rfl ?_
    refine WL.val (v_move rfl rfl) (.none rfl) rfl rfl ?_
    refine WL.call rfl rfl ck_16 (.none rfl) rfl rfl ?_
    intro w hS
    refine Calls.then (Get_c w H k (by omega) hH (hG.keep (fun h => h) hS)) hS ?_
    refine WL.val (v_assign rfl rfl) (.none rfl) rfl rfl ?_
    refine WL.nil ?_
    refine WE.then_n ?_
    refine WC.seq ?_
    refine WC.seq ?_
    refine WC.region ?_
    refine WL.val (v_fieldAddr0 rfl rfl fld_25_0) (.none rfl) rfl rfl ?_
    refine WL.val (v_load1 rfl rfl one_3 (cellAt rfl)) (.none rfl) rfl rfl ?_
    refine WL.val (v_move rfl rfl) (.none rfl) rfl rfl ?_
    refine WL.val (v_conv rfl rfl Tryd.underlying39 Tryd.underlying37 (by first | exact w_u64 (by omega) (by omega) | exact w_u64m _)) (.none rfl) rfl rfl ?_
    refine WL.val (v_shr (m := k) (c := (2 : Int) ^ k) rfl rfl rfl rfl (by show k ≤ 64; omega) rfl) (.none rfl) rfl rfl ?_
    refine WL.val (v_and rfl rfl rfl (mask_i64' (i := 1) (m := 2) (by decide) (by decide) (by decide))) (.none rfl) rfl rfl ?_
    refine WL.test (v_eql rfl rfl rfl) (.none rfl) rfl rfl (fun h53 => ?_) (fun h53 => ?_)
    · -- 53T
      refine WL.nil ?_
      refine WE.then_n ?_
      refine WC.cond_t rfl ?_
      refine WC.region ?_
      refine WL.val (v_move rfl rfl) (.none rfl) rfl rfl ?_
      refine WL.val (v_fieldAddr0 rfl rfl fld_25_1) (.none rfl) rfl rfl ?_
      refine WL.val (v_indexAddrA (lo := k) rfl rfl rfl Tryd.underlying23 sz_22 (by omega) (by omega)) (.none rfl) rfl rfl ?_
      refine WL.val (v_load1 rfl rfl one_22 (cellAt (acL_get a (by omega)))) (.none rfl) rfl rfl ?_
      refine WL.val (v_assign rfl rfl) (.none rfl) rfl rfl ?_
      refine WL.nil ?_
      refine WE.then_n ?_
      refine WC.seq ?_
      refine WC.region ?_
      refine WL.val (v_loadN rfl rfl many_31 rfl allAt) (.none rfl) rfl rfl ?_
      refine WL.val (v_move rfl rfl) (.none rfl) rfl rfl ?_
      refine WL.call rfl rfl ck_16 (.none rfl) rfl rfl ?_
      intro w hS
      refine Calls.then (Get_c w (appK a H 9) k (by omega) (appK_in hH hva ha 9 (by omega)) (hG.keep (fun h => h) hS)) hS ?_
      refine WL.val (v_move rfl rfl) (.none rfl) rfl rfl ?_
      refine WL.val ((v_neq rfl rfl rfl).f (fun h => h (by rw [getF_appK hva ha H (by omega), if_pos (c := a.sets k) h53]))) (.none rfl) rfl rfl ?_
      refine WL.nil ?_
      refine WE.then_n ?_
      refine WC.cond_f rfl ?_
      refine WC.skip ?_
      refine WE.block_n ?_
      refine WE.then_n ?_
      refine WC.region ?_
      refine WL.val (v_move rfl rfl) (.none rfl) rfl rfl ?_
      refine WL.val (v_add rfl rfl rfl (w_i64 (by omega) (by omega))) (.none rfl) rfl rfl ?_
      refine WL.val (v_assign rfl rfl) (.none rfl) rfl rfl ?_
      refine WL.nil ?_
      exact WE.next (k + 1) (by omega) (by omega) (.int rfl (by omega) (.cons rfl (.cons rfl (.cons rfl (.cons rfl .nil))))) (.refl _)
    · -- 53F
      refine WL.nil ?_
      refine WE.then_n ?_
      refine WC.cond_f rfl ?_
      refine WC.skip ?_
      refine WE.then_n ?_
      refine WC.seq ?_
      refine WC.region ?_
      refine WL.val (v_loadN rfl rfl many_31 rfl allAt) (.none rfl) rfl rfl ?_
      refine WL.val (v_move rfl rfl) (.none rfl) rfl rfl ?_
      refine WL.call rfl rfl ck_16 (.none rfl) rfl rfl ?_
      intro w hS
      refine Calls.then (Get_c w (appK a H 9) k (by omega) (appK_in hH hva ha 9 (by omega)) (hG.keep (fun h => h) hS)) hS ?_
      refine WL.val (v_move rfl rfl) (.none rfl) rfl rfl ?_
      refine WL.val ((v_neq rfl rfl rfl).f (fun h => h (by rw [getF_appK hva ha H (by omega), if_neg (c := a.sets k) h53]))) (.none rfl) rfl rfl ?_
      refine WL.nil ?_
      refine WE.then_n ?_
      refine WC.cond_f rfl ?_
      refine WC.skip ?_
      refine WE.block_n ?_
      refine WE.then_n ?_
      refine WC.region ?_
      refine WL.val (v_move rfl rfl) (.none rfl) rfl rfl ?_
      refine WL.val (v_add rfl rfl rfl (w_i64 (by omega) (by omega))) (.none rfl) rfl rfl ?_
      refine WL.val (v_assign rfl rfl) (.none rfl) rfl rfl ?_
      refine WL.nil ?_
      exact WE.next (k + 1) (by omega) (by omega) (.int rfl (by omega) (.cons rfl (.cons rfl (.cons rfl (.cons rfl .nil))))) (.refl _)
  · -- 41F
    refine WL.nil ?_
    refine WE.then_n ?_
    refine WC.cond_f rfl ?_
    refine WC.exit ?_
    refine WE.then_exit ?_
    refine WE.then_exit ?_
    refine WE.block_hit ?_
    refine WE.then_n ?_
    refine WC.seq ?_
    refine WC.region ?_
    refine WL.val (v_loadN rfl rfl many_25 rfl allAt) (.none rfl) rfl rfl ?_
    refine WL.val (v_loadN rfl rfl many_25 rfl allAt) (.none rfl) rfl rfl ?_
    refine WL.call rfl rfl ck_17 (.none rfl) rfl rfl ?_
    intro w hS
    refine Calls.then (Then_c w a b ha hb) hS ?_
    refine WL.alloc rfl zero_25 (.none rfl) rfl rfl ?_
    intro g10 hg10
    refine WL.storeW rfl rfl rfl rfl many_25 rfl rfl (.none rfl) rfl ?_
    refine WL.nil ?_
    refine WE.then_n ?_
    refine WC.seq ?_
    refine WC.quiet mixed (by kernel_rfl) ?_
    refine WQ.val (v_loadN rfl rfl many_25 rfl allAt) (.none rfl) rfl rfl ?_
    refine WQ.call _ rfl rfl ck_14 (.none rfl) rfl rfl (fun w hS => Calls.still ((LRight_c w (a.then b) (then_in ha hb hva hvb) (hG.keep (fun h => h) hS)).mono fun _ _ h => ⟨by rw [h.1, decide_eq_true (then_ok ha hb)], h.2⟩) hS) ?_
    refine WQ.val (v_move rfl rfl) (.none rfl) rfl rfl ?_
    refine WQ.val (v_loadN rfl rfl many_25 rfl allAt) (.some rfl rfl rfl) rfl rfl ?_
    refine WQ.val (v_loadN rfl rfl many_31 rfl allAt) (.some rfl rfl rfl) rfl rfl ?_
    refine WQ.call _ rfl rfl ck_15 (.some rfl rfl rfl) rfl rfl (fun w hS => Calls.still (Apply_c w (a.then b) H (then_in ha hb hva hvb) (then_ok ha hb) (hG.keep (fun h => h) hS)) hS) ?_
    refine WQ.val (v_loadN rfl rfl many_25 rfl allAt) (.some rfl rfl rfl) rfl rfl ?_
    refine WQ.val (v_loadN rfl rfl many_25 rfl allAt) (.some rfl rfl rfl) rfl rfl ?_
    refine WQ.val (v_loadN rfl rfl many_31 rfl allAt) (.some rfl rfl rfl) rfl rfl ?_
    refine WQ.call _ rfl rfl ck_15 (.some rfl rfl rfl) rfl rfl (fun w hS => Calls.still (Apply_c w a H hva ha (hG.keep (fun h => h) hS)) hS) ?_
    refine WQ.call _ rfl rfl ck_15 (.some rfl rfl rfl) rfl rfl (fun w hS => Calls.still (Apply_c w b (appK a H 9) hvb hb (hG.keep (fun h => h) hS)) hS) ?_
    refine WQ.val (v_eql_aggT rfl rfl rfl eqk_31 eqg_31 rfl rfl (by exact congrArg hdL (then_apply ha hb H))) (.some rfl rfl rfl) rfl rfl ?_
    refine WQ.val (v_pick_t rfl rfl rfl) (.none rfl) rfl rfl ?_
    refine WQ.val (v_move rfl rfl) (.none rfl) rfl rfl ?_
    refine WQ.val (v_loadN rfl rfl many_25 rfl allAt) (.some rfl rfl rfl) rfl rfl ?_
    refine WQ.val (v_loadN rfl rfl many_25 rfl allAt) (.some rfl rfl rfl) rfl rfl ?_
    refine WQ.call _ rfl rfl ck_17 (.some rfl rfl rfl) rfl rfl (fun w hS => Calls.still (Then_c w a a ha ha) hS) ?_
    refine WQ.val (v_loadN rfl rfl many_25 rfl allAt) (.some rfl rfl rfl) rfl rfl ?_
    refine WQ.val (v_eql_aggT rfl rfl rfl eqk_25 eqg_25 rfl rfl (by exact then_self ha)) (.some rfl rfl rfl) rfl rfl ?_
    refine WQ.val (v_pick_t rfl rfl rfl) (.none rfl) rfl rfl ?_
    refine WQ.val (v_move rfl rfl) (.none rfl) rfl rfl ?_
    refine WQ.val (v_loadN rfl rfl many_25 rfl allAt) (.some rfl rfl rfl) rfl rfl ?_
    refine WQ.val (v_loadN rfl rfl many_25 rfl allAt) (.some rfl rfl rfl) rfl rfl ?_
    refine WQ.call _ rfl rfl ck_18 (.some rfl rfl rfl) rfl rfl (fun w hS => Calls.still (ACmp_c w a b) hS) ?_
    refine WQ.val (v_loadN rfl rfl many_25 rfl allAt) (.some rfl rfl rfl) rfl rfl ?_
    refine WQ.val (v_loadN rfl rfl many_25 rfl allAt) (.some rfl rfl rfl) rfl rfl ?_
    refine WQ.call _ rfl rfl ck_18 (.some rfl rfl rfl) rfl rfl (fun w hS => Calls.still (ACmp_c w b a) hS) ?_
    refine WQ.val (v_neg rfl rfl (w_i64 (by have := acmp_le b a; omega) (by have := acmp_le b a; omega))) (.some rfl rfl rfl) rfl rfl ?_
    refine WQ.val ((v_eql rfl rfl rfl).t ((by have := acmp_neg a b; omega))) (.some rfl rfl rfl) rfl rfl ?_
    refine WQ.val (v_pick_t rfl rfl rfl) (.none rfl) rfl rfl ?_
    refine WQ.val (v_move rfl rfl) (.none rfl) rfl rfl ?_
    refine WQ.val (v_loadN rfl rfl many_25 rfl allAt) (.some rfl rfl rfl) rfl rfl ?_
    refine WQ.val (v_loadN rfl rfl many_25 rfl allAt) (.some rfl rfl rfl) rfl rfl ?_
    refine WQ.call _ rfl rfl ck_18 (.some rfl rfl rfl) rfl rfl (fun w hS => Calls.still (ACmp_c w a b) hS) ?_
    refine WQ.val ((v_eql rfl rfl rfl).f (fun h => he ((acmp_zero a b).1 h))) (.some rfl rfl rfl) rfl rfl ?_
    refine WQ.val (v_loadN rfl rfl many_25 rfl allAt) (.some rfl rfl rfl) rfl rfl ?_
    refine WQ.val (v_loadN rfl rfl many_25 rfl allAt) (.some rfl rfl rfl) rfl rfl ?_
    refine WQ.val (v_eql_aggF rfl rfl rfl eqk_25 eqg_25 rfl rfl (by exact he)) (.some rfl rfl rfl) rfl rfl ?_
    refine WQ.val ((v_eql_bool rfl rfl rfl Tryd.underlying4).t (rfl)) (.some rfl rfl rfl) rfl rfl ?_
    refine WQ.val (v_pick_t rfl rfl rfl) (.none rfl) rfl rfl ?_
    refine WQ.val (v_assign rfl rfl) (.none rfl) rfl rfl ?_
    refine WQ.nil ?_
    refine WE.then_n ?_
    refine WC.ret ?_
    refine WE.ret1 (P := Tryd.prog) (.inl rfl) Tryd.results3 rfl ?_
    exact fun w' h => ⟨rfl, h.frm⟩
theorem RulesActs_all (w : World) (a b : Ac) (H : Hd) (hva : a.In) (hvb : b.In) (hH : H.In) (hG : GW w) :
    Calls Tryd.prog 3 #[acV a, acV b, .agg (hdCells H)] w fun e w' => e = .returned (.bool true) ∧ Frm (fun _ => False) w w' := by
  by_cases ha : a.Ok
  · by_cases hb : b.Ok
    · by_cases he : acL a = acL b
      · exact Acts_eq w a b H hva hvb hH hG ha hb he
      · exact Acts_ne w a b H hva hvb hH hG ha hb he
    · exact Acts_badb w a b H hva hvb hH hG ha hb
  · exact Acts_bad w a b H hva hvb hH hG ha
end Go.Proofs.YtodaanhhnjkncaaDoor
