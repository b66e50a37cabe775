/- carrefourlaw05: Copy, Same, plain, headOk, FrameParses. -/
import Derived.Test.YtpjjlggonpbegaaTys
import Derived.Test.YtpjjlggonpbegaaFrC
namespace Go.Proofs.Ytpjjlggonpbegaa
open Go.RowKit

set_option maxHeartbeats 400000 in
theorem Copy_c (p : Nat → Prop) (w0 w : World) (L : List Ent) (a : Option Addr) (n cap : Nat) (f : Nat → Int) (hS : St p w0 w L) (hr : ∀ w, St p w0 w L → RdO w a n f) (hn : n ≤ 2000) :
    Calls Try.prog 11 #[.slice a n cap] w fun e w' => ∃ a' c' E, e = .returned (.slice a' n c') ∧ n ≤ c' ∧ Vec 1 a' n c' (bcs f n) E ∧ St p w0 w' (E ++ L) := by
  refine enter Try.func11 rfl Try.ntmps11 rfl hS ?_
  refine WC.seq ?_
  refine WC.region ?_
  refine WL.val (v_assign rfl rfl) (.none rfl) rfl rfl ?_
  refine WL.nil ?_
  refine WE.then_n ?_
  refine WC.seq ?_
  refine WC.region ?_
  refine WL.buildSlice rfl rfl Try.underlying22 sz_5 zero_5 rfl (by decide) rfl (.none rfl) rfl rfl ?_
  intro g3 hg3
  refine WL.val (v_move rfl rfl) (.none rfl) rfl rfl ?_
  refine WL.appendL rfl rfl rfl Try.underlying22 Try.underlying22 sz_5 by_5 zero_5 rfl rfl (E := [.row g3 []]) (Vec.row (k := 0) (s := 1) (c := 0) rfl rfl (by omega)) (new := bcs f n) (fun h => by obtain ⟨_, _, rfl, _⟩ := hr w hS h; exact ⟨_, _, rfl, fun w hS' => by obtain ⟨_, _, e, h'⟩ := hr w hS'.tail h; cases e; exact h'.range⟩) (by rw [bcs_len]; omega) (bcs_one f n) (by omega) (.none rfl) rfl rfl ?_
  intro ad5 c5 E5 hV5 hr5
  refine WL.val (v_assign rfl rfl) (.none rfl) rfl rfl ?_
  refine WL.nil ?_
  refine WE.then_n ?_
  refine WC.ret ?_
  refine WE.ret1 (P := Try.prog) (.inl rfl) Try.results11 rfl ?_
  exact fun w' h => ⟨ad5, c5, E5, by rw [Nat.zero_add], by have := hV5.len; omega, by simpa using hV5, h⟩

set_option maxHeartbeats 400000 in
theorem Same_c (w : World) (a a' : Option Addr) (n n' cap cap' : Nat) (f g : Nat → Int) (hr : RdO w a n f) (hr' : RdO w a' n' g) (b : Bool) (hb : decide ((str f n).toList = (str g n').toList) = b) :
    Calls Try.prog 15 #[.slice a n cap, .slice a' n' cap'] w fun e w' => e = .returned (.bool b) ∧ Frm (fun _ => False) w w' := by
  subst hb
  refine enter Try.func15 rfl Try.ntmps15 rfl (St.start (fun _ => False) w) ?_
  refine WC.seq ?_
  refine WC.region ?_
  refine WL.val (v_assign rfl rfl) (.none rfl) rfl rfl ?_
  refine WL.nil ?_
  refine WE.then_n ?_
  refine WC.seq ?_
  refine WC.region ?_
  refine WL.val (v_move rfl rfl) (.none rfl) rfl rfl ?_
  refine WL.val (v_convBS (f) rfl rfl Try.underlying22 Try.underlying5 Try.underlying9 (rdOOld (fun _ h => h) hr)) (.none rfl) rfl rfl ?_
  refine WL.val (v_move rfl rfl) (.none rfl) rfl rfl ?_
  refine WL.val (v_convBS (g) rfl rfl Try.underlying22 Try.underlying5 Try.underlying9 (rdOOld (fun _ h => h) hr')) (.none rfl) rfl rfl ?_
  refine WL.val (v_eql_string rfl rfl rfl Try.underlying9) (.none rfl) rfl rfl ?_
  refine WL.val (v_assign rfl rfl) (.none rfl) rfl rfl ?_
  refine WL.nil ?_
  refine WE.then_n ?_
  refine WC.ret ?_
  refine WE.ret1 (P := Try.prog) (.inl rfl) Try.results15 rfl ?_
  exact fun w' h => ⟨rfl, h.frm⟩

set_option maxHeartbeats 400000 in
theorem plain_c (w : World) (H : Hd) :
    Calls Try.prog 14 #[.agg (hdCells H)] w fun e w' => e = .returned (.agg (hdCells H)) ∧ Frm (fun _ => False) w w' := by
  refine enter Try.func14 rfl Try.ntmps14 rfl (St.start (fun _ => False) w) ?_
  refine WC.seq ?_
  refine WC.region ?_
  refine WL.box rfl rfl rfl (.none rfl) rfl rfl ?_
  intro g1 hg1
  refine WL.alloc rfl zero_37 (.none rfl) rfl rfl ?_
  intro g2 hg2
  refine WL.nil ?_
  refine WE.then_n ?_
  refine WC.seq ?_
  refine WC.region ?_
  refine WL.val (v_fieldAddr0 rfl rfl fld_30_0) (.none rfl) rfl rfl ?_
  refine WL.val (v_load1 rfl rfl one_3 (cellAt rfl)) (.none rfl) rfl rfl ?_
  refine WL.val (v_fieldAddr0 rfl rfl fld_30_1) (.none rfl) rfl rfl ?_
  refine WL.val (v_loadN rfl rfl many_26 rfl (segAt (m := 6) rfl)) (.none rfl) rfl rfl ?_
  refine WL.val (v_fieldAddr0 rfl rfl fld_30_2) (.none rfl) rfl rfl ?_
  refine WL.val (v_loadN rfl rfl many_26 rfl (segAt (m := 6) rfl)) (.none rfl) rfl rfl ?_
  refine WL.val (v_fieldAddr0 rfl rfl fld_30_3) (.none rfl) rfl rfl ?_
  refine WL.val (v_load1 rfl rfl one_3 (cellAt rfl)) (.none rfl) rfl rfl ?_
  refine WL.val (v_fieldAddr0 rfl rfl fld_30_4) (.none rfl) rfl rfl ?_
  refine WL.val (v_load1 rfl rfl one_28 (cellAt rfl)) (.none rfl) rfl rfl ?_
  refine WL.val (v_fieldAddr0 rfl rfl fld_30_5) (.none rfl) rfl rfl ?_
  refine WL.val (v_load1 rfl rfl one_28 (cellAt rfl)) (.none rfl) rfl rfl ?_
  refine WL.val (v_fieldAddr0 rfl rfl fld_30_6) (.none rfl) rfl rfl ?_
  refine WL.val (v_load1 rfl rfl one_3 (cellAt rfl)) (.none rfl) rfl rfl ?_
  refine WL.val (v_fieldAddr0 rfl rfl fld_30_7) (.none rfl) rfl rfl ?_
  refine WL.val (v_load1 rfl rfl one_3 (cellAt rfl)) (.none rfl) rfl rfl ?_
  refine WL.val (v_fieldAddr0 rfl rfl fld_30_8) (.none rfl) rfl rfl ?_
  refine WL.val (v_load1 rfl rfl one_3 (cellAt rfl)) (.none rfl) rfl rfl ?_
  refine WL.val (v_build rfl rfl zero_37 plc_37 rfl) (.none rfl) rfl rfl ?_
  refine WL.storeW rfl rfl rfl rfl many_37 rfl rfl (.none rfl) rfl ?_
  refine WL.nil ?_
  refine WE.then_n ?_
  refine WC.ret ?_
  refine WE.ret1 (P := Try.prog) (.inl rfl) Try.results14 (resRow rfl many_37 rfl) ?_
  exact fun w' h => ⟨rfl, h.frm⟩
end Go.Proofs.Ytpjjlggonpbegaa
