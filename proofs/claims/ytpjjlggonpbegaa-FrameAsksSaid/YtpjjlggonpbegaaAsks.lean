/- carrefourlaw05.FrameAsks. -/
import Derived.Test.YtpjjlggonpbegaaArpA
namespace Go.Proofs.Ytpjjlggonpbegaa
open Go.RowKit

theorem Two_c (w : World) (b off n cap : Nat) (i : Nat) (f : Nat → Int) (hr : Rd w b off n f) (hf : Byt f) (hi : i + 1 < n) (hn : n ≤ 2000) :
    Calls Try.prog 28 #[.slice (some ⟨b, off, none⟩) n cap, .int .i64 i] w fun e w' => e = .returned (.int .i64 (two f i)) ∧ Frm (fun _ => False) w w' := by
  have b0 := hf i
  have b1 := hf (i + 1)
  refine enter Try.func28 rfl Try.ntmps28 rfl (St.start (fun _ => False) w) ?_
  refine WC.seq ?_
  refine WC.region ?_
  refine WL.val (v_assign rfl rfl) (.none rfl) rfl rfl ?_
  refine WL.nil ?_
  refine WE.then_n ?_
  refine WC.seq ?_
  refine WC.quiet mixed (by kernel_rfl) ?_
  refine WQ.val (v_move rfl rfl) (.none rfl) rfl rfl ?_
  refine WQ.val (v_move rfl rfl) (.none rfl) rfl rfl ?_
  refine WQ.val (v_indexAddr (lo := i) rfl rfl rfl Try.underlying22 sz_5 (by omega) (by omega)) (.none rfl) rfl rfl ?_
  refine WQ.val (v_load1 rfl rfl one_5 (cellOld (fun h => h) (hr.part1 i (by omega) (by omega)))) (.none rfl) rfl rfl ?_
  refine WQ.val (v_conv rfl rfl Try.underlying3 Try.underlying5 (w_i64 (by omega) (by omega))) (.none rfl) rfl rfl ?_
  refine WQ.val (v_mul rfl rfl rfl (w_i64 (by omega) (by omega))) (.none rfl) rfl rfl ?_
  refine WQ.val (v_move rfl rfl) (.none rfl) rfl rfl ?_
  refine WQ.val (v_move rfl rfl) (.none rfl) rfl rfl ?_
  refine WQ.val (v_add rfl rfl rfl (w_i64 (by omega) (by omega))) (.none rfl) rfl rfl ?_
  refine WQ.val (v_indexAddr (lo := i + 1) rfl rfl rfl Try.underlying22 sz_5 (by omega) (by omega)) (.none rfl) rfl rfl ?_
  refine WQ.val (v_load1 rfl rfl one_5 (cellOld (fun h => h) (hr.part1 (i + 1) (by omega) (by omega)))) (.none rfl) rfl rfl ?_
  refine WQ.val (v_conv rfl rfl Try.underlying3 Try.underlying5 (w_i64 (by omega) (by omega))) (.none rfl) rfl rfl ?_
  refine WQ.val (v_add rfl rfl rfl (w_i64 (by omega) (by omega))) (.none rfl) rfl rfl ?_
  refine WQ.val (v_assign rfl rfl) (.none rfl) rfl rfl ?_
  refine WQ.nil ?_
  refine WE.then_n ?_
  refine WC.ret ?_
  refine WE.ret1 (P := Try.prog) (.inl rfl) Try.results28 rfl ?_
  exact fun w' h => ⟨rfl, h.frm⟩
theorem Four_c (w : World) (b off n cap : Nat) (i : Nat) (f : Nat → Int) (hr : Rd w b off n f) (hf : Byt f) (hi : i + 3 < n) (hn : n ≤ 2000) :
    Calls Try.prog 17 #[.slice (some ⟨b, off, none⟩) n cap, .int .i64 i] w fun e w' => e = .returned (.int .u32 (four f i)) ∧ Frm (fun _ => False) w w' := by
  have b0 := two_le hf i
  have b1 := two_le hf (i + 2)
  refine enter Try.func17 rfl Try.ntmps17 rfl (St.start (fun _ => False) w) ?_
  refine WC.seq ?_
  refine WC.region ?_
  refine WL.val (v_assign rfl rfl) (.none rfl) rfl rfl ?_
  refine WL.nil ?_
  refine WE.then_n ?_
  refine WC.seq ?_
  refine WC.region ?_
  refine WL.val (v_move rfl rfl) (.none rfl) rfl rfl ?_
  refine WL.val (v_move rfl rfl) (.none rfl) rfl rfl ?_
  refine WL.call rfl rfl ck_28 (.none rfl) rfl rfl ?_
  intro w hS
  refine Calls.then (Two_c w b off n cap i f (hS.oldRd (fun h => h) hr) hf (by omega) hn) hS ?_
  refine WL.val (v_conv rfl rfl Try.underlying27 Try.underlying3 (by first | exact w_u32 (by omega) (by omega) | exact w_u32m _)) (.none rfl) rfl rfl ?_
  refine WL.val (v_mul rfl rfl rfl (w_u32 (by omega) (by omega))) (.none rfl) rfl rfl ?_
  refine WL.val (v_move rfl rfl) (.none rfl) rfl rfl ?_
  refine WL.val (v_move rfl rfl) (.none rfl) rfl rfl ?_
  refine WL.val (v_add rfl rfl rfl (w_i64 (by omega) (by omega))) (.none rfl) rfl rfl ?_
  refine WL.call rfl rfl ck_28 (.none rfl) rfl rfl ?_
  intro w hS
  refine Calls.then (Two_c w b off n cap (i + 2) f (hS.oldRd (fun h => h) hr) hf (by omega) hn) hS ?_
  refine WL.val (v_conv rfl rfl Try.underlying27 Try.underlying3 (by first | exact w_u32 (by omega) (by omega) | exact w_u32m _)) (.none rfl) rfl rfl ?_
  refine WL.val (v_add rfl rfl rfl (w_u32 (by omega) (by omega))) (.none rfl) rfl rfl ?_
  refine WL.val (v_assign rfl rfl) (.none rfl) rfl rfl ?_
  refine WL.nil ?_
  refine WE.then_n ?_
  refine WC.ret ?_
  refine WE.ret1 (P := Try.prog) (.inl rfl) Try.results17 rfl ?_
  exact fun w' h => ⟨rfl, h.frm⟩
theorem six {cs : List Value} {k : Nat} {g : Nat → Int} (h0 : cs[k]? = some (.int .u8 (g 0))) (h1 : cs[k + 1]? = some (.int .u8 (g 1))) (h2 : cs[k + 2]? = some (.int .u8 (g 2))) (h3 : cs[k + 3]? = some (.int .u8 (g 3))) (h4 : cs[k + 4]? = some (.int .u8 (g 4))) (h5 : cs[k + 5]? = some (.int .u8 (g 5))) :
    ∀ i, i < 6 → cs[k + i]? = some (.int .u8 (g i)) := fun i hi => by
  match i, hi with
  | 0, _ => exact h0
  | 1, _ => exact h1
  | 2, _ => exact h2
  | 3, _ => exact h3
  | 4, _ => exact h4
  | 5, _ => exact h5

set_option maxHeartbeats 1000000 in
theorem FrameAsks_long (w : World) (a : Option Addr) (n cap : Nat) (h : 1514 < n) :
    Calls Try.prog 4 #[.slice a n cap] w fun e w' => e = .returned (.bool true) ∧ Frm (fun _ => False) w w' := by
  refine enter Try.func4 rfl Try.ntmps4 rfl (St.start (fun _ => False) w) ?_
  refine WC.seq ?_
  refine WC.region ?_
  refine WL.val (v_assign rfl rfl) (.none rfl) rfl rfl ?_
  refine WL.nil ?_
  refine WE.then_n ?_
  refine WC.seq ?_
  refine WC.seq ?_
  refine WC.region ?_
  refine WL.call rfl rfl ck_10 (.none rfl) rfl rfl ?_
  intro w hS
  refine Calls.then (headOk_c w) hS ?_
  refine WL.val (v_not rfl rfl rfl) (.none rfl) rfl rfl ?_
  refine WL.nil ?_
  refine WE.then_n ?_
  refine WC.cond_f rfl ?_
  refine WC.skip ?_
  refine WE.then_n ?_
  refine WC.seq ?_
  refine WC.seq ?_
  refine WC.region ?_
  refine WL.val (v_move rfl rfl) (.none rfl) rfl rfl ?_
  refine WL.val (v_len_slice rfl rfl Try.underlying22) (.none rfl) rfl rfl ?_
  refine WL.val ((v_gtr rfl rfl rfl).t (by omega)) (.none rfl) rfl rfl ?_
  refine WL.nil ?_
  refine WE.then_n ?_
  refine WC.cond_t rfl ?_
  refine WC.seq ?_
  refine WC.region ?_
  refine WL.val (v_assign rfl rfl) (.none rfl) rfl rfl ?_
  refine WL.nil ?_
  refine WE.then_n ?_
  refine WC.ret ?_
  refine WE.then_ret ?_
  refine WE.ret1 (P := Try.prog) (.inl rfl) Try.results4 rfl ?_
  exact fun w' h => ⟨rfl, h.frm⟩
set_option maxHeartbeats 1000000 in
theorem FrameAsks_e (w : World) (a : Option Addr) (n cap : Nat) (f : Nat → Int) (hr : RdO w a n f) (hf : Byt f) (hc : n ≤ cap) (hn : n ≤ 1514) (he : prErr 1 f n ≠ 0) :
    Calls Try.prog 4 #[.slice a n cap] w fun e w' => e = .returned (.bool true) ∧ Frm (fun _ => False) w w' := by
  refine enter Try.func4 rfl Try.ntmps4 rfl (St.start (fun _ => False) w) ?_
  refine WC.seq ?_
  refine WC.region ?_
  refine WL.val (v_assign rfl rfl) (.none rfl) rfl rfl ?_
  refine WL.nil ?_
  refine WE.then_n ?_
  refine WC.seq ?_
  refine WC.seq ?_
  refine WC.region ?_
  refine WL.call rfl rfl ck_10 (.none rfl) rfl rfl ?_
  intro w hS
  refine Calls.then (headOk_c w) hS ?_
  refine WL.val (v_not rfl rfl rfl) (.none rfl) rfl rfl ?_
  refine WL.nil ?_
  refine WE.then_n ?_
  refine WC.cond_f rfl ?_
  refine WC.skip ?_
  refine WE.then_n ?_
  refine WC.seq ?_
  refine WC.seq ?_
  refine WC.region ?_
  refine WL.val (v_move rfl rfl) (.none rfl) rfl rfl ?_
  refine WL.val (v_len_slice rfl rfl Try.underlying22) (.none rfl) rfl rfl ?_
  refine WL.val ((v_gtr rfl rfl rfl).f (by omega)) (.none rfl) rfl rfl ?_
  refine WL.nil ?_
  refine WE.then_n ?_
  refine WC.cond_f rfl ?_
  refine WC.skip ?_
  refine WE.then_n ?_
  refine WC.seq ?_
  refine WC.region ?_
  refine WL.val (v_move rfl rfl) (.none rfl) rfl rfl ?_
  refine WL.call rfl rfl ck_12 (.none rfl) rfl rfl ?_
  intro w hS
  refine Calls.then (Parse_e w 1 a n cap f (rdOOld (fun _ h => h) hr w hS) hf hc he) hS ?_
  refine WL.val (v_move rfl rfl) (.none rfl) rfl rfl ?_
  refine WL.val (v_extract rfl rfl rfl) (.none rfl) rfl rfl ?_
  refine WL.val (v_extract rfl rfl rfl) (.none rfl) rfl rfl ?_
  refine WL.alloc rfl zero_32 (.none rfl) rfl rfl ?_
  intro g3 hg3
  refine WL.storeW rfl rfl rfl rfl many_32 rfl rfl (.none rfl) rfl ?_
  refine WL.val (v_assign rfl rfl) (.none rfl) rfl rfl ?_
  refine WL.nil ?_
  refine WE.then_n ?_
  refine WC.seq ?_
  refine WC.seq ?_
  refine WC.region ?_
  refine WL.val (v_move rfl rfl) (.none rfl) rfl rfl ?_
  refine WL.val ((v_neq rfl rfl rfl).t (he)) (.none rfl) rfl rfl ?_
  refine WL.nil ?_
  refine WE.then_n ?_
  refine WC.cond_t rfl ?_
  refine WC.seq ?_
  refine WC.region ?_
  refine WL.val (v_loadN rfl rfl many_32 rfl allAt) (.none rfl) rfl rfl ?_
  refine WL.call rfl rfl ck_16 (.none rfl) rfl rfl ?_
  intro w hS
  refine Calls.then (ParseArp_x w Hd.zero Hd.zero f 0 0 0 hf (fun h => absurd h (by decide)) (by omega) (by unfold arpErr; rw [if_pos (by decide)]; decide)) hS ?_
  refine WL.val (v_move rfl rfl) (.none rfl) rfl rfl ?_
  refine WL.val (v_extract rfl rfl rfl) (.none rfl) rfl rfl ?_
  refine WL.val (v_extract rfl rfl rfl) (.none rfl) rfl rfl ?_
  refine WL.alloc rfl zero_44 (.none rfl) rfl rfl ?_
  intro g5 hg5
  refine WL.storeW rfl rfl rfl rfl many_44 rfl rfl (.none rfl) rfl ?_
  refine WL.val (v_assign rfl rfl) (.none rfl) rfl rfl ?_
  refine WL.nil ?_
  refine WE.then_n ?_
  refine WC.seq ?_
  refine WC.region ?_
  refine WL.val (v_move rfl rfl) (.none rfl) rfl rfl ?_
  refine WL.val ((v_eql rfl rfl rfl).t (rfl)) (.none rfl) rfl rfl ?_
  refine WL.val (v_assign rfl rfl) (.none rfl) rfl rfl ?_
  refine WL.nil ?_
  refine WE.then_n ?_
  refine WC.ret ?_
  refine WE.then_ret ?_
  refine WE.ret1 (P := Try.prog) (.inl rfl) Try.results4 rfl ?_
  exact fun w' h => ⟨rfl, h.frm⟩
set_option maxHeartbeats 1000000 in
theorem FrameAsks_0 (w : World) (b off n cap : Nat) (f : Nat → Int) (hr : Rd w b off n f) (hf : Byt f) (hc : n ≤ cap) (hn : n ≤ 1514) (he : prErr 1 f n = 0) (h : arpErr f n (two f 12) = 0) (h42 : 42 ≤ n) (hty : two f 12 = 2054) (hB : arpBeg f) (hk : f 21 = 1 ∨ f 21 = 2) :
    Calls Try.prog 4 #[.slice (some ⟨b, off, none⟩) n cap] w fun e w' => e = .returned (.bool true) ∧ Frm (fun _ => False) w w' := by
  have e12 := prHd_ty 1 f
  refine enter Try.func4 rfl Try.ntmps4 rfl (St.start (fun _ => False) w) ?_
  refine WC.seq ?_
  refine WC.region ?_
  refine WL.val (v_assign rfl rfl) (.none rfl) rfl rfl ?_
  refine WL.nil ?_
  refine WE.then_n ?_
  refine WC.seq ?_
  refine WC.seq ?_
  refine WC.region ?_
  refine WL.call rfl rfl ck_10 (.none rfl) rfl rfl ?_
  intro w hS
  refine Calls.then (headOk_c w) hS ?_
  refine WL.val (v_not rfl rfl rfl) (.none rfl) rfl rfl ?_
  refine WL.nil ?_
  refine WE.then_n ?_
  refine WC.cond_f rfl ?_
  refine WC.skip ?_
  refine WE.then_n ?_
  refine WC.seq ?_
  refine WC.seq ?_
  refine WC.region ?_
  refine WL.val (v_move rfl rfl) (.none rfl) rfl rfl ?_
  refine WL.val (v_len_slice rfl rfl Try.underlying22) (.none rfl) rfl rfl ?_
  refine WL.val ((v_gtr rfl rfl rfl).f (by omega)) (.none rfl) rfl rfl ?_
  refine WL.nil ?_
  refine WE.then_n ?_
  refine WC.cond_f rfl ?_
  refine WC.skip ?_
  refine WE.then_n ?_
  refine WC.seq ?_
  refine WC.region ?_
  refine WL.val (v_move rfl rfl) (.none rfl) rfl rfl ?_
  refine WL.call rfl rfl ck_12 (.none rfl) rfl rfl ?_
  intro w hS
  refine Calls.then (Parse_k w 1 (some ⟨b, off, none⟩) n cap f (rdOOld (fun _ h => h) (fun _ => ⟨b, off, rfl, hr⟩) w hS) hf hc he) hS ?_
  refine WL.val (v_move rfl rfl) (.none rfl) rfl rfl ?_
  refine WL.val (v_extract rfl rfl rfl) (.none rfl) rfl rfl ?_
  refine WL.val (v_extract rfl rfl rfl) (.none rfl) rfl rfl ?_
  refine WL.alloc rfl zero_32 (.none rfl) rfl rfl ?_
  intro g3 hg3
  refine WL.storeW rfl rfl rfl rfl many_32 rfl rfl (.none rfl) rfl ?_
  refine WL.val (v_assign rfl rfl) (.none rfl) rfl rfl ?_
  refine WL.nil ?_
  refine WE.then_n ?_
  refine WC.seq ?_
  refine WC.seq ?_
  refine WC.region ?_
  refine WL.val (v_move rfl rfl) (.none rfl) rfl rfl ?_
  refine WL.val ((v_neq rfl rfl rfl).f (by omega)) (.none rfl) rfl rfl ?_
  refine WL.nil ?_
  refine WE.then_n ?_
  refine WC.cond_f rfl ?_
  refine WC.skip ?_
  refine WE.then_n ?_
  refine WC.seq ?_
  refine WC.region ?_
  refine WL.val (v_loadN rfl rfl many_32 rfl allAt) (.none rfl) rfl rfl ?_
  refine WL.call rfl rfl ck_16 (.none rfl) rfl rfl ?_
  intro w hS
  refine Calls.then (ParseArp_0 w (prHd 1 f) (prHd 1 f) f n (prPorts f) (prEnd f) hf (fun _ => by omega) (by omega) (by rw [e12]; exact h)) hS ?_
  refine WL.val (v_move rfl rfl) (.none rfl) rfl rfl ?_
  refine WL.val (v_extract rfl rfl rfl) (.none rfl) rfl rfl ?_
  refine WL.val (v_extract rfl rfl rfl) (.none rfl) rfl rfl ?_
  refine WL.alloc rfl zero_44 (.none rfl) rfl rfl ?_
  intro g7 hg7
  refine WL.storeW rfl rfl rfl rfl many_44 rfl rfl (.none rfl) rfl ?_
  refine WL.val (v_assign rfl rfl) (.none rfl) rfl rfl ?_
  refine WL.nil ?_
  refine WE.then_n ?_
  refine WC.seq ?_
  refine WC.region ?_
  refine WL.val (v_assign rfl rfl) (.none rfl) rfl rfl ?_
  refine WL.nil ?_
  refine WE.then_n ?_
  refine WC.seq ?_
  refine WC.block ?_
  refine WC.seq ?_
  refine WC.region ?_
  refine WL.val (v_fieldAddr0 rfl rfl fld_32_0) (.none rfl) rfl rfl ?_
  refine WL.val (v_fieldAddr0 rfl rfl fld_30_3) (.none rfl) rfl rfl ?_
  refine WL.val (v_load1 rfl rfl one_3 (cellAt rfl)) (.none rfl) rfl rfl ?_
  refine WL.val ((v_neq rfl rfl rfl).f (by omega)) (.none rfl) rfl rfl ?_
  refine WL.val (v_assign rfl rfl) (.none rfl) rfl rfl ?_
  refine WL.nil ?_
  refine WE.then_n ?_
  refine WC.cond_f rfl ?_
  refine WC.seq ?_
  refine WC.region ?_
  refine WL.val (v_move rfl rfl) (.none rfl) rfl rfl ?_
  refine WL.val (v_len_slice rfl rfl Try.underlying22) (.none rfl) rfl rfl ?_
  refine WL.val ((v_lss rfl rfl rfl).f (by omega)) (.none rfl) rfl rfl ?_
  refine WL.val (v_assign rfl rfl) (.none rfl) rfl rfl ?_
  refine WL.nil ?_
  refine WE.then_n ?_
  refine WC.cond_f rfl ?_
  refine WC.seq ?_
  refine WC.region ?_
  refine WL.val (v_move rfl rfl) (.none rfl) rfl rfl ?_
  refine WL.val (v_slice_lhS (lo := 14) (hi := 21) rfl rfl rfl rfl Try.underlying22 sz_5 rfl rfl (by omega) (by omega) (by omega)) (.none rfl) rfl rfl ?_
  refine WL.val (v_convBS (fun i => f (14 + i)) rfl rfl Try.underlying22 Try.underlying5 Try.underlying9 (fun w hS _ => ⟨_, _, rfl, hS.oldRd (fun h => h) (hr.part 14 7 (by omega) (by omega))⟩)) (.none rfl) rfl rfl ?_
  refine WL.val ((v_neq_string rfl rfl rfl Try.underlying9).f (fun h => h hB)) (.none rfl) rfl rfl ?_
  refine WL.val (v_move rfl rfl) (.none rfl) rfl rfl ?_
  refine WL.val (v_move rfl rfl) (.some rfl rfl rfl) rfl rfl ?_
  refine WL.val (v_indexAddr (lo := 21) rfl rfl rfl Try.underlying22 sz_5 rfl (by omega)) (.some rfl rfl rfl) rfl rfl ?_
  refine WL.val (v_load1 rfl rfl one_5 (cellOld (fun h => h) (hr.part1 21 (by omega) (by omega)))) (.some rfl rfl rfl) rfl rfl ?_
  refine WL.test (v_neq rfl rfl rfl) (.some rfl rfl rfl) rfl rfl (fun h52 => ?_) (fun h52 => ?_)
  · -- 52T
    refine WL.val (v_move rfl rfl) (.some rfl rfl rfl) rfl rfl ?_
    refine WL.val (v_move rfl rfl) (.some rfl rfl rfl) rfl rfl ?_
    refine WL.val (v_indexAddr (lo := 21) rfl rfl rfl Try.underlying22 sz_5 rfl (by omega)) (.some rfl rfl rfl) rfl rfl ?_
    refine WL.val (v_load1 rfl rfl one_5 (cellOld (fun h => h) (hr.part1 21 (by omega) (by omega)))) (.some rfl rfl rfl) rfl rfl ?_
    refine WL.val ((v_neq rfl rfl rfl).f (by omega)) (.some rfl rfl rfl) rfl rfl ?_
    refine WL.val (v_pick_t rfl rfl rfl) (.some rfl rfl rfl) rfl rfl ?_
    refine WL.val (v_pick_f rfl rfl rfl) (.none rfl) rfl rfl ?_
    refine WL.val (v_assign rfl rfl) (.none rfl) rfl rfl ?_
    refine WL.nil ?_
    refine WE.then_n ?_
    refine WC.cond_f rfl ?_
    refine WC.skip ?_
    refine WE.block_n ?_
    refine WE.then_n ?_
    refine WC.seq ?_
    refine WC.seq ?_
    refine WC.region ?_
    refine WL.val (v_move rfl rfl) (.none rfl) rfl rfl ?_
    refine WL.val (v_move rfl rfl) (.none rfl) rfl rfl ?_
    refine WL.val ((v_neq rfl rfl rfl).f (by omega)) (.none rfl) rfl rfl ?_
    refine WL.nil ?_
    refine WE.then_n ?_
    refine WC.cond_f rfl ?_
    refine WC.skip ?_
    refine WE.then_n ?_
    refine WC.seq ?_
    refine WC.seq ?_
    refine WC.region ?_
    refine WL.val (v_move rfl rfl) (.none rfl) rfl rfl ?_
    refine WL.val ((v_neq rfl rfl rfl).f (by omega)) (.none rfl) rfl rfl ?_
    refine WL.nil ?_
    refine WE.then_n ?_
    refine WC.cond_f rfl ?_
    refine WC.skip ?_
    refine WE.then_n ?_
    refine WC.seq ?_
    refine WC.quiet mixed (by kernel_rfl) ?_
    refine WQ.val (v_fieldAddr0 rfl rfl fld_44_0) (.none rfl) rfl rfl ?_
    refine WQ.val (v_load1 rfl rfl one_4 (cellAt rfl)) (.none rfl) rfl rfl ?_
    refine WQ.val (v_move rfl rfl) (.none rfl) rfl rfl ?_
    refine WQ.val (v_indexAddr (lo := 21) rfl rfl rfl Try.underlying22 sz_5 rfl (by omega)) (.none rfl) rfl rfl ?_
    refine WQ.val (v_load1 rfl rfl one_5 (cellOld (fun h => h) (hr.part1 21 (by omega) (by omega)))) (.none rfl) rfl rfl ?_
    refine WQ.val (v_eql rfl rfl rfl) (.none rfl) rfl rfl ?_
    refine WQ.val ((v_eql_bool rfl rfl rfl Try.underlying4).t (rfl)) (.none rfl) rfl rfl ?_
    refine WQ.val (v_move rfl rfl) (.none rfl) rfl rfl ?_
    refine WQ.val (v_fieldAddr0 rfl rfl fld_44_1) (.some rfl rfl rfl) rfl rfl ?_
    refine WQ.val (v_slice_arr rfl rfl Try.underlying26 sz_5) (.some rfl rfl rfl) rfl rfl ?_
    refine WQ.val (v_convBS (fun i => f (22 + i)) rfl rfl Try.underlying22 Try.underlying5 Try.underlying9 (fun w hS _ => ⟨_, _, rfl, rdAt (six rfl rfl rfl rfl rfl rfl) w hS⟩)) (.some rfl rfl rfl) rfl rfl ?_
    refine WQ.val (v_move rfl rfl) (.some rfl rfl rfl) rfl rfl ?_
    refine WQ.val (v_slice_lhS (lo := 22) (hi := 28) rfl rfl rfl rfl Try.underlying22 sz_5 rfl rfl (by omega) (by omega) (by omega)) (.some rfl rfl rfl) rfl rfl ?_
    refine WQ.val (v_convBS (fun i => f (22 + i)) rfl rfl Try.underlying22 Try.underlying5 Try.underlying9 (fun w hS _ => ⟨_, _, rfl, hS.oldRd (fun h => h) (hr.part 22 6 (by omega) (by omega))⟩)) (.some rfl rfl rfl) rfl rfl ?_
    refine WQ.val ((v_eql_string rfl rfl rfl Try.underlying9).t (rfl)) (.some rfl rfl rfl) rfl rfl ?_
    refine WQ.val (v_pick_t rfl rfl rfl) (.none rfl) rfl rfl ?_
    refine WQ.val (v_move rfl rfl) (.none rfl) rfl rfl ?_
    refine WQ.val (v_fieldAddr0 rfl rfl fld_44_2) (.some rfl rfl rfl) rfl rfl ?_
    refine WQ.val (v_load1 rfl rfl one_28 (cellAt rfl)) (.some rfl rfl rfl) rfl rfl ?_
    refine WQ.val (v_move rfl rfl) (.some rfl rfl rfl) rfl rfl ?_
    refine WQ.call _ rfl rfl ck_17 (.some rfl rfl rfl) rfl rfl (fun w hS => Calls.still (Four_c w b off n cap 28 f (hS.oldRd (fun h => h) hr) hf (by omega) (by omega)) hS) ?_
    refine WQ.val ((v_eql rfl rfl rfl).t (rfl)) (.some rfl rfl rfl) rfl rfl ?_
    refine WQ.val (v_pick_t rfl rfl rfl) (.none rfl) rfl rfl ?_
    refine WQ.val (v_move rfl rfl) (.none rfl) rfl rfl ?_
    refine WQ.val (v_fieldAddr0 rfl rfl fld_44_3) (.some rfl rfl rfl) rfl rfl ?_
    refine WQ.val (v_slice_arr rfl rfl Try.underlying26 sz_5) (.some rfl rfl rfl) rfl rfl ?_
    refine WQ.val (v_convBS (fun i => f (32 + i)) rfl rfl Try.underlying22 Try.underlying5 Try.underlying9 (fun w hS _ => ⟨_, _, rfl, rdAt (six rfl rfl rfl rfl rfl rfl) w hS⟩)) (.some rfl rfl rfl) rfl rfl ?_
    refine WQ.val (v_move rfl rfl) (.some rfl rfl rfl) rfl rfl ?_
    refine WQ.val (v_slice_lhS (lo := 32) (hi := 38) rfl rfl rfl rfl Try.underlying22 sz_5 rfl rfl (by omega) (by omega) (by omega)) (.some rfl rfl rfl) rfl rfl ?_
    refine WQ.val (v_convBS (fun i => f (32 + i)) rfl rfl Try.underlying22 Try.underlying5 Try.underlying9 (fun w hS _ => ⟨_, _, rfl, hS.oldRd (fun h => h) (hr.part 32 6 (by omega) (by omega))⟩)) (.some rfl rfl rfl) rfl rfl ?_
    refine WQ.val ((v_eql_string rfl rfl rfl Try.underlying9).t (rfl)) (.some rfl rfl rfl) rfl rfl ?_
    refine WQ.val (v_pick_t rfl rfl rfl) (.none rfl) rfl rfl ?_
    refine WQ.val (v_move rfl rfl) (.none rfl) rfl rfl ?_
    refine WQ.val (v_fieldAddr0 rfl rfl fld_44_4) (.some rfl rfl rfl) rfl rfl ?_
    refine WQ.val (v_load1 rfl rfl one_28 (cellAt rfl)) (.some rfl rfl rfl) rfl rfl ?_
    refine WQ.val (v_move rfl rfl) (.some rfl rfl rfl) rfl rfl ?_
    refine WQ.call _ rfl rfl ck_17 (.some rfl rfl rfl) rfl rfl (fun w hS => Calls.still (Four_c w b off n cap 38 f (hS.oldRd (fun h => h) hr) hf (by omega) (by omega)) hS) ?_
    refine WQ.val ((v_eql rfl rfl rfl).t (rfl)) (.some rfl rfl rfl) rfl rfl ?_
    refine WQ.val (v_pick_t rfl rfl rfl) (.none rfl) rfl rfl ?_
    refine WQ.val (v_assign rfl rfl) (.none rfl) rfl rfl ?_
    refine WQ.nil ?_
    refine WE.then_n ?_
    refine WC.ret ?_
    refine WE.ret1 (P := Try.prog) (.inl rfl) Try.results4 rfl ?_
    exact fun w' h => ⟨rfl, h.frm⟩
  · -- 52F
    refine WL.val (v_move rfl rfl) (.some rfl rfl rfl) rfl rfl ?_
    refine WL.skip rfl rfl rfl rfl rfl rfl ?_
    refine WL.skip rfl rfl rfl rfl rfl rfl ?_
    refine WL.skip rfl rfl rfl rfl rfl rfl ?_
    refine WL.skip rfl rfl rfl rfl rfl rfl ?_
    refine WL.val (v_pick_f rfl rfl rfl) (.some rfl rfl rfl) rfl rfl ?_
    refine WL.val (v_pick_f rfl rfl rfl) (.none rfl) rfl rfl ?_
    refine WL.val (v_assign rfl rfl) (.none rfl) rfl rfl ?_
    refine WL.nil ?_
    refine WE.then_n ?_
    refine WC.cond_f rfl ?_
    refine WC.skip ?_
    refine WE.block_n ?_
    refine WE.then_n ?_
    refine WC.seq ?_
    refine WC.seq ?_
    refine WC.region ?_
    refine WL.val (v_move rfl rfl) (.none rfl) rfl rfl ?_
    refine WL.val (v_move rfl rfl) (.none rfl) rfl rfl ?_
    refine WL.val ((v_neq rfl rfl rfl).f (by omega)) (.none rfl) rfl rfl ?_
    refine WL.nil ?_
    refine WE.then_n ?_
    refine WC.cond_f rfl ?_
    refine WC.skip ?_
    refine WE.then_n ?_
    refine WC.seq ?_
    refine WC.seq ?_
    refine WC.region ?_
    refine WL.val (v_move rfl rfl) (.none rfl) rfl rfl ?_
    refine WL.val ((v_neq rfl rfl rfl).f (by omega)) (.none rfl) rfl rfl ?_
    refine WL.nil ?_
    refine WE.then_n ?_
    refine WC.cond_f rfl ?_
    refine WC.skip ?_
    refine WE.then_n ?_
    refine WC.seq ?_
    refine WC.quiet mixed (by kernel_rfl) ?_
    refine WQ.val (v_fieldAddr0 rfl rfl fld_44_0) (.none rfl) rfl rfl ?_
    refine WQ.val (v_load1 rfl rfl one_4 (cellAt rfl)) (.none rfl) rfl rfl ?_
    refine WQ.val (v_move rfl rfl) (.none rfl) rfl rfl ?_
    refine WQ.val (v_indexAddr (lo := 21) rfl rfl rfl Try.underlying22 sz_5 rfl (by omega)) (.none rfl) rfl rfl ?_
    refine WQ.val (v_load1 rfl rfl one_5 (cellOld (fun h => h) (hr.part1 21 (by omega) (by omega)))) (.none rfl) rfl rfl ?_
    refine WQ.val (v_eql rfl rfl rfl) (.none rfl) rfl rfl ?_
    refine WQ.val ((v_eql_bool rfl rfl rfl Try.underlying4).t (rfl)) (.none rfl) rfl rfl ?_
    refine WQ.val (v_move rfl rfl) (.none rfl) rfl rfl ?_
    refine WQ.val (v_fieldAddr0 rfl rfl fld_44_1) (.some rfl rfl rfl) rfl rfl ?_
    refine WQ.val (v_slice_arr rfl rfl Try.underlying26 sz_5) (.some rfl rfl rfl) rfl rfl ?_
    refine WQ.val (v_convBS (fun i => f (22 + i)) rfl rfl Try.underlying22 Try.underlying5 Try.underlying9 (fun w hS _ => ⟨_, _, rfl, rdAt (six rfl rfl rfl rfl rfl rfl) w hS⟩)) (.some rfl rfl rfl) rfl rfl ?_
    refine WQ.val (v_move rfl rfl) (.some rfl rfl rfl) rfl rfl ?_
    refine WQ.val (v_slice_lhS (lo := 22) (hi := 28) rfl rfl rfl rfl Try.underlying22 sz_5 rfl rfl (by omega) (by omega) (by omega)) (.some rfl rfl rfl) rfl rfl ?_
    refine WQ.val (v_convBS (fun i => f (22 + i)) rfl rfl Try.underlying22 Try.underlying5 Try.underlying9 (fun w hS _ => ⟨_, _, rfl, hS.oldRd (fun h => h) (hr.part 22 6 (by omega) (by omega))⟩)) (.some rfl rfl rfl) rfl rfl ?_
    refine WQ.val ((v_eql_string rfl rfl rfl Try.underlying9).t (rfl)) (.some rfl rfl rfl) rfl rfl ?_
    refine WQ.val (v_pick_t rfl rfl rfl) (.none rfl) rfl rfl ?_
    refine WQ.val (v_move rfl rfl) (.none rfl) rfl rfl ?_
    refine WQ.val (v_fieldAddr0 rfl rfl fld_44_2) (.some rfl rfl rfl) rfl rfl ?_
    refine WQ.val (v_load1 rfl rfl one_28 (cellAt rfl)) (.some rfl rfl rfl) rfl rfl ?_
    refine WQ.val (v_move rfl rfl) (.some rfl rfl rfl) rfl rfl ?_
    refine WQ.call _ rfl rfl ck_17 (.some rfl rfl rfl) rfl rfl (fun w hS => Calls.still (Four_c w b off n cap 28 f (hS.oldRd (fun h => h) hr) hf (by omega) (by omega)) hS) ?_
    refine WQ.val ((v_eql rfl rfl rfl).t (rfl)) (.some rfl rfl rfl) rfl rfl ?_
    refine WQ.val (v_pick_t rfl rfl rfl) (.none rfl) rfl rfl ?_
    refine WQ.val (v_move rfl rfl) (.none rfl) rfl rfl ?_
    refine WQ.val (v_fieldAddr0 rfl rfl fld_44_3) (.some rfl rfl rfl) rfl rfl ?_
    refine WQ.val (v_slice_arr rfl rfl Try.underlying26 sz_5) (.some rfl rfl rfl) rfl rfl ?_
    refine WQ.val (v_convBS (fun i => f (32 + i)) rfl rfl Try.underlying22 Try.underlying5 Try.underlying9 (fun w hS _ => ⟨_, _, rfl, rdAt (six rfl rfl rfl rfl rfl rfl) w hS⟩)) (.some rfl rfl rfl) rfl rfl ?_
    refine WQ.val (v_move rfl rfl) (.some rfl rfl rfl) rfl rfl ?_
    refine WQ.val (v_slice_lhS (lo := 32) (hi := 38) rfl rfl rfl rfl Try.underlying22 sz_5 rfl rfl (by omega) (by omega) (by omega)) (.some rfl rfl rfl) rfl rfl ?_
    refine WQ.val (v_convBS (fun i => f (32 + i)) rfl rfl Try.underlying22 Try.underlying5 Try.underlying9 (fun w hS _ => ⟨_, _, rfl, hS.oldRd (fun h => h) (hr.part 32 6 (by omega) (by omega))⟩)) (.some rfl rfl rfl) rfl rfl ?_
    refine WQ.val ((v_eql_string rfl rfl rfl Try.underlying9).t (rfl)) (.some rfl rfl rfl) rfl rfl ?_
    refine WQ.val (v_pick_t rfl rfl rfl) (.none rfl) rfl rfl ?_
    refine WQ.val (v_move rfl rfl) (.none rfl) rfl rfl ?_
    refine WQ.val (v_fieldAddr0 rfl rfl fld_44_4) (.some rfl rfl rfl) rfl rfl ?_
    refine WQ.val (v_load1 rfl rfl one_28 (cellAt rfl)) (.some rfl rfl rfl) rfl rfl ?_
    refine WQ.val (v_move rfl rfl) (.some rfl rfl rfl) rfl rfl ?_
    refine WQ.call _ rfl rfl ck_17 (.some rfl rfl rfl) rfl rfl (fun w hS => Calls.still (Four_c w b off n cap 38 f (hS.oldRd (fun h => h) hr) hf (by omega) (by omega)) hS) ?_
    refine WQ.val ((v_eql rfl rfl rfl).t (rfl)) (.some rfl rfl rfl) rfl rfl ?_
    refine WQ.val (v_pick_t rfl rfl rfl) (.none rfl) rfl rfl ?_
    refine WQ.val (v_assign rfl rfl) (.none rfl) rfl rfl ?_
    refine WQ.nil ?_
    refine WE.then_n ?_
    refine WC.ret ?_
    refine WE.ret1 (P := Try.prog) (.inl rfl) Try.results4 rfl ?_
    exact fun w' h => ⟨rfl, h.frm⟩
theorem arpBegB_f {f : Nat → Int} (h : (str (fun i => f (14 + i)) 7).toList ≠ (ByteArray.mk #[0, 1, 8, 0, 6, 4, 0]).toList) : arpBegB f = false := decide_eq_false h
theorem arpOk_or {f : Nat → Int} (h : ¬ (str (fun i => f (14 + i)) 7).toList ≠ (ByteArray.mk #[0, 1, 8, 0, 6, 4, 0]).toList) (h2 : f 21 = 1 ∨ f 21 = 2) : ¬ (arpBegB f = false ∨ (f 21 ≠ 1 ∧ f 21 ≠ 2)) := by
  have h3 : arpBegB f = true := decide_eq_true (Classical.not_not.1 h)
  rintro (h | h)
  · rw [h3] at h; cases h
  · omega
set_option maxHeartbeats 1000000 in
theorem FrameAsks_x (w : World) (b off n cap : Nat) (f : Nat → Int) (hr : Rd w b off n f) (hf : Byt f) (hc : n ≤ cap) (h14 : 14 ≤ n) (hn : n ≤ 1514) (he : prErr 1 f n = 0) (h : arpErr f n (two f 12) ≠ 0) :
    Calls Try.prog 4 #[.slice (some ⟨b, off, none⟩) n cap] w fun e w' => e = .returned (.bool true) ∧ Frm (fun _ => False) w w' := by
  have e12 := prHd_ty 1 f
  refine enter Try.func4 rfl Try.ntmps4 rfl (St.start (fun _ => False) w) ?_
  refine WC.seq ?_
  refine WC.region ?_
  refine WL.val (v_assign rfl rfl) (.none rfl) rfl rfl ?_
  refine WL.nil ?_
  refine WE.then_n ?_
  refine WC.seq ?_
  refine WC.seq ?_
  refine WC.region ?_
  refine WL.call rfl rfl ck_10 (.none rfl) rfl rfl ?_
  intro w hS
  refine Calls.then (headOk_c w) hS ?_
  refine WL.val (v_not rfl rfl rfl) (.none rfl) rfl rfl ?_
  refine WL.nil ?_
  refine WE.then_n ?_
  refine WC.cond_f rfl ?_
  refine WC.skip ?_
  refine WE.then_n ?_
  refine WC.seq ?_
  refine WC.seq ?_
  refine WC.region ?_
  refine WL.val (v_move rfl rfl) (.none rfl) rfl rfl ?_
  refine WL.val (v_len_slice rfl rfl Try.underlying22) (.none rfl) rfl rfl ?_
  refine WL.val ((v_gtr rfl rfl rfl).f (by omega)) (.none rfl) rfl rfl ?_
  refine WL.nil ?_
  refine WE.then_n ?_
  refine WC.cond_f rfl ?_
  refine WC.skip ?_
  refine WE.then_n ?_
  refine WC.seq ?_
  refine WC.region ?_
  refine WL.val (v_move rfl rfl) (.none rfl) rfl rfl ?_
  refine WL.call rfl rfl ck_12 (.none rfl) rfl rfl ?_
  intro w hS
  refine Calls.then (Parse_k w 1 (some ⟨b, off, none⟩) n cap f (rdOOld (fun _ h => h) (fun _ => ⟨b, off, rfl, hr⟩) w hS) hf hc he) hS ?_
  refine WL.val (v_move rfl rfl) (.none rfl) rfl rfl ?_
  refine WL.val (v_extract rfl rfl rfl) (.none rfl) rfl rfl ?_
  refine WL.val (v_extract rfl rfl rfl) (.none rfl) rfl rfl ?_
  refine WL.alloc rfl zero_32 (.none rfl) rfl rfl ?_
  intro g3 hg3
  refine WL.storeW rfl rfl rfl rfl many_32 rfl rfl (.none rfl) rfl ?_
  refine WL.val (v_assign rfl rfl) (.none rfl) rfl rfl ?_
  refine WL.nil ?_
  refine WE.then_n ?_
  refine WC.seq ?_
  refine WC.seq ?_
  refine WC.region ?_
  refine WL.val (v_move rfl rfl) (.none rfl) rfl rfl ?_
  refine WL.val ((v_neq rfl rfl rfl).f (by omega)) (.none rfl) rfl rfl ?_
  refine WL.nil ?_
  refine WE.then_n ?_
  refine WC.cond_f rfl ?_
  refine WC.skip ?_
  refine WE.then_n ?_
  refine WC.seq ?_
  refine WC.region ?_
  refine WL.val (v_loadN rfl rfl many_32 rfl allAt) (.none rfl) rfl rfl ?_
  refine WL.call rfl rfl ck_16 (.none rfl) rfl rfl ?_
  intro w hS
  refine Calls.then (ParseArp_x w (prHd 1 f) (prHd 1 f) f n (prPorts f) (prEnd f) hf (fun _ => by omega) (by omega) (by rw [e12]; exact h)) hS ?_
  refine WL.val (v_move rfl rfl) (.none rfl) rfl rfl ?_
  refine WL.val (v_extract rfl rfl rfl) (.none rfl) rfl rfl ?_
  refine WL.val (v_extract rfl rfl rfl) (.none rfl) rfl rfl ?_
  refine WL.alloc rfl zero_44 (.none rfl) rfl rfl ?_
  intro g7 hg7
  refine WL.storeW rfl rfl rfl rfl many_44 rfl rfl (.none rfl) rfl ?_
  refine WL.val (v_assign rfl rfl) (.none rfl) rfl rfl ?_
  refine WL.nil ?_
  refine WE.then_n ?_
  refine WC.seq ?_
  refine WC.region ?_
  refine WL.val (v_assign rfl rfl) (.none rfl) rfl rfl ?_
  refine WL.nil ?_
  refine WE.then_n ?_
  refine WC.seq ?_
  refine WC.block ?_
  refine WC.seq ?_
  refine WC.region ?_
  refine WL.val (v_fieldAddr0 rfl rfl fld_32_0) (.none rfl) rfl rfl ?_
  refine WL.val (v_fieldAddr0 rfl rfl fld_30_3) (.none rfl) rfl rfl ?_
  refine WL.val (v_load1 rfl rfl one_3 (cellAt rfl)) (.none rfl) rfl rfl ?_
  refine WL.test (v_neq rfl rfl rfl) (.none rfl) rfl rfl (fun h38 => ?_) (fun h38 => ?_)
  · -- 38T
    refine WL.val (v_assign rfl rfl) (.none rfl) rfl rfl ?_
    refine WL.nil ?_
    refine WE.then_n ?_
    refine WC.cond_t rfl ?_
    refine WC.region ?_
    refine WL.val (v_assign rfl rfl) (.none rfl) rfl rfl ?_
    refine WL.nil ?_
    refine WE.block_n ?_
    refine WE.then_n ?_
    refine WC.seq ?_
    refine WC.seq ?_
    refine WC.region ?_
    refine WL.val (v_move rfl rfl) (.none rfl) rfl rfl ?_
    refine WL.val (v_move rfl rfl) (.none rfl) rfl rfl ?_
    refine WL.val ((v_neq rfl rfl rfl).f (by rw [e12] at h38 ⊢; unfold arpErr; rw [if_pos h38]; decide)) (.none rfl) rfl rfl ?_
    refine WL.nil ?_
    refine WE.then_n ?_
    refine WC.cond_f rfl ?_
    refine WC.skip ?_
    refine WE.then_n ?_
    refine WC.seq ?_
    refine WC.seq ?_
    refine WC.region ?_
    refine WL.val (v_move rfl rfl) (.none rfl) rfl rfl ?_
    refine WL.val ((v_neq rfl rfl rfl).t (by rw [e12]; exact h)) (.none rfl) rfl rfl ?_
    refine WL.nil ?_
    refine WE.then_n ?_
    refine WC.cond_t rfl ?_
    refine WC.seq ?_
    refine WC.region ?_
    refine WL.val (v_loadN rfl rfl many_44 rfl allAt) (.none rfl) rfl rfl ?_
    refine WL.val (v_build rfl rfl zero_44 plc_44 rfl) (.none rfl) rfl rfl ?_
    refine WL.val (v_eql_aggT rfl rfl rfl eqk_44 eqg_44 rfl rfl (by rfl)) (.none rfl) rfl rfl ?_
    refine WL.val (v_assign rfl rfl) (.none rfl) rfl rfl ?_
    refine WL.nil ?_
    refine WE.then_n ?_
    refine WC.ret ?_
    refine WE.then_ret ?_
    refine WE.ret1 (P := Try.prog) (.inl rfl) Try.results4 rfl ?_
    exact fun w' h => ⟨rfl, h.frm⟩
  · -- 38F
    refine WL.val (v_assign rfl rfl) (.none rfl) rfl rfl ?_
    refine WL.nil ?_
    refine WE.then_n ?_
    refine WC.cond_f rfl ?_
    refine WC.seq ?_
    refine WC.region ?_
    refine WL.val (v_move rfl rfl) (.none rfl) rfl rfl ?_
    refine WL.val (v_len_slice rfl rfl Try.underlying22) (.none rfl) rfl rfl ?_
    refine WL.test (v_lss rfl rfl rfl) (.none rfl) rfl rfl (fun h42 => ?_) (fun h42 => ?_)
    · -- 42T
      refine WL.val (v_assign rfl rfl) (.none rfl) rfl rfl ?_
      refine WL.nil ?_
      refine WE.then_n ?_
      refine WC.cond_t rfl ?_
      refine WC.region ?_
      refine WL.val (v_assign rfl rfl) (.none rfl) rfl rfl ?_
      refine WL.nil ?_
      refine WE.block_n ?_
      refine WE.then_n ?_
      refine WC.seq ?_
      refine WC.seq ?_
      refine WC.region ?_
      refine WL.val (v_move rfl rfl) (.none rfl) rfl rfl ?_
      refine WL.val (v_move rfl rfl) (.none rfl) rfl rfl ?_
      refine WL.val ((v_neq rfl rfl rfl).f (by rw [e12] at h38 ⊢; unfold arpErr; rw [if_neg h38, if_pos (by omega)]; decide)) (.none rfl) rfl rfl ?_
      refine WL.nil ?_
      refine WE.then_n ?_
      refine WC.cond_f rfl ?_
      refine WC.skip ?_
      refine WE.then_n ?_
      refine WC.seq ?_
      refine WC.seq ?_
      refine WC.region ?_
      refine WL.val (v_move rfl rfl) (.none rfl) rfl rfl ?_
      refine WL.val ((v_neq rfl rfl rfl).t (by rw [e12]; exact h)) (.none rfl) rfl rfl ?_
      refine WL.nil ?_
      refine WE.then_n ?_
      refine WC.cond_t rfl ?_
      refine WC.seq ?_
      refine WC.region ?_
      refine WL.val (v_loadN rfl rfl many_44 rfl allAt) (.none rfl) rfl rfl ?_
      refine WL.val (v_build rfl rfl zero_44 plc_44 rfl) (.none rfl) rfl rfl ?_
      refine WL.val (v_eql_aggT rfl rfl rfl eqk_44 eqg_44 rfl rfl (by rfl)) (.none rfl) rfl rfl ?_
      refine WL.val (v_assign rfl rfl) (.none rfl) rfl rfl ?_
      refine WL.nil ?_
      refine WE.then_n ?_
      refine WC.ret ?_
      refine WE.then_ret ?_
      refine WE.ret1 (P := Try.prog) (.inl rfl) Try.results4 rfl ?_
      exact fun w' h => ⟨rfl, h.frm⟩
    · -- 42F
      refine WL.val (v_assign rfl rfl) (.none rfl) rfl rfl ?_
      refine WL.nil ?_
      refine WE.then_n ?_
      refine WC.cond_f rfl ?_
      refine WC.seq ?_
      refine WC.region ?_
      refine WL.val (v_move rfl rfl) (.none rfl) rfl rfl ?_
      refine WL.val (v_slice_lhS (lo := 14) (hi := 21) rfl rfl rfl rfl Try.underlying22 sz_5 rfl rfl (by omega) (by omega) (by omega)) (.none rfl) rfl rfl ?_
      refine WL.val (v_convBS (fun i => f (14 + i)) rfl rfl Try.underlying22 Try.underlying5 Try.underlying9 (fun w hS _ => ⟨_, _, rfl, hS.oldRd (fun h => h) (hr.part 14 7 (by omega) (by omega))⟩)) (.none rfl) rfl rfl ?_
      refine WL.test (v_neq_string rfl rfl rfl Try.underlying9) (.none rfl) rfl rfl (fun h47 => ?_) (fun h47 => ?_)
      · -- 47T
        refine WL.val (v_move rfl rfl) (.none rfl) rfl rfl ?_
        refine WL.skip rfl rfl rfl rfl rfl rfl ?_
        refine WL.skip rfl rfl rfl rfl rfl rfl ?_
        refine WL.skip rfl rfl rfl rfl rfl rfl ?_
        refine WL.skip rfl rfl rfl rfl rfl rfl ?_
        refine WL.skip rfl rfl rfl rfl rfl rfl ?_
        refine WL.skip rfl rfl rfl rfl rfl rfl ?_
        refine WL.skip rfl rfl rfl rfl rfl rfl ?_
        refine WL.skip rfl rfl rfl rfl rfl rfl ?_
        refine WL.skip rfl rfl rfl rfl rfl rfl ?_
        refine WL.skip rfl rfl rfl rfl rfl rfl ?_
        refine WL.val (v_pick_t rfl rfl rfl) (.none rfl) rfl rfl ?_
        refine WL.val (v_assign rfl rfl) (.none rfl) rfl rfl ?_
        refine WL.nil ?_
        refine WE.then_n ?_
        refine WC.cond_t rfl ?_
        refine WC.region ?_
        refine WL.val (v_assign rfl rfl) (.none rfl) rfl rfl ?_
        refine WL.nil ?_
        refine WE.block_n ?_
        refine WE.then_n ?_
        refine WC.seq ?_
        refine WC.seq ?_
        refine WC.region ?_
        refine WL.val (v_move rfl rfl) (.none rfl) rfl rfl ?_
        refine WL.val (v_move rfl rfl) (.none rfl) rfl rfl ?_
        refine WL.val ((v_neq rfl rfl rfl).f (by rw [e12] at h38 ⊢; unfold arpErr; rw [if_neg h38, if_neg (by omega), if_pos (.inl (arpBegB_f h47))]; decide)) (.none rfl) rfl rfl ?_
        refine WL.nil ?_
        refine WE.then_n ?_
        refine WC.cond_f rfl ?_
        refine WC.skip ?_
        refine WE.then_n ?_
        refine WC.seq ?_
        refine WC.seq ?_
        refine WC.region ?_
        refine WL.val (v_move rfl rfl) (.none rfl) rfl rfl ?_
        refine WL.val ((v_neq rfl rfl rfl).t (by rw [e12]; exact h)) (.none rfl) rfl rfl ?_
        refine WL.nil ?_
        refine WE.then_n ?_
        refine WC.cond_t rfl ?_
        refine WC.seq ?_
        refine WC.region ?_
        refine WL.val (v_loadN rfl rfl many_44 rfl allAt) (.none rfl) rfl rfl ?_
        refine WL.val (v_build rfl rfl zero_44 plc_44 rfl) (.none rfl) rfl rfl ?_
        refine WL.val (v_eql_aggT rfl rfl rfl eqk_44 eqg_44 rfl rfl (by rfl)) (.none rfl) rfl rfl ?_
        refine WL.val (v_assign rfl rfl) (.none rfl) rfl rfl ?_
        refine WL.nil ?_
        refine WE.then_n ?_
        refine WC.ret ?_
        refine WE.then_ret ?_
        refine WE.ret1 (P := Try.prog) (.inl rfl) Try.results4 rfl ?_
        exact fun w' h => ⟨rfl, h.frm⟩
      · -- 47F
        refine WL.val (v_move rfl rfl) (.none rfl) rfl rfl ?_
        refine WL.val (v_move rfl rfl) (.some rfl rfl rfl) rfl rfl ?_
        refine WL.val (v_indexAddr (lo := 21) rfl rfl rfl Try.underlying22 sz_5 rfl (by omega)) (.some rfl rfl rfl) rfl rfl ?_
        refine WL.val (v_load1 rfl rfl one_5 (cellOld (fun h => h) (hr.part1 21 (by omega) (by omega)))) (.some rfl rfl rfl) rfl rfl ?_
        refine WL.test (v_neq rfl rfl rfl) (.some rfl rfl rfl) rfl rfl (fun h52 => ?_) (fun h52 => ?_)
        · -- 52T
          refine WL.val (v_move rfl rfl) (.some rfl rfl rfl) rfl rfl ?_
          refine WL.val (v_move rfl rfl) (.some rfl rfl rfl) rfl rfl ?_
          refine WL.val (v_indexAddr (lo := 21) rfl rfl rfl Try.underlying22 sz_5 rfl (by omega)) (.some rfl rfl rfl) rfl rfl ?_
          refine WL.val (v_load1 rfl rfl one_5 (cellOld (fun h => h) (hr.part1 21 (by omega) (by omega)))) (.some rfl rfl rfl) rfl rfl ?_
          refine WL.test (v_neq rfl rfl rfl) (.some rfl rfl rfl) rfl rfl (fun h57 => ?_) (fun h57 => ?_)
          · -- 57T
            refine WL.val (v_pick_t rfl rfl rfl) (.some rfl rfl rfl) rfl rfl ?_
            refine WL.val (v_pick_f rfl rfl rfl) (.none rfl) rfl rfl ?_
            refine WL.val (v_assign rfl rfl) (.none rfl) rfl rfl ?_
            refine WL.nil ?_
            refine WE.then_n ?_
            refine WC.cond_t rfl ?_
            refine WC.region ?_
            refine WL.val (v_assign rfl rfl) (.none rfl) rfl rfl ?_
            refine WL.nil ?_
            refine WE.block_n ?_
            refine WE.then_n ?_
            refine WC.seq ?_
            refine WC.seq ?_
            refine WC.region ?_
            refine WL.val (v_move rfl rfl) (.none rfl) rfl rfl ?_
            refine WL.val (v_move rfl rfl) (.none rfl) rfl rfl ?_
            refine WL.val ((v_neq rfl rfl rfl).f (by rw [e12] at h38 ⊢; unfold arpErr; rw [if_neg h38, if_neg (by omega), if_pos (.inr ⟨h52, h57⟩)]; decide)) (.none rfl) rfl rfl ?_
            refine WL.nil ?_
            refine WE.then_n ?_
            refine WC.cond_f rfl ?_
            refine WC.skip ?_
            refine WE.then_n ?_
            refine WC.seq ?_
            refine WC.seq ?_
            refine WC.region ?_
            refine WL.val (v_move rfl rfl) (.none rfl) rfl rfl ?_
            refine WL.val ((v_neq rfl rfl rfl).t (by rw [e12]; exact h)) (.none rfl) rfl rfl ?_
            refine WL.nil ?_
            refine WE.then_n ?_
            refine WC.cond_t rfl ?_
            refine WC.seq ?_
            refine WC.region ?_
            refine WL.val (v_loadN rfl rfl many_44 rfl allAt) (.none rfl) rfl rfl ?_
            refine WL.val (v_build rfl rfl zero_44 plc_44 rfl) (.none rfl) rfl rfl ?_
            refine WL.val (v_eql_aggT rfl rfl rfl eqk_44 eqg_44 rfl rfl (by rfl)) (.none rfl) rfl rfl ?_
            refine WL.val (v_assign rfl rfl) (.none rfl) rfl rfl ?_
            refine WL.nil ?_
            refine WE.then_n ?_
            refine WC.ret ?_
            refine WE.then_ret ?_
            refine WE.ret1 (P := Try.prog) (.inl rfl) Try.results4 rfl ?_
            exact fun w' h => ⟨rfl, h.frm⟩
          · -- 57F
            refine WL.val (v_pick_t rfl rfl rfl) (.some rfl rfl rfl) rfl rfl ?_
            refine WL.val (v_pick_f rfl rfl rfl) (.none rfl) rfl rfl ?_
            refine WL.val (v_assign rfl rfl) (.none rfl) rfl rfl ?_
            refine WL.nil ?_
            refine WE.then_n ?_
            refine WC.cond_f rfl ?_
            refine WC.skip ?_
            refine WE.block_n ?_
            refine WE.then_n ?_
            refine WC.seq ?_
            refine WC.seq ?_
            refine WC.region ?_
            refine WL.val (v_move rfl rfl) (.none rfl) rfl rfl ?_
            refine WL.val (v_move rfl rfl) (.none rfl) rfl rfl ?_
            refine WL.val ((v_neq rfl rfl rfl).f (by rw [e12] at h38 ⊢; unfold arpErr; rw [if_neg h38, if_neg (by omega), if_neg (arpOk_or h47 (.inr (Classical.not_not.1 h57)))]; decide)) (.none rfl) rfl rfl ?_
            refine WL.nil ?_
            refine WE.then_n ?_
            refine WC.cond_f rfl ?_
            refine WC.skip ?_
            refine WE.then_n ?_
            refine WC.seq ?_
            refine WC.seq ?_
            refine WC.region ?_
            refine WL.val (v_move rfl rfl) (.none rfl) rfl rfl ?_
            refine WL.val ((v_neq rfl rfl rfl).t (by rw [e12]; exact h)) (.none rfl) rfl rfl ?_
            refine WL.nil ?_
            refine WE.then_n ?_
            refine WC.cond_t rfl ?_
            refine WC.seq ?_
            refine WC.region ?_
            refine WL.val (v_loadN rfl rfl many_44 rfl allAt) (.none rfl) rfl rfl ?_
            refine WL.val (v_build rfl rfl zero_44 plc_44 rfl) (.none rfl) rfl rfl ?_
            refine WL.val (v_eql_aggT rfl rfl rfl eqk_44 eqg_44 rfl rfl (by rfl)) (.none rfl) rfl rfl ?_
            refine WL.val (v_assign rfl rfl) (.none rfl) rfl rfl ?_
            refine WL.nil ?_
            refine WE.then_n ?_
            refine WC.ret ?_
            refine WE.then_ret ?_
            refine WE.ret1 (P := Try.prog) (.inl rfl) Try.results4 rfl ?_
            exact fun w' h => ⟨rfl, h.frm⟩
        · -- 52F
          refine WL.val (v_move rfl rfl) (.some rfl rfl rfl) rfl rfl ?_
          refine WL.skip rfl rfl rfl rfl rfl rfl ?_
          refine WL.skip rfl rfl rfl rfl rfl rfl ?_
          refine WL.skip rfl rfl rfl rfl rfl rfl ?_
          refine WL.skip rfl rfl rfl rfl rfl rfl ?_
          refine WL.val (v_pick_f rfl rfl rfl) (.some rfl rfl rfl) rfl rfl ?_
          refine WL.val (v_pick_f rfl rfl rfl) (.none rfl) rfl rfl ?_
          refine WL.val (v_assign rfl rfl) (.none rfl) rfl rfl ?_
          refine WL.nil ?_
          refine WE.then_n ?_
          refine WC.cond_f rfl ?_
          refine WC.skip ?_
          refine WE.block_n ?_
          refine WE.then_n ?_
          refine WC.seq ?_
          refine WC.seq ?_
          refine WC.region ?_
          refine WL.val (v_move rfl rfl) (.none rfl) rfl rfl ?_
          refine WL.val (v_move rfl rfl) (.none rfl) rfl rfl ?_
          refine WL.val ((v_neq rfl rfl rfl).f (by rw [e12] at h38 ⊢; unfold arpErr; rw [if_neg h38, if_neg (by omega), if_neg (arpOk_or h47 (.inl (Classical.not_not.1 h52)))]; decide)) (.none rfl) rfl rfl ?_
          refine WL.nil ?_
          refine WE.then_n ?_
          refine WC.cond_f rfl ?_
          refine WC.skip ?_
          refine WE.then_n ?_
          refine WC.seq ?_
          refine WC.seq ?_
          refine WC.region ?_
          refine WL.val (v_move rfl rfl) (.none rfl) rfl rfl ?_
          refine WL.val ((v_neq rfl rfl rfl).t (by rw [e12]; exact h)) (.none rfl) rfl rfl ?_
          refine WL.nil ?_
          refine WE.then_n ?_
          refine WC.cond_t rfl ?_
          refine WC.seq ?_
          refine WC.region ?_
          refine WL.val (v_loadN rfl rfl many_44 rfl allAt) (.none rfl) rfl rfl ?_
          refine WL.val (v_build rfl rfl zero_44 plc_44 rfl) (.none rfl) rfl rfl ?_
          refine WL.val (v_eql_aggT rfl rfl rfl eqk_44 eqg_44 rfl rfl (by rfl)) (.none rfl) rfl rfl ?_
          refine WL.val (v_assign rfl rfl) (.none rfl) rfl rfl ?_
          refine WL.nil ?_
          refine WE.then_n ?_
          refine WC.ret ?_
          refine WE.then_ret ?_
          refine WE.ret1 (P := Try.prog) (.inl rfl) Try.results4 rfl ?_
          exact fun w' h => ⟨rfl, h.frm⟩

theorem FrameAsks_all (w : World) (a : Option Addr) (n cap : Nat) (f : Nat → Int) (hr : RdO w a n f) (hf : Byt f) (hc : n ≤ cap) :
    Calls Try.prog 4 #[.slice a n cap] w fun e w' => e = .returned (.bool true) ∧ Frm (fun _ => False) w w' := by
  by_cases hn : 1514 < n
  · exact FrameAsks_long w a n cap hn
  by_cases he : prErr 1 f n = 0
  · have h14 : 14 ≤ n := by
      unfold prErr at he
      rw [if_neg (by omega)] at he
      split at he
      · exact absurd he (by decide)
      · omega
    obtain ⟨b, off, rfl, hr'⟩ := hr (by omega)
    by_cases h : arpErr f n (two f 12) = 0
    · have h' := h
      unfold arpErr at h'
      split at h'
      · exact absurd h' (by decide)
      · split at h'
        · exact absurd h' (by decide)
        · split at h'
          · exact absurd h' (by decide)
          · rename_i k1 k2 k3
            refine FrameAsks_0 w b off n cap f hr' hf hc (by omega) he h (by omega) (by omega) ((arpBegB_iff f).2 ?_) (by omega)
            cases hb : arpBegB f with
            | true => rfl
            | false => exact absurd (.inl hb) k3
    · exact FrameAsks_x w b off n cap f hr' hf hc h14 (by omega) he h
  · exact FrameAsks_e w a n cap f hr hf hc (by omega) he
end Go.Proofs.Ytpjjlggonpbegaa
