/- frame.Parse, by the engine. -/
import Derived.Test.YtpjjlggonpbegaaDoorF1
namespace Go.Proofs.YtpjjlggonpbegaaDoor
open Go.RowKit

theorem pkErr_zero {f : Nat → Int} {n : Nat} (h : pkErr f n = 0) : 34 ≤ n ∧ f 14 / 16 = 4 ∧ 20 ≤ ihl f ∧ ihl f ≤ two f 16 ∧ 14 + two f 16 ≤ (n : Int) ∧ fc (total (fun i => f (14 + i)) (ihl f).toNat) = 65535 := by
  unfold pkErr at h
  split at h
  · exact absurd h (by decide)
  · split at h
    · exact absurd h (by decide)
    · split at h
      · exact absurd h (by decide)
      · split at h
        · exact absurd h (by decide)
        · rename_i h1 h2 h3 h4
          exact ⟨by omega, by omega, by omega, by omega, by omega, by simpa using h4⟩

set_option maxHeartbeats 1000000 in
theorem packet_c (p : Nat → Prop) (w0 w : World) (L : List Ent) (bp b off n cap : Nat) (f : Nat → Int) (W : Hd) (raw : ByteArray) (hS : St p w0 w (.row bp (pkL Hd.zero W raw 0 0) :: L)) (hpb : ¬ p b) (hr : Rd w0 b off n f) (hf : Byt f) (h14 : 14 ≤ n) (hc : n ≤ cap) (hn : n ≤ 2000) :
    Calls Tryd.prog 13 #[.pointer (some ⟨bp, 0, none⟩), .slice (some ⟨b, off, none⟩) n cap] w fun e w' => e = .returned (.int .i64 (pkErr f n)) ∧ ∃ cs, (pkErr f n = 0 → cs = pkL Hd.zero (pkHd f W) raw (pOf f) (14 + two f 16)) ∧ St p w0 w' (.row bp cs :: L) := by
  have b14 := hf 14
  have b23 := hf 23
  have t16 := two_le hf 16
  have t20 := two_le hf 20
  have hL : f 14 % 16 * 4 = ((ihn f : Nat) : Int) := by unfold ihn ihl; omega
  have hLi : ihl f = ((ihn f : Nat) : Int) := hL
  have hih : ihn f ≤ 60 := by omega
  have tot := fc_le (total (fun i => f (14 + i)) (ihn f)) (total_le (hf.sub 14) _).1
  have tpa := two_le hf (14 + ihn f)
  have tpb := two_le hf (14 + ihn f + 2)
  refine enter Tryd.func13 rfl Tryd.ntmps13 rfl hS ?_
  refine WC.seq ?_
  refine WC.region ?_
  refine WL.val (v_assign rfl rfl) (.none rfl) rfl rfl ?_
  refine WL.nil ?_
  refine WE.then_n ?_
  refine WC.seq ?_
  refine WC.region ?_
  refine WL.val (v_move rfl rfl) (.none rfl) rfl rfl ?_
  refine WL.val (v_slice_lo (lo := 14) rfl rfl rfl Tryd.underlying22 sz_5 rfl (by omega)) (.none rfl) rfl rfl ?_
  refine WL.val (v_assign rfl rfl) (.none rfl) rfl rfl ?_
  refine WL.nil ?_
  refine WE.then_n ?_
  refine WC.seq ?_
  refine WC.seq ?_
  refine WC.region ?_
  refine WL.val (v_move rfl rfl) (.none rfl) rfl rfl ?_
  refine WL.val (v_len_slice rfl rfl Tryd.underlying22) (.none rfl) rfl rfl ?_
  refine WL.test (v_lss rfl rfl rfl) (.none rfl) rfl rfl (fun h13 => ?_) (fun h13 => ?_)
  · -- 13T
    refine WL.nil ?_
    refine WE.then_n ?_
    refine WC.cond_t rfl ?_
    refine WC.seq ?_
    refine WC.region ?_
    refine WL.val (v_assign rfl rfl) (.none rfl) rfl rfl ?_
    refine WL.nil ?_
    refine WE.then_n ?_
    refine WC.ret ?_
    refine WE.then_ret ?_
    refine WE.ret1 (P := Tryd.prog) (.inl rfl) Tryd.results13 rfl ?_
    have e : pkErr f n = 10 := by unfold pkErr; rw [if_pos (by omega)]
    exact fun w' h => ⟨by rw [e], _, fun h0 => by rw [e] at h0; exact absurd h0 (by decide), h⟩
  · -- 13F
    refine WL.nil ?_
    refine WE.then_n ?_
    refine WC.cond_f rfl ?_
    refine WC.skip ?_
    refine WE.then_n ?_
    refine WC.seq ?_
    refine WC.quiet mixed (by kernel_rfl) ?_
    refine WQ.val (v_move rfl rfl) (.none rfl) rfl rfl ?_
    refine WQ.val (v_indexAddr (lo := 0) rfl rfl rfl Tryd.underlying22 sz_5 rfl (by omega)) (.none rfl) rfl rfl ?_
    refine WQ.val (v_load1 rfl rfl one_5 (cellOld hpb (hr.part1 14 (by omega) (by unfold sAddr; split <;> omega)))) (.none rfl) rfl rfl ?_
    refine WQ.val (v_and rfl rfl rfl (mask_u8 (i := 4) (m := 16) (by decide) (by decide) (by decide) (by omega) (by omega))) (.none rfl) rfl rfl ?_
    refine WQ.val (v_conv rfl rfl Tryd.underlying3 Tryd.underlying5 (w_i64 (by omega) (by omega))) (.none rfl) rfl rfl ?_
    refine WQ.val (v_mul rfl rfl rfl (w_i64 (by omega) (by omega))) (.none rfl) rfl rfl ?_
    refine WQ.val (v_move rfl rfl) (.none rfl) rfl rfl ?_
    refine WQ.val (v_slice_lo (lo := 2) rfl rfl rfl Tryd.underlying22 sz_5 rfl (by omega)) (.none rfl) rfl rfl ?_
    refine WQ.call _ rfl rfl ck_12 (.none rfl) rfl rfl (fun w hS => Calls.still (get_c w b _ _ _ (fun i => f (16 + i)) (hS.oldRd hpb (hr.part 16 2 (by omega) (by unfold sAddr; (repeat' split) <;> omega))) (hf.sub 16) (by omega) (two f 16) rfl) hS) ?_
    refine WQ.val (v_assign rfl rfl) (.none rfl) rfl rfl ?_
    refine WQ.val (v_assign rfl rfl) (.none rfl) rfl rfl ?_
    refine WQ.nil ?_
    refine WE.then_n ?_
    refine WC.seq ?_
    refine WC.seq ?_
    refine WC.region ?_
    refine WL.val (v_move rfl rfl) (.none rfl) rfl rfl ?_
    refine WL.val (v_indexAddr (lo := 0) rfl rfl rfl Tryd.underlying22 sz_5 rfl (by omega)) (.none rfl) rfl rfl ?_
    refine WL.val (v_load1 rfl rfl one_5 (cellOld hpb (hr.part1 14 (by omega) (by unfold sAddr; split <;> omega)))) (.none rfl) rfl rfl ?_
    refine WL.val (v_shr (m := 4) (c := 16) rfl rfl rfl rfl (by decide) (by decide)) (.none rfl) rfl rfl ?_
    refine WL.test (v_neq rfl rfl rfl) (.none rfl) rfl rfl (fun h27 => ?_) (fun h27 => ?_)
    · -- 27T
      refine WL.val (v_move rfl rfl) (.none rfl) rfl rfl ?_
      refine WL.skip rfl rfl rfl rfl rfl rfl ?_
      refine WL.skip rfl rfl rfl rfl rfl rfl ?_
      refine WL.val (v_pick_t rfl rfl rfl) (.none rfl) rfl rfl ?_
      refine WL.val (v_move rfl rfl) (.none rfl) rfl rfl ?_
      refine WL.skip rfl rfl rfl rfl rfl rfl ?_
      refine WL.skip rfl rfl rfl rfl rfl rfl ?_
      refine WL.skip rfl rfl rfl rfl rfl rfl ?_
      refine WL.val (v_pick_t rfl rfl rfl) (.none rfl) rfl rfl ?_
      refine WL.nil ?_
      refine WE.then_n ?_
      refine WC.cond_t rfl ?_
      refine WC.seq ?_
      refine WC.region ?_
      refine WL.val (v_assign rfl rfl) (.none rfl) rfl rfl ?_
      refine WL.nil ?_
      refine WE.then_n ?_
      refine WC.ret ?_
      refine WE.then_ret ?_
      refine WE.ret1 (P := Tryd.prog) (.inl rfl) Tryd.results13 rfl ?_
      have e : pkErr f n = 2 := by unfold pkErr; rw [if_neg (by omega), if_pos (by omega)]
      exact fun w' h => ⟨by rw [e], _, fun h0 => by rw [e] at h0; exact absurd h0 (by decide), h⟩
    · -- 27F
      refine WL.val (v_move rfl rfl) (.none rfl) rfl rfl ?_
      refine WL.val (v_move rfl rfl) (.some rfl rfl rfl) rfl rfl ?_
      refine WL.test (v_lss rfl rfl rfl) (.some rfl rfl rfl) rfl rfl (fun h30 => ?_) (fun h30 => ?_)
      · -- 30T
        refine WL.val (v_pick_f rfl rfl rfl) (.none rfl) rfl rfl ?_
        refine WL.val (v_move rfl rfl) (.none rfl) rfl rfl ?_
        refine WL.skip rfl rfl rfl rfl rfl rfl ?_
        refine WL.skip rfl rfl rfl rfl rfl rfl ?_
        refine WL.skip rfl rfl rfl rfl rfl rfl ?_
        refine WL.val (v_pick_t rfl rfl rfl) (.none rfl) rfl rfl ?_
        refine WL.nil ?_
        refine WE.then_n ?_
        refine WC.cond_t rfl ?_
        refine WC.seq ?_
        refine WC.region ?_
        refine WL.val (v_assign rfl rfl) (.none rfl) rfl rfl ?_
        refine WL.nil ?_
        refine WE.then_n ?_
        refine WC.ret ?_
        refine WE.then_ret ?_
        refine WE.ret1 (P := Tryd.prog) (.inl rfl) Tryd.results13 rfl ?_
        have e : pkErr f n = 2 := by unfold pkErr; rw [if_neg (by omega), if_pos (by omega)]
        exact fun w' h => ⟨by rw [e], _, fun h0 => by rw [e] at h0; exact absurd h0 (by decide), h⟩
      · -- 30F
        refine WL.val (v_pick_f rfl rfl rfl) (.none rfl) rfl rfl ?_
        refine WL.val (v_move rfl rfl) (.none rfl) rfl rfl ?_
        refine WL.val (v_move rfl rfl) (.some rfl rfl rfl) rfl rfl ?_
        refine WL.val (v_move rfl rfl) (.some rfl rfl rfl) rfl rfl ?_
        refine WL.test (v_lss rfl rfl rfl) (.some rfl rfl rfl) rfl rfl (fun h35 => ?_) (fun h35 => ?_)
        · -- 35T
          refine WL.val (v_pick_f rfl rfl rfl) (.none rfl) rfl rfl ?_
          refine WL.nil ?_
          refine WE.then_n ?_
          refine WC.cond_t rfl ?_
          refine WC.seq ?_
          refine WC.region ?_
          refine WL.val (v_assign rfl rfl) (.none rfl) rfl rfl ?_
          refine WL.nil ?_
          refine WE.then_n ?_
          refine WC.ret ?_
          refine WE.then_ret ?_
          refine WE.ret1 (P := Tryd.prog) (.inl rfl) Tryd.results13 rfl ?_
          have e : pkErr f n = 2 := by unfold pkErr; rw [if_neg (by omega), if_pos (by omega)]
          exact fun w' h => ⟨by rw [e], _, fun h0 => by rw [e] at h0; exact absurd h0 (by decide), h⟩
        · -- 35F
          refine WL.val (v_pick_f rfl rfl rfl) (.none rfl) rfl rfl ?_
          refine WL.nil ?_
          refine WE.then_n ?_
          refine WC.cond_f rfl ?_
          refine WC.skip ?_
          refine WE.then_n ?_
          refine WC.seq ?_
          refine WC.seq ?_
          refine WC.region ?_
          refine WL.val (v_move rfl rfl) (.none rfl) rfl rfl ?_
          refine WL.val (v_len_slice rfl rfl Tryd.underlying22) (.none rfl) rfl rfl ?_
          refine WL.val (v_move rfl rfl) (.none rfl) rfl rfl ?_
          refine WL.test (v_lss rfl rfl rfl) (.none rfl) rfl rfl (fun h40 => ?_) (fun h40 => ?_)
          · -- 40T
            refine WL.nil ?_
            refine WE.then_n ?_
            refine WC.cond_t rfl ?_
            refine WC.seq ?_
            refine WC.region ?_
            refine WL.val (v_assign rfl rfl) (.none rfl) rfl rfl ?_
            refine WL.nil ?_
            refine WE.then_n ?_
            refine WC.ret ?_
            refine WE.then_ret ?_
            refine WE.ret1 (P := Tryd.prog) (.inl rfl) Tryd.results13 rfl ?_
            have e : pkErr f n = 10 := by unfold pkErr; rw [if_neg (by omega), if_neg (by omega), if_pos (by omega)]
            exact fun w' h => ⟨by rw [e], _, fun h0 => by rw [e] at h0; exact absurd h0 (by decide), h⟩
          · -- 40F
            refine WL.nil ?_
            refine WE.then_n ?_
            refine WC.cond_f rfl ?_
            refine WC.skip ?_
            refine WE.then_n ?_
            refine WC.seq ?_
            refine WC.seq ?_
            refine WC.region ?_
            refine WL.val (v_move rfl rfl) (.none rfl) rfl rfl ?_
            refine WL.val (v_move rfl rfl) (.none rfl) rfl rfl ?_
            refine WL.val (v_slice_hi (hi := ihn f) rfl rfl rfl Tryd.underlying22 sz_5 (by omega) (by omega)) (.none rfl) rfl rfl ?_
            refine WL.call rfl rfl ck_17 (.none rfl) rfl rfl ?_
            intro w hS
            refine Calls.then (check_c w b _ _ _ (fun i => f (14 + i)) (hS.oldRd hpb (hr.part 14 (ihn f) (by omega) (by unfold sAddr; split <;> omega))) (hf.sub 14) (by omega) (by omega)) hS ?_
            refine WL.test (v_neq rfl rfl rfl) (.none rfl) rfl rfl (fun h45 => ?_) (fun h45 => ?_)
            · -- 45T
              refine WL.nil ?_
              refine WE.then_n ?_
              refine WC.cond_t rfl ?_
              refine WC.seq ?_
              refine WC.region ?_
              refine WL.val (v_assign rfl rfl) (.none rfl) rfl rfl ?_
              refine WL.nil ?_
              refine WE.then_n ?_
              refine WC.ret ?_
              refine WE.then_ret ?_
              refine WE.ret1 (P := Tryd.prog) (.inl rfl) Tryd.results13 rfl ?_
              have e : pkErr f n = 11 := by unfold pkErr; rw [if_neg (by omega), if_neg (by omega), if_neg (by omega), if_pos (show fc (total (fun i => f (14 + i)) (ihl f).toNat) ≠ 65535 from h45)]
              exact fun w' h => ⟨by rw [e], _, fun h0 => by rw [e] at h0; exact absurd h0 (by decide), h⟩
            · -- 45F
              refine WL.nil ?_
              refine WE.then_n ?_
              refine WC.cond_f rfl ?_
              refine WC.skip ?_
              refine WE.then_n ?_
              refine WC.seq ?_
              refine WC.region ?_
              refine WL.val (v_move rfl rfl) (.none rfl) rfl rfl ?_
              refine WL.val (v_move rfl rfl) (.none rfl) rfl rfl ?_
              refine WL.val (v_add rfl rfl rfl (w_i64 (by omega) (by omega))) (.none rfl) rfl rfl ?_
              refine WL.val (v_nilCheck rfl rfl) (.none rfl) rfl rfl ?_
              refine WL.val (v_fieldAddr0 rfl rfl fld_31_4) (.none rfl) rfl rfl ?_
              refine WL.store1 rfl rfl rfl rfl one_3 (Nat.le_of_ble_eq_true rfl) (.none rfl) rfl ?_
              refine WL.nil ?_
              refine WE.then_n ?_
              refine WC.seq ?_
              refine WC.region ?_
              refine WL.val (v_move rfl rfl) (.none rfl) rfl rfl ?_
              refine WL.val (v_move rfl rfl) (.none rfl) rfl rfl ?_
              refine WL.val (v_indexAddr (lo := 9) rfl rfl rfl Tryd.underlying22 sz_5 rfl (by omega)) (.none rfl) rfl rfl ?_
              refine WL.val (v_load1 rfl rfl one_5 (cellOld hpb (hr.part1 23 (by omega) (by unfold sAddr; split <;> omega)))) (.none rfl) rfl rfl ?_
              refine WL.val (v_conv rfl rfl Tryd.underlying3 Tryd.underlying5 (w_i64 (by omega) (by omega))) (.none rfl) rfl rfl ?_
              refine WL.val (v_nilCheck rfl rfl) (.none rfl) rfl rfl ?_
              refine WL.val (v_fieldAddr0 rfl rfl fld_31_1) (.none rfl) rfl rfl ?_
              refine WL.val (v_fieldAddr rfl rfl fld_28_6) (.none rfl) rfl rfl ?_
              refine WL.store1 rfl rfl rfl rfl one_3 (Nat.le_of_ble_eq_true rfl) (.none rfl) rfl ?_
              refine WL.nil ?_
              refine WE.then_n ?_
              refine WC.seq ?_
              refine WC.orders mixed ?_
              refine WR.first (g := 10) [0, 1, 2, 3, 5, 6] (by kernel_rfl) (by kernel_rfl) ?_
              refine WP.val (v_move rfl rfl) (.none rfl) rfl rfl ?_
              refine WP.val (v_move rfl rfl) (.none rfl) rfl rfl ?_
              refine WP.val (v_move rfl rfl) (.none rfl) rfl rfl ?_
              refine WP.val (v_slice_loS (lo := 26) rfl rfl rfl Tryd.underlying22 sz_5 rfl (by omega) (by omega)) (.none rfl) rfl rfl ?_
              refine WP.val (v_move rfl rfl) (.none rfl) rfl rfl ?_
              refine WP.val (v_slice_loS (lo := 30) rfl rfl rfl Tryd.underlying22 sz_5 rfl (by omega) (by omega)) (.none rfl) rfl rfl ?_
              refine WP.nil ?_
              refine WR.read (g := 5) [4, 7, 8, 9, 10] (by kernel_rfl) (by kernel_rfl) (by kernel_rfl) (by kernel_rfl) rfl ?_
              refine WQ.call _ rfl rfl ck_23 (.none rfl) rfl rfl (fun w hS => Calls.still (getAddr_c w b _ _ _ (fun i => f (26 + i)) (hS.oldRd hpb (hr.part 26 4 (by omega) (by omega))) (hf.sub 26) (by omega) (by omega) (four f 26) rfl) hS) ?_
              refine WQ.call _ rfl rfl ck_23 (.none rfl) rfl rfl (fun w hS => Calls.still (getAddr_c w b _ _ _ (fun i => f (30 + i)) (hS.oldRd hpb (hr.part 30 4 (by omega) (by omega))) (hf.sub 30) (by omega) (by omega) (four f 30) rfl) hS) ?_
              refine WQ.val (v_nilCheck rfl rfl) (.none rfl) rfl rfl ?_
              refine WQ.val (v_fieldAddr0 rfl rfl fld_31_1) (.none rfl) rfl rfl ?_
              refine WQ.val (v_fieldAddr rfl rfl fld_28_4) (.none rfl) rfl rfl ?_
              refine WQ.nilR ?_
              refine WR.ones (g := 4) [11] (by kernel_rfl) ?_
              refine WL.store1 rfl rfl rfl rfl one_26 (Nat.le_of_ble_eq_true rfl) (.none rfl) rfl ?_
              refine WL.nilR ?_
              refine WR.first (g := 1) [12, 13, 14] (by kernel_rfl) (by kernel_rfl) ?_
              refine WP.val (v_nilCheck rfl rfl) (.none rfl) rfl rfl ?_
              refine WP.val (v_fieldAddr0 rfl rfl fld_31_1) (.none rfl) rfl rfl ?_
              refine WP.val (v_fieldAddr rfl rfl fld_28_5) (.none rfl) rfl rfl ?_
              refine WP.nil ?_
              refine WR.ones (g := 0) [15] (by kernel_rfl) ?_
              refine WL.store1 rfl rfl rfl rfl one_26 (Nat.le_of_ble_eq_true rfl) (.none rfl) rfl ?_
              refine WL.nilR ?_
              refine WR.done (by kernel_rfl) ?_
              refine WE.then_n ?_
              refine WC.seq ?_
              refine WC.region ?_
              refine WL.val (v_move rfl rfl) (.none rfl) rfl rfl ?_
              refine WL.val (v_slice_loS (lo := 6) rfl rfl rfl Tryd.underlying22 sz_5 rfl (by omega) (by omega)) (.none rfl) rfl rfl ?_
              refine WL.call rfl rfl ck_12 (.none rfl) rfl rfl ?_
              intro w hS
              refine Calls.then (get_c w b _ _ _ (fun i => f (20 + i)) (hS.oldRd hpb (hr.part 20 2 (by omega) (by unfold sAddr; split <;> omega))) (hf.sub 20) (by omega) (two f 20) rfl) hS ?_
              refine WL.val (v_and rfl rfl rfl (mask_i64' (i := 13) (m := 8192) (by decide) (by decide) (by decide))) (.none rfl) rfl rfl ?_
              refine WL.test (v_eql rfl rfl rfl) (.none rfl) rfl rfl (fun h77 => ?_) (fun h77 => ?_)
              · -- 77T
                refine WL.val (v_assign rfl rfl) (.none rfl) rfl rfl ?_
                refine WL.nil ?_
                refine WE.then_n ?_
                refine WC.seq ?_
                refine WC.seq ?_
                refine WC.region ?_
                refine WL.val (v_move rfl rfl) (.none rfl) rfl rfl ?_
                refine WL.val (v_nilCheck rfl rfl) (.none rfl) rfl rfl ?_
                refine WL.val (v_fieldAddr0 rfl rfl fld_31_1) (.none rfl) rfl rfl ?_
                refine WL.val (v_fieldAddr rfl rfl fld_28_6) (.none rfl) rfl rfl ?_
                refine WL.val (v_load1 rfl rfl one_3 (cellAt rfl)) (.none rfl) rfl rfl ?_
                refine WL.test (v_eql rfl rfl rfl) (.none rfl) rfl rfl (fun h83 => ?_) (fun h83 => ?_)
                · -- 83T
                  refine WL.val (v_move rfl rfl) (.none rfl) rfl rfl ?_
                  refine WL.skip rfl rfl rfl rfl rfl rfl ?_
                  refine WL.skip rfl rfl rfl rfl rfl rfl ?_
                  refine WL.skip rfl rfl rfl rfl rfl rfl ?_
                  refine WL.skip rfl rfl rfl rfl rfl rfl ?_
                  refine WL.skip rfl rfl rfl rfl rfl rfl ?_
                  refine WL.skip rfl rfl rfl rfl rfl rfl ?_
                  refine WL.val (v_pick_t rfl rfl rfl) (.none rfl) rfl rfl ?_
                  refine WL.val (v_move rfl rfl) (.none rfl) rfl rfl ?_
                  refine WL.val (v_move rfl rfl) (.some rfl rfl rfl) rfl rfl ?_
                  refine WL.val (v_pick_t rfl rfl rfl) (.none rfl) rfl rfl ?_
                  refine WL.val (v_move rfl rfl) (.none rfl) rfl rfl ?_
                  refine WL.val (v_move rfl rfl) (.some rfl rfl rfl) rfl rfl ?_
                  refine WL.val (v_move rfl rfl) (.some rfl rfl rfl) rfl rfl ?_
                  refine WL.val (v_sub rfl rfl rfl (w_i64 (by omega) (by omega))) (.some rfl rfl rfl) rfl rfl ?_
                  refine WL.test (v_geq rfl rfl rfl) (.some rfl rfl rfl) rfl rfl (fun h99 => ?_) (fun h99 => ?_)
                  · -- 99T
                    refine WL.val (v_pick_t rfl rfl rfl) (.none rfl) rfl rfl ?_
                    refine WL.nil ?_
                    refine WE.then_n ?_
                    refine WC.cond_t rfl ?_
                    refine WC.seq ?_
                    refine WC.region ?_
                    refine WL.val (v_move rfl rfl) (.none rfl) rfl rfl ?_
                    refine WL.val (v_move rfl rfl) (.none rfl) rfl rfl ?_
                    refine WL.val (v_add rfl rfl rfl (w_i64 (by omega) (by omega))) (.none rfl) rfl rfl ?_
                    refine WL.val (v_nilCheck rfl rfl) (.none rfl) rfl rfl ?_
                    refine WL.val (v_fieldAddr0 rfl rfl fld_31_3) (.none rfl) rfl rfl ?_
                    refine WL.store1 rfl rfl rfl rfl one_3 (Nat.le_of_ble_eq_true rfl) (.none rfl) rfl ?_
                    refine WL.nil ?_
                    refine WE.then_n ?_
                    refine WC.orders mixed ?_
                    refine WR.first (g := 10) [0, 1, 2, 3, 4, 6, 7, 8, 9] (by kernel_rfl) (by kernel_rfl) ?_
                    refine WP.val (v_move rfl rfl) (.none rfl) rfl rfl ?_
                    refine WP.val (v_move rfl rfl) (.none rfl) rfl rfl ?_
                    refine WP.val (v_move rfl rfl) (.none rfl) rfl rfl ?_
                    refine WP.val (v_move rfl rfl) (.none rfl) rfl rfl ?_
                    refine WP.val (v_slice_loS (lo := ihn f) rfl rfl rfl Tryd.underlying22 sz_5 (by omega) (by omega) (by omega)) (.none rfl) rfl rfl ?_
                    refine WP.val (v_move rfl rfl) (.none rfl) rfl rfl ?_
                    refine WP.val (v_move rfl rfl) (.none rfl) rfl rfl ?_
                    refine WP.val (v_add rfl rfl rfl (w_i64 (by omega) (by omega))) (.none rfl) rfl rfl ?_
                    refine WP.val (v_slice_loS (lo := ihn f + 2) rfl rfl rfl Tryd.underlying22 sz_5 (by omega) (by omega) (by omega)) (.none rfl) rfl rfl ?_
                    refine WP.nil ?_
                    refine WR.read (g := 5) [5, 10, 11, 12, 13] (by kernel_rfl) (by kernel_rfl) (by kernel_rfl) (by kernel_rfl) rfl ?_
                    refine WQ.call _ rfl rfl ck_12 (.none rfl) rfl rfl (fun w hS => Calls.still (get_c w b _ _ _ (fun i => f (14 + ihn f + i)) (hS.oldRd hpb (hr.part (14 + ihn f) 2 (by omega) (by unfold sAddr; split <;> omega))) (hf.sub _) (by omega) (two f (14 + ihn f)) rfl) hS) ?_
                    refine WQ.call _ rfl rfl ck_12 (.none rfl) rfl rfl (fun w hS => Calls.still (get_c w b _ _ _ (fun i => f (14 + ihn f + 2 + i)) (hS.oldRd hpb (hr.part (14 + ihn f + 2) 2 (by omega) (by unfold sAddr; split <;> omega))) (hf.sub _) (by omega) (two f (14 + ihn f + 2)) rfl) hS) ?_
                    refine WQ.val (v_nilCheck rfl rfl) (.none rfl) rfl rfl ?_
                    refine WQ.val (v_fieldAddr0 rfl rfl fld_31_1) (.none rfl) rfl rfl ?_
                    refine WQ.val (v_fieldAddr rfl rfl fld_28_7) (.none rfl) rfl rfl ?_
                    refine WQ.nilR ?_
                    refine WR.ones (g := 4) [14] (by kernel_rfl) ?_
                    refine WL.store1 rfl rfl rfl rfl one_3 (Nat.le_of_ble_eq_true rfl) (.none rfl) rfl ?_
                    refine WL.nilR ?_
                    refine WR.first (g := 1) [15, 16, 17] (by kernel_rfl) (by kernel_rfl) ?_
                    refine WP.val (v_nilCheck rfl rfl) (.none rfl) rfl rfl ?_
                    refine WP.val (v_fieldAddr0 rfl rfl fld_31_1) (.none rfl) rfl rfl ?_
                    refine WP.val (v_fieldAddr rfl rfl fld_28_8) (.none rfl) rfl rfl ?_
                    refine WP.nil ?_
                    refine WR.ones (g := 0) [18] (by kernel_rfl) ?_
                    refine WL.store1 rfl rfl rfl rfl one_3 (Nat.le_of_ble_eq_true rfl) (.none rfl) rfl ?_
                    refine WL.nilR ?_
                    refine WR.done (by kernel_rfl) ?_
                    refine WE.then_n ?_
                    refine WC.seq ?_
                    refine WC.region ?_
                    refine WL.val (v_assign rfl rfl) (.none rfl) rfl rfl ?_
                    refine WL.nil ?_
                    refine WE.then_n ?_
                    refine WC.ret ?_
                    refine WE.ret1 (P := Tryd.prog) (.inl rfl) Tryd.results13 rfl ?_
                    have e : pkErr f n = 0 := by unfold pkErr; rw [if_neg (by omega), if_neg (by omega), if_neg (by omega), if_neg (show ¬ fc (total (fun i => f (14 + i)) (ihl f).toNat) ≠ 65535 from h45)]
                    have eh : hasPorts f = true := by
                      unfold hasPorts
                      simp only [Bool.and_eq_true, Bool.or_eq_true, beq_iff_eq, decide_eq_true_eq]
                      omega
                    refine fun w' h => ⟨by rw [e], _, fun _ => ?_, h⟩
                    unfold pkHd pOf
                    rw [eh]
                    rfl
                  · -- 99F
                    refine WL.val (v_pick_t rfl rfl rfl) (.none rfl) rfl rfl ?_
                    refine WL.nil ?_
                    refine WE.then_n ?_
                    refine WC.cond_f rfl ?_
                    refine WC.skip ?_
                    refine WE.then_n ?_
                    refine WC.seq ?_
                    refine WC.region ?_
                    refine WL.val (v_assign rfl rfl) (.none rfl) rfl rfl ?_
                    refine WL.nil ?_
                    refine WE.then_n ?_
                    refine WC.ret ?_
                    refine WE.ret1 (P := Tryd.prog) (.inl rfl) Tryd.results13 rfl ?_
                    have e : pkErr f n = 0 := by unfold pkErr; rw [if_neg (by omega), if_neg (by omega), if_neg (by omega), if_neg (show ¬ fc (total (fun i => f (14 + i)) (ihl f).toNat) ≠ 65535 from h45)]
                    have eh : hasPorts f = false := by
                      cases hh : hasPorts f with
                      | false => rfl
                      | true =>
                        unfold hasPorts at hh
                        simp only [Bool.and_eq_true, Bool.or_eq_true, beq_iff_eq, decide_eq_true_eq] at hh
                        omega
                    refine fun w' h => ⟨by rw [e], _, fun _ => ?_, h⟩
                    unfold pkHd pOf
                    rw [eh]
                    rfl
                · -- 83F
                  refine WL.val (v_move rfl rfl) (.none rfl) rfl rfl ?_
                  refine WL.val (v_move rfl rfl) (.some rfl rfl rfl) rfl rfl ?_
                  refine WL.val (v_nilCheck rfl rfl) (.some rfl rfl rfl) rfl rfl ?_
                  refine WL.val (v_fieldAddr0 rfl rfl fld_31_1) (.some rfl rfl rfl) rfl rfl ?_
                  refine WL.val (v_fieldAddr rfl rfl fld_28_6) (.some rfl rfl rfl) rfl rfl ?_
                  refine WL.val (v_load1 rfl rfl one_3 (cellAt rfl)) (.some rfl rfl rfl) rfl rfl ?_
                  refine WL.test (v_eql rfl rfl rfl) (.some rfl rfl rfl) rfl rfl (fun h90 => ?_) (fun h90 => ?_)
                  · -- 90T
                    refine WL.val (v_pick_f rfl rfl rfl) (.none rfl) rfl rfl ?_
                    refine WL.val (v_move rfl rfl) (.none rfl) rfl rfl ?_
                    refine WL.val (v_move rfl rfl) (.some rfl rfl rfl) rfl rfl ?_
                    refine WL.val (v_pick_t rfl rfl rfl) (.none rfl) rfl rfl ?_
                    refine WL.val (v_move rfl rfl) (.none rfl) rfl rfl ?_
                    refine WL.val (v_move rfl rfl) (.some rfl rfl rfl) rfl rfl ?_
                    refine WL.val (v_move rfl rfl) (.some rfl rfl rfl) rfl rfl ?_
                    refine WL.val (v_sub rfl rfl rfl (w_i64 (by omega) (by omega))) (.some rfl rfl rfl) rfl rfl ?_
                    refine WL.test (v_geq rfl rfl rfl) (.some rfl rfl rfl) rfl rfl (fun h99 => ?_) (fun h99 => ?_)
                    · -- 99T
                      refine WL.val (v_pick_t rfl rfl rfl) (.none rfl) rfl rfl ?_
                      refine WL.nil ?_
                      refine WE.then_n ?_
                      refine WC.cond_t rfl ?_
                      refine WC.seq ?_
                      refine WC.region ?_
                      refine WL.val (v_move rfl rfl) (.none rfl) rfl rfl ?_
                      refine WL.val (v_move rfl rfl) (.none rfl) rfl rfl ?_
                      refine WL.val (v_add rfl rfl rfl (w_i64 (by omega) (by omega))) (.none rfl) rfl rfl ?_
                      refine WL.val (v_nilCheck rfl rfl) (.none rfl) rfl rfl ?_
                      refine WL.val (v_fieldAddr0 rfl rfl fld_31_3) (.none rfl) rfl rfl ?_
                      refine WL.store1 rfl rfl rfl rfl one_3 (Nat.le_of_ble_eq_true rfl) (.none rfl) rfl ?_
                      refine WL.nil ?_
                      refine WE.then_n ?_
                      refine WC.orders mixed ?_
                      refine WR.first (g := 10) [0, 1, 2, 3, 4, 6, 7, 8, 9] (by kernel_rfl) (by kernel_rfl) ?_
                      refine WP.val (v_move rfl rfl) (.none rfl) rfl rfl ?_
                      refine WP.val (v_move rfl rfl) (.none rfl) rfl rfl ?_
                      refine WP.val (v_move rfl rfl) (.none rfl) rfl rfl ?_
                      refine WP.val (v_move rfl rfl) (.none rfl) rfl rfl ?_
                      refine WP.val (v_slice_loS (lo := ihn f) rfl rfl rfl Tryd.underlying22 sz_5 (by omega) (by omega) (by omega)) (.none rfl) rfl rfl ?_
                      refine WP.val (v_move rfl rfl) (.none rfl) rfl rfl ?_
                      refine WP.val (v_move rfl rfl) (.none rfl) rfl rfl ?_
                      refine WP.val (v_add rfl rfl rfl (w_i64 (by omega) (by omega))) (.none rfl) rfl rfl ?_
                      refine WP.val (v_slice_loS (lo := ihn f + 2) rfl rfl rfl Tryd.underlying22 sz_5 (by omega) (by omega) (by omega)) (.none rfl) rfl rfl ?_
                      refine WP.nil ?_
                      refine WR.read (g := 5) [5, 10, 11, 12, 13] (by kernel_rfl) (by kernel_rfl) (by kernel_rfl) (by kernel_rfl) rfl ?_
                      refine WQ.call _ rfl rfl ck_12 (.none rfl) rfl rfl (fun w hS => Calls.still (get_c w b _ _ _ (fun i => f (14 + ihn f + i)) (hS.oldRd hpb (hr.part (14 + ihn f) 2 (by omega) (by unfold sAddr; split <;> omega))) (hf.sub _) (by omega) (two f (14 + ihn f)) rfl) hS) ?_
                      refine WQ.call _ rfl rfl ck_12 (.none rfl) rfl rfl (fun w hS => Calls.still (get_c w b _ _ _ (fun i => f (14 + ihn f + 2 + i)) (hS.oldRd hpb (hr.part (14 + ihn f + 2) 2 (by omega) (by unfold sAddr; split <;> omega))) (hf.sub _) (by omega) (two f (14 + ihn f + 2)) rfl) hS) ?_
                      refine WQ.val (v_nilCheck rfl rfl) (.none rfl) rfl rfl ?_
                      refine WQ.val (v_fieldAddr0 rfl rfl fld_31_1) (.none rfl) rfl rfl ?_
                      refine WQ.val (v_fieldAddr rfl rfl fld_28_7) (.none rfl) rfl rfl ?_
                      refine WQ.nilR ?_
                      refine WR.ones (g := 4) [14] (by kernel_rfl) ?_
                      refine WL.store1 rfl rfl rfl rfl one_3 (Nat.le_of_ble_eq_true rfl) (.none rfl) rfl ?_
                      refine WL.nilR ?_
                      refine WR.first (g := 1) [15, 16, 17] (by kernel_rfl) (by kernel_rfl) ?_
                      refine WP.val (v_nilCheck rfl rfl) (.none rfl) rfl rfl ?_
                      refine WP.val (v_fieldAddr0 rfl rfl fld_31_1) (.none rfl) rfl rfl ?_
                      refine WP.val (v_fieldAddr rfl rfl fld_28_8) (.none rfl) rfl rfl ?_
                      refine WP.nil ?_
                      refine WR.ones (g := 0) [18] (by kernel_rfl) ?_
                      refine WL.store1 rfl rfl rfl rfl one_3 (Nat.le_of_ble_eq_true rfl) (.none rfl) rfl ?_
                      refine WL.nilR ?_
                      refine WR.done (by kernel_rfl) ?_
                      refine WE.then_n ?_
                      refine WC.seq ?_
                      refine WC.region ?_
                      refine WL.val (v_assign rfl rfl) (.none rfl) rfl rfl ?_
                      refine WL.nil ?_
                      refine WE.then_n ?_
                      refine WC.ret ?_
                      refine WE.ret1 (P := Tryd.prog) (.inl rfl) Tryd.results13 rfl ?_
                      have e : pkErr f n = 0 := by unfold pkErr; rw [if_neg (by omega), if_neg (by omega), if_neg (by omega), if_neg (show ¬ fc (total (fun i => f (14 + i)) (ihl f).toNat) ≠ 65535 from h45)]
                      have eh : hasPorts f = true := by
                        unfold hasPorts
                        simp only [Bool.and_eq_true, Bool.or_eq_true, beq_iff_eq, decide_eq_true_eq]
                        omega
                      refine fun w' h => ⟨by rw [e], _, fun _ => ?_, h⟩
                      unfold pkHd pOf
                      rw [eh]
                      rfl
                    · -- 99F
                      refine WL.val (v_pick_t rfl rfl rfl) (.none rfl) rfl rfl ?_
                      refine WL.nil ?_
                      refine WE.then_n ?_
                      refine WC.cond_f rfl ?_
                      refine WC.skip ?_
                      refine WE.then_n ?_
                      refine WC.seq ?_
                      refine WC.region ?_
                      refine WL.val (v_assign rfl rfl) (.none rfl) rfl rfl ?_
                      refine WL.nil ?_
                      refine WE.then_n ?_
                      refine WC.ret ?_
                      refine WE.ret1 (P := Tryd.prog) (.inl rfl) Tryd.results13 rfl ?_
                      have e : pkErr f n = 0 := by unfold pkErr; rw [if_neg (by omega), if_neg (by omega), if_neg (by omega), if_neg (show ¬ fc (total (fun i => f (14 + i)) (ihl f).toNat) ≠ 65535 from h45)]
                      have eh : hasPorts f = false := by
                        cases hh : hasPorts f with
                        | false => rfl
                        | true =>
                          unfold hasPorts at hh
                          simp only [Bool.and_eq_true, Bool.or_eq_true, beq_iff_eq, decide_eq_true_eq] at hh
                          omega
                      refine fun w' h => ⟨by rw [e], _, fun _ => ?_, h⟩
                      unfold pkHd pOf
                      rw [eh]
                      rfl
                  · -- 90F
                    refine WL.val (v_pick_f rfl rfl rfl) (.none rfl) rfl rfl ?_
                    refine WL.val (v_move rfl rfl) (.none rfl) rfl rfl ?_
                    refine WL.skip rfl rfl rfl rfl rfl rfl ?_
                    refine WL.val (v_pick_f rfl rfl rfl) (.none rfl) rfl rfl ?_
                    refine WL.val (v_move rfl rfl) (.none rfl) rfl rfl ?_
                    refine WL.skip rfl rfl rfl rfl rfl rfl ?_
                    refine WL.skip rfl rfl rfl rfl rfl rfl ?_
                    refine WL.skip rfl rfl rfl rfl rfl rfl ?_
                    refine WL.skip rfl rfl rfl rfl rfl rfl ?_
                    refine WL.val (v_pick_f rfl rfl rfl) (.none rfl) rfl rfl ?_
                    refine WL.nil ?_
                    refine WE.then_n ?_
                    refine WC.cond_f rfl ?_
                    refine WC.skip ?_
                    refine WE.then_n ?_
                    refine WC.seq ?_
                    refine WC.region ?_
                    refine WL.val (v_assign rfl rfl) (.none rfl) rfl rfl ?_
                    refine WL.nil ?_
                    refine WE.then_n ?_
                    refine WC.ret ?_
                    refine WE.ret1 (P := Tryd.prog) (.inl rfl) Tryd.results13 rfl ?_
                    have e : pkErr f n = 0 := by unfold pkErr; rw [if_neg (by omega), if_neg (by omega), if_neg (by omega), if_neg (show ¬ fc (total (fun i => f (14 + i)) (ihl f).toNat) ≠ 65535 from h45)]
                    have eh : hasPorts f = false := by
                      cases hh : hasPorts f with
                      | false => rfl
                      | true =>
                        unfold hasPorts at hh
                        simp only [Bool.and_eq_true, Bool.or_eq_true, beq_iff_eq, decide_eq_true_eq] at hh
                        omega
                    refine fun w' h => ⟨by rw [e], _, fun _ => ?_, h⟩
                    unfold pkHd pOf
                    rw [eh]
                    rfl
              · -- 77F
                refine WL.val (v_assign rfl rfl) (.none rfl) rfl rfl ?_
                refine WL.nil ?_
                refine WE.then_n ?_
                refine WC.seq ?_
                refine WC.seq ?_
                refine WC.region ?_
                refine WL.val (v_move rfl rfl) (.none rfl) rfl rfl ?_
                refine WL.val (v_nilCheck rfl rfl) (.none rfl) rfl rfl ?_
                refine WL.val (v_fieldAddr0 rfl rfl fld_31_1) (.none rfl) rfl rfl ?_
                refine WL.val (v_fieldAddr rfl rfl fld_28_6) (.none rfl) rfl rfl ?_
                refine WL.val (v_load1 rfl rfl one_3 (cellAt rfl)) (.none rfl) rfl rfl ?_
                refine WL.test (v_eql rfl rfl rfl) (.none rfl) rfl rfl (fun h83 => ?_) (fun h83 => ?_)
                · -- 83T
                  refine WL.val (v_move rfl rfl) (.none rfl) rfl rfl ?_
                  refine WL.skip rfl rfl rfl rfl rfl rfl ?_
                  refine WL.skip rfl rfl rfl rfl rfl rfl ?_
                  refine WL.skip rfl rfl rfl rfl rfl rfl ?_
                  refine WL.skip rfl rfl rfl rfl rfl rfl ?_
                  refine WL.skip rfl rfl rfl rfl rfl rfl ?_
                  refine WL.skip rfl rfl rfl rfl rfl rfl ?_
                  refine WL.val (v_pick_t rfl rfl rfl) (.none rfl) rfl rfl ?_
                  refine WL.val (v_move rfl rfl) (.none rfl) rfl rfl ?_
                  refine WL.val (v_move rfl rfl) (.some rfl rfl rfl) rfl rfl ?_
                  refine WL.val (v_pick_t rfl rfl rfl) (.none rfl) rfl rfl ?_
                  refine WL.val (v_move rfl rfl) (.none rfl) rfl rfl ?_
                  refine WL.skip rfl rfl rfl rfl rfl rfl ?_
                  refine WL.skip rfl rfl rfl rfl rfl rfl ?_
                  refine WL.skip rfl rfl rfl rfl rfl rfl ?_
                  refine WL.skip rfl rfl rfl rfl rfl rfl ?_
                  refine WL.val (v_pick_f rfl rfl rfl) (.none rfl) rfl rfl ?_
                  refine WL.nil ?_
                  refine WE.then_n ?_
                  refine WC.cond_f rfl ?_
                  refine WC.skip ?_
                  refine WE.then_n ?_
                  refine WC.seq ?_
                  refine WC.region ?_
                  refine WL.val (v_assign rfl rfl) (.none rfl) rfl rfl ?_
                  refine WL.nil ?_
                  refine WE.then_n ?_
                  refine WC.ret ?_
                  refine WE.ret1 (P := Tryd.prog) (.inl rfl) Tryd.results13 rfl ?_
                  have e : pkErr f n = 0 := by unfold pkErr; rw [if_neg (by omega), if_neg (by omega), if_neg (by omega), if_neg (show ¬ fc (total (fun i => f (14 + i)) (ihl f).toNat) ≠ 65535 from h45)]
                  have eh : hasPorts f = false := by
                    cases hh : hasPorts f with
                    | false => rfl
                    | true =>
                      unfold hasPorts at hh
                      simp only [Bool.and_eq_true, Bool.or_eq_true, beq_iff_eq, decide_eq_true_eq] at hh
                      omega
                  refine fun w' h => ⟨by rw [e], _, fun _ => ?_, h⟩
                  unfold pkHd pOf
                  rw [eh]
                  rfl
                · -- 83F
                  refine WL.val (v_move rfl rfl) (.none rfl) rfl rfl ?_
                  refine WL.val (v_move rfl rfl) (.some rfl rfl rfl) rfl rfl ?_
                  refine WL.val (v_nilCheck rfl rfl) (.some rfl rfl rfl) rfl rfl ?_
                  refine WL.val (v_fieldAddr0 rfl rfl fld_31_1) (.some rfl rfl rfl) rfl rfl ?_
                  refine WL.val (v_fieldAddr rfl rfl fld_28_6) (.some rfl rfl rfl) rfl rfl ?_
                  refine WL.val (v_load1 rfl rfl one_3 (cellAt rfl)) (.some rfl rfl rfl) rfl rfl ?_
                  refine WL.test (v_eql rfl rfl rfl) (.some rfl rfl rfl) rfl rfl (fun h90 => ?_) (fun h90 => ?_)
                  · -- 90T
                    refine WL.val (v_pick_f rfl rfl rfl) (.none rfl) rfl rfl ?_
                    refine WL.val (v_move rfl rfl) (.none rfl) rfl rfl ?_
                    refine WL.val (v_move rfl rfl) (.some rfl rfl rfl) rfl rfl ?_
                    refine WL.val (v_pick_t rfl rfl rfl) (.none rfl) rfl rfl ?_
                    refine WL.val (v_move rfl rfl) (.none rfl) rfl rfl ?_
                    refine WL.skip rfl rfl rfl rfl rfl rfl ?_
                    refine WL.skip rfl rfl rfl rfl rfl rfl ?_
                    refine WL.skip rfl rfl rfl rfl rfl rfl ?_
                    refine WL.skip rfl rfl rfl rfl rfl rfl ?_
                    refine WL.val (v_pick_f rfl rfl rfl) (.none rfl) rfl rfl ?_
                    refine WL.nil ?_
                    refine WE.then_n ?_
                    refine WC.cond_f rfl ?_
                    refine WC.skip ?_
                    refine WE.then_n ?_
                    refine WC.seq ?_
                    refine WC.region ?_
                    refine WL.val (v_assign rfl rfl) (.none rfl) rfl rfl ?_
                    refine WL.nil ?_
                    refine WE.then_n ?_
                    refine WC.ret ?_
                    refine WE.ret1 (P := Tryd.prog) (.inl rfl) Tryd.results13 rfl ?_
                    have e : pkErr f n = 0 := by unfold pkErr; rw [if_neg (by omega), if_neg (by omega), if_neg (by omega), if_neg (show ¬ fc (total (fun i => f (14 + i)) (ihl f).toNat) ≠ 65535 from h45)]
                    have eh : hasPorts f = false := by
                      cases hh : hasPorts f with
                      | false => rfl
                      | true =>
                        unfold hasPorts at hh
                        simp only [Bool.and_eq_true, Bool.or_eq_true, beq_iff_eq, decide_eq_true_eq] at hh
                        omega
                    refine fun w' h => ⟨by rw [e], _, fun _ => ?_, h⟩
                    unfold pkHd pOf
                    rw [eh]
                    rfl
                  · -- 90F
                    refine WL.val (v_pick_f rfl rfl rfl) (.none rfl) rfl rfl ?_
                    refine WL.val (v_move rfl rfl) (.none rfl) rfl rfl ?_
                    refine WL.skip rfl rfl rfl rfl rfl rfl ?_
                    refine WL.val (v_pick_f rfl rfl rfl) (.none rfl) rfl rfl ?_
                    refine WL.val (v_move rfl rfl) (.none rfl) rfl rfl ?_
                    refine WL.skip rfl rfl rfl rfl rfl rfl ?_
                    refine WL.skip rfl rfl rfl rfl rfl rfl ?_
                    refine WL.skip rfl rfl rfl rfl rfl rfl ?_
                    refine WL.skip rfl rfl rfl rfl rfl rfl ?_
                    refine WL.val (v_pick_f rfl rfl rfl) (.none rfl) rfl rfl ?_
                    refine WL.nil ?_
                    refine WE.then_n ?_
                    refine WC.cond_f rfl ?_
                    refine WC.skip ?_
                    refine WE.then_n ?_
                    refine WC.seq ?_
                    refine WC.region ?_
                    refine WL.val (v_assign rfl rfl) (.none rfl) rfl rfl ?_
                    refine WL.nil ?_
                    refine WE.then_n ?_
                    refine WC.ret ?_
                    refine WE.ret1 (P := Tryd.prog) (.inl rfl) Tryd.results13 rfl ?_
                    have e : pkErr f n = 0 := by unfold pkErr; rw [if_neg (by omega), if_neg (by omega), if_neg (by omega), if_neg (show ¬ fc (total (fun i => f (14 + i)) (ihl f).toNat) ≠ 65535 from h45)]
                    have eh : hasPorts f = false := by
                      cases hh : hasPorts f with
                      | false => rfl
                      | true =>
                        unfold hasPorts at hh
                        simp only [Bool.and_eq_true, Bool.or_eq_true, beq_iff_eq, decide_eq_true_eq] at hh
                        omega
                    refine fun w' h => ⟨by rw [e], _, fun _ => ?_, h⟩
                    unfold pkHd pOf
                    rw [eh]
                    rfl

theorem Parse_early (w : World) (port : Int) (a : Option Addr) (n cap : Nat) (f : Nat → Int) (h : port < 0 ∨ 255 < port ∨ n < 14 ∨ 1514 < n) :
    Calls Tryd.prog 6 #[.int .i64 port, .slice a n cap] w fun e w' => e = .returned (.tuple #[packV Hd.zero Hd.zero ⟨#[]⟩ 0 0, .int .i64 (prErr port f n)]) ∧ Frm (fun _ => False) w w' := by
  refine enter Tryd.func6 rfl Tryd.ntmps6 rfl (St.start (fun _ => False) w) ?_
  refine WC.seq ?_
  refine WC.region ?_
  refine WL.alloc rfl zero_31 (.none rfl) rfl rfl ?_
  intro g4 hg4
  refine WL.val (v_assign rfl rfl) (.none rfl) rfl rfl ?_
  refine WL.nil ?_
  refine WE.then_n ?_
  refine WC.seq ?_
  refine WC.block ?_
  refine WC.seq ?_
  refine WC.region ?_
  refine WL.val (v_move rfl rfl) (.none rfl) rfl rfl ?_
  refine WL.test (v_lss rfl rfl rfl) (.none rfl) rfl rfl (fun h10 => ?_) (fun h10 => ?_)
  · -- 10T
    refine WL.val (v_move rfl rfl) (.none rfl) rfl rfl ?_
    refine WL.skip rfl rfl rfl rfl rfl rfl ?_
    refine WL.skip rfl rfl rfl rfl rfl rfl ?_
    refine WL.val (v_pick_t rfl rfl rfl) (.none rfl) rfl rfl ?_
    refine WL.val (v_assign rfl rfl) (.none rfl) rfl rfl ?_
    refine WL.nil ?_
    refine WE.then_n ?_
    refine WC.cond_t rfl ?_
    refine WC.seq ?_
    refine WC.region ?_
    refine WL.val (v_build rfl rfl zero_31 plc_31 rfl) (.none rfl) rfl rfl ?_
    refine WL.storeW rfl rfl rfl rfl many_31 rfl rfl (.none rfl) rfl ?_
    refine WL.val (v_assign rfl rfl) (.none rfl) rfl rfl ?_
    refine WL.nil ?_
    refine WE.then_n ?_
    refine WC.ret ?_
    refine WE.block_ret ?_
    refine WE.then_ret ?_
    refine WE.ret2 (P := Tryd.prog) (.inl rfl) Tryd.results6 (resRow rfl many_31 rfl) rfl ?_
    exact fun w' h => ⟨by unfold prErr; rw [if_pos (by omega)]; rfl, h.frm⟩
  · -- 10F
    refine WL.val (v_move rfl rfl) (.none rfl) rfl rfl ?_
    refine WL.val (v_move rfl rfl) (.some rfl rfl rfl) rfl rfl ?_
    refine WL.test (v_gtr rfl rfl rfl) (.some rfl rfl rfl) rfl rfl (fun h13 => ?_) (fun h13 => ?_)
    · -- 13T
      refine WL.val (v_pick_f rfl rfl rfl) (.none rfl) rfl rfl ?_
      refine WL.val (v_assign rfl rfl) (.none rfl) rfl rfl ?_
      refine WL.nil ?_
      refine WE.then_n ?_
      refine WC.cond_t rfl ?_
      refine WC.seq ?_
      refine WC.region ?_
      refine WL.val (v_build rfl rfl zero_31 plc_31 rfl) (.none rfl) rfl rfl ?_
      refine WL.storeW rfl rfl rfl rfl many_31 rfl rfl (.none rfl) rfl ?_
      refine WL.val (v_assign rfl rfl) (.none rfl) rfl rfl ?_
      refine WL.nil ?_
      refine WE.then_n ?_
      refine WC.ret ?_
      refine WE.block_ret ?_
      refine WE.then_ret ?_
      refine WE.ret2 (P := Tryd.prog) (.inl rfl) Tryd.results6 (resRow rfl many_31 rfl) rfl ?_
      exact fun w' h => ⟨by unfold prErr; rw [if_pos (by omega)]; rfl, h.frm⟩
    · -- 13F
      refine WL.val (v_pick_f rfl rfl rfl) (.none rfl) rfl rfl ?_
      refine WL.val (v_assign rfl rfl) (.none rfl) rfl rfl ?_
      refine WL.nil ?_
      refine WE.then_n ?_
      refine WC.cond_f rfl ?_
      refine WC.seq ?_
      refine WC.region ?_
      refine WL.val (v_move rfl rfl) (.none rfl) rfl rfl ?_
      refine WL.val (v_len_slice rfl rfl Tryd.underlying22) (.none rfl) rfl rfl ?_
      refine WL.test (v_lss rfl rfl rfl) (.none rfl) rfl rfl (fun h19 => ?_) (fun h19 => ?_)
      · -- 19T
        refine WL.val (v_assign rfl rfl) (.none rfl) rfl rfl ?_
        refine WL.nil ?_
        refine WE.then_n ?_
        refine WC.cond_t rfl ?_
        refine WC.seq ?_
        refine WC.region ?_
        refine WL.val (v_build rfl rfl zero_31 plc_31 rfl) (.none rfl) rfl rfl ?_
        refine WL.storeW rfl rfl rfl rfl many_31 rfl rfl (.none rfl) rfl ?_
        refine WL.val (v_assign rfl rfl) (.none rfl) rfl rfl ?_
        refine WL.nil ?_
        refine WE.then_n ?_
        refine WC.ret ?_
        refine WE.block_ret ?_
        refine WE.then_ret ?_
        refine WE.ret2 (P := Tryd.prog) (.inl rfl) Tryd.results6 (resRow rfl many_31 rfl) rfl ?_
        exact fun w' h => ⟨by unfold prErr; rw [if_neg (by omega), if_pos (by omega)]; rfl, h.frm⟩
      · -- 19F
        refine WL.val (v_assign rfl rfl) (.none rfl) rfl rfl ?_
        refine WL.nil ?_
        refine WE.then_n ?_
        refine WC.cond_f rfl ?_
        refine WC.seq ?_
        refine WC.region ?_
        refine WL.val (v_move rfl rfl) (.none rfl) rfl rfl ?_
        refine WL.val (v_len_slice rfl rfl Tryd.underlying22) (.none rfl) rfl rfl ?_
        refine WL.val ((v_gtr rfl rfl rfl).t (by omega)) (.none rfl) rfl rfl ?_
        refine WL.val (v_assign rfl rfl) (.none rfl) rfl rfl ?_
        refine WL.nil ?_
        refine WE.then_n ?_
        refine WC.cond_t rfl ?_
        refine WC.seq ?_
        refine WC.region ?_
        refine WL.val (v_build rfl rfl zero_31 plc_31 rfl) (.none rfl) rfl rfl ?_
        refine WL.storeW rfl rfl rfl rfl many_31 rfl rfl (.none rfl) rfl ?_
        refine WL.val (v_assign rfl rfl) (.none rfl) rfl rfl ?_
        refine WL.nil ?_
        refine WE.then_n ?_
        refine WC.ret ?_
        refine WE.block_ret ?_
        refine WE.then_ret ?_
        refine WE.ret2 (P := Tryd.prog) (.inl rfl) Tryd.results6 (resRow rfl many_31 rfl) rfl ?_
        exact fun w' h => ⟨by unfold prErr; rw [if_neg (by omega), if_neg (by omega), if_pos (by omega)]; rfl, h.frm⟩

set_option maxHeartbeats 1000000 in
theorem Parse_late (w : World) (port : Int) (b off n cap : Nat) (f : Nat → Int) (hr : Rd w b off n f) (hf : Byt f) (hc : n ≤ cap) (h0 : 0 ≤ port) (h1 : port ≤ 255) (h14 : 14 ≤ n) (hl : n ≤ 1514) :
    Calls Tryd.prog 6 #[.int .i64 port, .slice (some ⟨b, off, none⟩) n cap] w fun e w' => ∃ H W raw po en, e = .returned (.tuple #[packV H W raw po en, .int .i64 (prErr port f n)]) ∧
      ((prErr port f n ≠ 0 ∧ packV H W raw po en = packV Hd.zero Hd.zero ⟨#[]⟩ 0 0) ∨ (prErr port f n = 0 ∧ packV H W raw po en = packV (prHd port f) (prHd port f) (str f n) (prPorts f) (prEnd f))) ∧ Frm (fun _ => False) w w' := by
  have e0 : prErr port f n = if two f 12 ≠ 2048 then 0 else pkErr f n := by unfold prErr; rw [if_neg (by omega), if_neg (by omega), if_neg (by omega)]
  refine enter Tryd.func6 rfl Tryd.ntmps6 rfl (St.start (fun _ => False) w) ?_
  refine WC.seq ?_
  refine WC.region ?_
  refine WL.alloc rfl zero_31 (.none rfl) rfl rfl ?_
  intro g4 hg4
  refine WL.val (v_assign rfl rfl) (.none rfl) rfl rfl ?_
  refine WL.nil ?_
  refine WE.then_n ?_
  refine WC.seq ?_
  refine WC.block ?_
  refine WC.seq ?_
  refine WC.region ?_
  refine WL.val (v_move rfl rfl) (.none rfl) rfl rfl ?_
  refine WL.val ((v_lss rfl rfl rfl).f (by omega)) (.none rfl) rfl rfl ?_
  refine WL.val (v_move rfl rfl) (.none rfl) rfl rfl ?_
  refine WL.val (v_move rfl rfl) (.some rfl rfl rfl) rfl rfl ?_
  refine WL.val ((v_gtr rfl rfl rfl).f (by omega)) (.some rfl rfl rfl) rfl rfl ?_
  refine WL.val (v_pick_f rfl rfl rfl) (.none rfl) rfl rfl ?_
  refine WL.val (v_assign rfl rfl) (.none rfl) rfl rfl ?_
  refine WL.nil ?_
  refine WE.then_n ?_
  refine WC.cond_f rfl ?_
  refine WC.seq ?_
  refine WC.region ?_
  refine WL.val (v_move rfl rfl) (.none rfl) rfl rfl ?_
  refine WL.val (v_len_slice rfl rfl Tryd.underlying22) (.none rfl) rfl rfl ?_
  refine WL.val ((v_lss rfl rfl rfl).f (by omega)) (.none rfl) rfl rfl ?_
  refine WL.val (v_assign rfl rfl) (.none rfl) rfl rfl ?_
  refine WL.nil ?_
  refine WE.then_n ?_
  refine WC.cond_f rfl ?_
  refine WC.seq ?_
  refine WC.region ?_
  refine WL.val (v_move rfl rfl) (.none rfl) rfl rfl ?_
  refine WL.val (v_len_slice rfl rfl Tryd.underlying22) (.none rfl) rfl rfl ?_
  refine WL.val ((v_gtr rfl rfl rfl).f (by omega)) (.none rfl) rfl rfl ?_
  refine WL.val (v_assign rfl rfl) (.none rfl) rfl rfl ?_
  refine WL.nil ?_
  refine WE.then_n ?_
  refine WC.cond_f rfl ?_
  refine WC.skip ?_
  refine WE.block_n ?_
  refine WE.then_n ?_
  refine WC.seq ?_
  refine WC.region ?_
  refine WL.val (v_move rfl rfl) (.none rfl) rfl rfl ?_
  refine WL.val (v_convBS (f) rfl rfl Tryd.underlying22 Tryd.underlying5 Tryd.underlying9 (fun w hS _ => ⟨_, _, rfl, hS.oldRd (fun h => h) hr⟩)) (.none rfl) rfl rfl ?_
  refine WL.val (v_build rfl rfl zero_31 plc_31 rfl) (.none rfl) rfl rfl ?_
  refine WL.alloc rfl zero_31 (.none rfl) rfl rfl ?_
  intro g6 hg6
  refine WL.storeW rfl rfl rfl rfl many_31 rfl rfl (.none rfl) rfl ?_
  refine WL.as (L' := [.row g6 (pkL Hd.zero Hd.zero (str f n) 0 0), .row g4 (pkL Hd.zero Hd.zero ⟨#[]⟩ 0 0)]) rfl ?_
  refine WL.nil ?_
  refine WE.then_n ?_
  refine WC.seq ?_
  refine WC.tail 14 mixed (by kernel_rfl) ?_
  simp only [List.take_succ_cons, List.take_zero, List.drop_succ_cons, List.drop_zero]
  refine WQ.val (v_move rfl rfl) (.none rfl) rfl rfl ?_
  refine WQ.val (v_move rfl rfl) (.none rfl) rfl rfl ?_
  refine WQ.val (v_slice_lhS (lo := 0) (hi := 6) rfl rfl rfl rfl Tryd.underlying22 sz_5 rfl rfl (by omega) (by omega) (by omega)) (.none rfl) rfl rfl ?_
  refine WQ.val (v_arrayAt rfl rfl Tryd.underlying24 (by omega)) (.none rfl) rfl rfl ?_
  refine WQ.val (v_loadN (cs := [.int .u8 (f 0), .int .u8 (f 1), .int .u8 (f 2), .int .u8 (f 3), .int .u8 (f 4), .int .u8 (f 5)]) rfl rfl many_24 rfl (rangeOld (fun h => h) (hr.part 0 6 (by omega) (by omega)))) (.none rfl) rfl rfl ?_
  refine WQ.val (v_move rfl rfl) (.none rfl) rfl rfl ?_
  refine WQ.val (v_slice_lhS (lo := 6) (hi := 12) rfl rfl rfl rfl Tryd.underlying22 sz_5 rfl rfl (by omega) (by omega) (by omega)) (.none rfl) rfl rfl ?_
  refine WQ.val (v_arrayAt rfl rfl Tryd.underlying24 (by omega)) (.none rfl) rfl rfl ?_
  refine WQ.val (v_loadN (cs := [.int .u8 (f 6), .int .u8 (f 7), .int .u8 (f 8), .int .u8 (f 9), .int .u8 (f 10), .int .u8 (f 11)]) rfl rfl many_24 rfl (rangeOld (fun h => h) (hr.part 6 6 (by omega) (by omega)))) (.none rfl) rfl rfl ?_
  refine WQ.val (v_move rfl rfl) (.none rfl) rfl rfl ?_
  refine WQ.val (v_slice_lo (lo := 12) rfl rfl rfl Tryd.underlying22 sz_5 rfl (by omega)) (.none rfl) rfl rfl ?_
  refine WQ.call _ rfl rfl ck_12 (.none rfl) rfl rfl (fun w hS => Calls.still (get_c w b _ _ _ (fun i => f (12 + i)) (hS.oldRd (fun h => h) (hr.part 12 2 (by omega) (by unfold sAddr; split <;> omega))) (hf.sub 12) (by omega) (two f 12) rfl) hS) ?_
  refine WQ.val (v_build rfl rfl zero_28 plc_28 rfl) (.none rfl) rfl rfl ?_
  refine WQ.val (v_fieldAddr0 rfl rfl fld_31_1) (.none rfl) rfl rfl ?_
  refine WQ.nilT ?_
  refine WL.storeN rfl rfl rfl rfl many_28 rfl (by first | exact Nat.le_of_ble_eq_true rfl | simp) (.none rfl) rfl ?_
  refine WL.as (L' := [.row g6 (pkL Hd.zero (ethHd port f) (str f n) 0 0), .row g4 (pkL Hd.zero Hd.zero ⟨#[]⟩ 0 0)]) rfl ?_
  refine WL.nil ?_
  refine WE.then_n ?_
  refine WC.seq ?_
  refine WC.seq ?_
  refine WC.region ?_
  refine WL.val (v_fieldAddr0 rfl rfl fld_31_1) (.none rfl) rfl rfl ?_
  refine WL.val (v_fieldAddr rfl rfl fld_28_3) (.none rfl) rfl rfl ?_
  refine WL.val (v_load1 rfl rfl one_3 (cellAt rfl)) (.none rfl) rfl rfl ?_
  refine WL.test (v_eql rfl rfl rfl) (.none rfl) rfl rfl (fun h46 => ?_) (fun h46 => ?_)
  · -- 46T
    refine WL.nil ?_
    refine WE.then_n ?_
    refine WC.cond_t rfl ?_
    refine WC.seq ?_
    refine WC.region ?_
    refine WL.val (v_move rfl rfl) (.none rfl) rfl rfl ?_
    refine WL.call rfl rfl ck_13 (.none rfl) rfl rfl ?_
    intro w hS
    refine (packet_c _ _ w _ g6 b off n cap f (ethHd port f) (str f n) hS (fun h => h) hr hf (by omega) hc (by omega)).mono ?_
    rintro e w' ⟨rfl, cs, hcs, hS'⟩
    refine ⟨_, _, rfl, hS', ?_⟩
    refine WL.val (v_assign rfl rfl) (.none rfl) rfl rfl ?_
    refine WL.nil ?_
    refine WE.then_n ?_
    refine WC.seq ?_
    refine WC.region ?_
    refine WL.val (v_move rfl rfl) (.none rfl) rfl rfl ?_
    refine WL.test (v_neq rfl rfl rfl) (.none rfl) rfl rfl (fun h50 => ?_) (fun h50 => ?_)
    · -- 50T
      refine WL.nil ?_
      refine WE.then_n ?_
      refine WC.cond_t rfl ?_
      refine WC.seq ?_
      refine WC.region ?_
      refine WL.val (v_build rfl rfl zero_31 plc_31 rfl) (.none rfl) rfl rfl ?_
      refine WL.val (v_move rfl rfl) (.none rfl) rfl rfl ?_
      refine WL.storeW rfl rfl rfl rfl many_31 rfl rfl (.none rfl) rfl ?_
      refine WL.val (v_assign rfl rfl) (.none rfl) rfl rfl ?_
      refine WL.nil ?_
      refine WE.then_n ?_
      refine WC.ret ?_
      refine WE.then_ret ?_
      refine WE.ret2 (P := Tryd.prog) (.inl rfl) Tryd.results6 (resRow rfl many_31 rfl) rfl ?_
      have h46 : two f 12 = 2048 := h46
      have e1 : prErr port f n = pkErr f n := by rw [e0, if_neg (by omega)]
      exact fun w' h => ⟨Hd.zero, Hd.zero, ⟨#[]⟩, 0, 0, by rw [e1]; rfl, .inl ⟨by rw [e1]; exact h50, rfl⟩, h.frm⟩
    · -- 50F
      refine WL.nil ?_
      refine WE.then_n ?_
      refine WC.cond_f rfl ?_
      refine WC.skip ?_
      refine WE.then_n ?_
      refine WC.seq ?_
      refine WC.region ?_
      refine WL.val (v_fieldAddr0 rfl rfl fld_31_1) (.none rfl) rfl rfl ?_
      have ecs := hcs (Classical.not_not.1 h50)
      subst ecs
      refine WL.val (v_loadN rfl rfl many_28 rfl (segAt (m := 19) rfl)) (.none rfl) rfl rfl ?_
      refine WL.val (v_fieldAddr0 rfl rfl fld_31_0) (.none rfl) rfl rfl ?_
      refine WL.storeN rfl rfl rfl rfl many_28 rfl (by first | exact Nat.le_of_ble_eq_true rfl | simp) (.none rfl) rfl ?_
      refine WL.nil ?_
      refine WE.then_n ?_
      refine WC.seq ?_
      refine WC.region ?_
      refine WL.val (v_loadN rfl rfl many_31 rfl allAt) (.none rfl) rfl rfl ?_
      refine WL.storeW rfl rfl rfl rfl many_31 rfl rfl (.none rfl) rfl ?_
      refine WL.val (v_assign rfl rfl) (.none rfl) rfl rfl ?_
      refine WL.nil ?_
      refine WE.then_n ?_
      refine WC.ret ?_
      refine WE.ret2 (P := Tryd.prog) (.inl rfl) Tryd.results6 (resRow rfl many_31 rfl) rfl ?_
      have h46 : two f 12 = 2048 := h46
      have e1 : prErr port f n = 0 := by rw [e0, if_neg (by omega)]; exact Classical.not_not.1 h50
      refine fun w' h => ⟨prHd port f, prHd port f, str f n, prPorts f, prEnd f, ?_, .inr ⟨e1, rfl⟩, h.frm⟩
      rw [e1]
      unfold prHd prPorts prEnd
      rw [if_pos h46, if_pos h46, if_pos h46]
      rfl
  · -- 46F
    refine WL.nil ?_
    refine WE.then_n ?_
    refine WC.cond_f rfl ?_
    refine WC.skip ?_
    refine WE.then_n ?_
    refine WC.seq ?_
    refine WC.region ?_
    refine WL.val (v_fieldAddr0 rfl rfl fld_31_1) (.none rfl) rfl rfl ?_
    refine WL.val (v_loadN rfl rfl many_28 rfl (segAt (m := 19) rfl)) (.none rfl) rfl rfl ?_
    refine WL.val (v_fieldAddr0 rfl rfl fld_31_0) (.none rfl) rfl rfl ?_
    refine WL.storeN rfl rfl rfl rfl many_28 rfl (by first | exact Nat.le_of_ble_eq_true rfl | simp) (.none rfl) rfl ?_
    refine WL.nil ?_
    refine WE.then_n ?_
    refine WC.seq ?_
    refine WC.region ?_
    refine WL.val (v_loadN rfl rfl many_31 rfl allAt) (.none rfl) rfl rfl ?_
    refine WL.storeW rfl rfl rfl rfl many_31 rfl rfl (.none rfl) rfl ?_
    refine WL.val (v_assign rfl rfl) (.none rfl) rfl rfl ?_
    refine WL.nil ?_
    refine WE.then_n ?_
    refine WC.ret ?_
    refine WE.ret2 (P := Tryd.prog) (.inl rfl) Tryd.results6 (resRow rfl many_31 rfl) rfl ?_
    have h46 : ¬ two f 12 = 2048 := h46
    have e1 : prErr port f n = 0 := by rw [e0, if_pos h46]
    refine fun w' h => ⟨prHd port f, prHd port f, str f n, prPorts f, prEnd f, ?_, .inr ⟨e1, rfl⟩, h.frm⟩
    rw [e1]
    unfold prHd prPorts prEnd
    rw [if_neg h46, if_neg h46, if_neg h46]
    rfl

theorem Parse_c (w : World) (port : Int) (a : Option Addr) (n cap : Nat) (f : Nat → Int) (hr : RdO w a n f) (hf : Byt f) (hc : n ≤ cap) :
    Calls Tryd.prog 6 #[.int .i64 port, .slice a n cap] w fun e w' => ∃ V, e = .returned (.tuple #[V, .int .i64 (prErr port f n)]) ∧
      ((prErr port f n ≠ 0 ∧ V = packV Hd.zero Hd.zero ⟨#[]⟩ 0 0) ∨ (prErr port f n = 0 ∧ V = packV (prHd port f) (prHd port f) (str f n) (prPorts f) (prEnd f))) ∧ Frm (fun _ => False) w w' := by
  by_cases h : port < 0 ∨ 255 < port ∨ n < 14 ∨ 1514 < n
  · refine (Parse_early w port a n cap f h).mono ?_
    rintro e w' ⟨rfl, hF⟩
    refine ⟨_, rfl, .inl ⟨?_, rfl⟩, hF⟩
    unfold prErr
    split
    · decide
    · split
      · decide
      · rw [if_pos (by omega)]; decide
  · obtain ⟨b, off, rfl, hr'⟩ := hr (by omega)
    refine (Parse_late w port b off n cap f hr' hf hc (by omega) (by omega) (by omega) (by omega)).mono ?_
    rintro e w' ⟨H, W, raw, po, en, rfl, h1, hF⟩
    exact ⟨_, rfl, h1, hF⟩
theorem Parse_e (w : World) (port : Int) (a : Option Addr) (n cap : Nat) (f : Nat → Int) (hr : RdO w a n f) (hf : Byt f) (hc : n ≤ cap) (h : prErr port f n ≠ 0) :
    Calls Tryd.prog 6 #[.int .i64 port, .slice a n cap] w fun e w' => e = .returned (.tuple #[packV Hd.zero Hd.zero ⟨#[]⟩ 0 0, .int .i64 (prErr port f n)]) ∧ Frm (fun _ => False) w w' := by
  refine (Parse_c w port a n cap f hr hf hc).mono ?_
  rintro e w' ⟨V, rfl, h1, hF⟩
  rcases h1 with ⟨_, rfl⟩ | ⟨h2, _⟩
  · exact ⟨rfl, hF⟩
  · exact absurd h2 h
theorem Parse_k (w : World) (port : Int) (a : Option Addr) (n cap : Nat) (f : Nat → Int) (hr : RdO w a n f) (hf : Byt f) (hc : n ≤ cap) (h : prErr port f n = 0) :
    Calls Tryd.prog 6 #[.int .i64 port, .slice a n cap] w fun e w' => e = .returned (.tuple #[packV (prHd port f) (prHd port f) (str f n) (prPorts f) (prEnd f), .int .i64 0]) ∧ Frm (fun _ => False) w w' := by
  refine (Parse_c w port a n cap f hr hf hc).mono ?_
  rintro e w' ⟨V, rfl, h1, hF⟩
  rcases h1 with ⟨h2, _⟩ | ⟨_, rfl⟩
  · exact absurd h h2
  · rw [h]; exact ⟨rfl, hF⟩
end Go.Proofs.YtpjjlggonpbegaaDoor
