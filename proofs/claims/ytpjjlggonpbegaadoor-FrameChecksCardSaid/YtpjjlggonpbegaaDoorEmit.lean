/- (frame.Pack).Emit. -/
import Derived.Test.YtpjjlggonpbegaaDoorMove
namespace Go.Proofs.YtpjjlggonpbegaaDoor
open Go.RowKit

def em0 (f : Nat → Int) (h : Hd) : Nat → Int := up6 (up6 f 0 h.dst) 6 h.src
def em2 (f : Nat → Int) (h : Hd) : Nat → Int := up2 (up4 (up4 (em0 f h) 26 h.sip) 30 h.dip) 24 0
def em3 (f : Nat → Int) (h : Hd) : Nat → Int := up2 (em2 f h) 24 (65535 - fc (total (fun i => em2 f h (14 + i)) (ihn (em2 f h))))
/-- The bytes of a frame with another header. -/
def emF (f : Nat → Int) (W : Hd) (po : Nat) (en : Int) (h : Hd) : Nat → Int :=
  if h.ty ≠ 2048 then em0 f h else if po = 0 then em3 f h else mvF (up2 (up2 (em3 f h) po h.sp) (po + 2) h.dp) W h po en
theorem em0_byt {f : Nat → Int} {h : Hd} (hf : Byt f) (hh : h.In) : Byt (em0 f h) := up6_byt (up6_byt hf hh.dst _) hh.src _
theorem em2_byt {f : Nat → Int} {h : Hd} (hf : Byt f) (hh : h.In) : Byt (em2 f h) := up2_byt (up4_byt (up4_byt (em0_byt hf hh) _ hh.sip.1 hh.sip.2) _ hh.dip.1 hh.dip.2) _ (by decide) (by decide)
theorem em2_14 (f : Nat → Int) (h : Hd) : em2 f h 14 = f 14 := by
  simp [em2, em0, up2, up4, up6]
theorem em3_byt {f : Nat → Int} {h : Hd} (hf : Byt f) (hh : h.In) : Byt (em3 f h) := by
  have := fc_le (total (fun i => em2 f h (14 + i)) (ihn (em2 f h))) (total_le ((em2_byt hf hh).sub 14) _).1
  exact up2_byt (em2_byt hf hh) _ (by omega) (by omega)
theorem may_T (w : World) (H W h : Hd) (raw : ByteArray) (po en : Int) (hh : h.In) (hG : GW w) (hm : May W po raw h) :
    Calls Tryd.prog 14 #[packV H W raw po en, .agg (hdCells h)] w fun e w' => e = .returned (.bool true) ∧ Frm (fun _ => False) w w' := by
  refine (may_c w H W h raw po en hh hG).mono ?_
  rintro e w' ⟨b, rfl, hb, hF⟩
  rw [hb.2 hm]; exact ⟨rfl, hF⟩
theorem may_F (w : World) (H W h : Hd) (raw : ByteArray) (po en : Int) (hh : h.In) (hG : GW w) (hm : ¬ May W po raw h) :
    Calls Tryd.prog 14 #[packV H W raw po en, .agg (hdCells h)] w fun e w' => e = .returned (.bool false) ∧ Frm (fun _ => False) w w' := by
  refine (may_c w H W h raw po en hh hG).mono ?_
  rintro e w' ⟨b, rfl, hb, hF⟩
  cases b with
  | false => exact ⟨rfl, hF⟩
  | true => exact absurd (hb.1 rfl) hm
theorem Emit_x (w : World) (H W h : Hd) (raw : ByteArray) (po en : Int) (hh : h.In) (hG : GW w) (hm : ¬ May W po raw h) :
    Calls Tryd.prog 7 #[packV H W raw po en, .agg (hdCells h)] w fun e w' => e = .returned (.tuple #[.slice none 0 0, .int .i64 1]) ∧ Frm (fun _ => False) w w' := by
  refine enter Tryd.func7 rfl Tryd.ntmps7 rfl (St.start (fun _ => False) w) ?_
  refine WC.seq ?_
  refine WC.region ?_
  refine WL.box rfl rfl rfl (.none rfl) rfl rfl ?_
  intro g2 hg2
  refine WL.box rfl rfl rfl (.none rfl) rfl rfl ?_
  intro g3 hg3
  refine WL.val (v_assign rfl rfl) (.none rfl) rfl rfl ?_
  refine WL.val (v_assign rfl rfl) (.none rfl) rfl rfl ?_
  refine WL.nil ?_
  refine WE.then_n ?_
  refine WC.seq ?_
  refine WC.seq ?_
  refine WC.region ?_
  refine WL.val (v_loadN rfl rfl many_31 rfl allAt) (.none rfl) rfl rfl ?_
  refine WL.val (v_loadN rfl rfl many_28 rfl allAt) (.none rfl) rfl rfl ?_
  refine WL.call rfl rfl ck_14 (.none rfl) rfl rfl ?_
  intro w hS
  refine Calls.then (may_F w H W h raw po en hh (hG.keep (fun h => h) hS) hm) hS ?_
  refine WL.val (v_not rfl rfl rfl) (.none rfl) rfl rfl ?_
  refine WL.nil ?_
  refine WE.then_n ?_
  refine WC.cond_t rfl ?_
  refine WC.seq ?_
  refine WC.region ?_
  refine WL.val (v_assign rfl rfl) (.none rfl) rfl rfl ?_
  refine WL.val (v_assign rfl rfl) (.none rfl) rfl rfl ?_
  refine WL.nil ?_
  refine WE.then_n ?_
  refine WC.ret ?_
  refine WE.then_ret ?_
  refine WE.ret2 (P := Tryd.prog) (.inl rfl) Tryd.results7 rfl rfl ?_
  exact fun w' h => ⟨rfl, h.frm⟩
set_option maxHeartbeats 1000000 in
theorem Emit_k (p : Nat → Prop) (w0 w : World) (L : List Ent) (H W h : Hd) (f : Nat → Int) (n po : Nat) (en : Int) (hS : St p w0 w L) (hG : ∀ w, St p w0 w L → GW w) (hh : h.In) (hm : May W po (str f n) h) (hf : Byt f) (h14 : 14 ≤ n) (hn : n ≤ 2000)
    (hip : h.ty = 2048 → 34 ≤ n ∧ 14 + ihn f ≤ n) (hpo : h.ty = 2048 → po = 0 ∨ (34 ≤ po ∧ po + 8 ≤ n)) (hen : h.ty = 2048 → 0 ≤ en ∧ en ≤ n) (hW : W.In) (hWo : WOk W) (hho : WOk h) :
    Calls Tryd.prog 7 #[packV H W (str f n) po en, .agg (hdCells h)] w fun e w' => ∃ g c r, e = .returned (.tuple #[.slice (some ⟨g, 0, none⟩) n c, .int .i64 0]) ∧ n ≤ c ∧ w0.heap.size ≤ g ∧ St p w0 w' (.row g (bcs (emF f W po en h) n ++ r) :: L) := by
  have b14 := hf 14
  have hL : f 14 % 16 * 4 = ((ihn f : Nat) : Int) := by unfold ihn ihl; omega
  have hi2 : ihn (em2 f h) = ihn f := by unfold ihn ihl; rw [em2_14]
  have hfc := fc_le (total (fun i => em2 f h (14 + i)) (ihn f)) (total_le ((em2_byt hf hh).sub 14) _).1
  have hsp := hho 4 (by decide)
  have hdp := hho 5 (by decide)
  have hsp' : 0 ≤ h.sp ∧ h.sp ≤ 65535 := hsp
  have hdp' : 0 ≤ h.dp ∧ h.dp ≤ 65535 := hdp
  refine enter Tryd.func7 rfl Tryd.ntmps7 rfl hS ?_
  refine WC.seq ?_
  refine WC.region ?_
  refine WL.box rfl rfl rfl (.none rfl) rfl rfl ?_
  intro g2 hg2
  refine WL.box rfl rfl rfl (.none rfl) rfl rfl ?_
  intro g3 hg3
  refine WL.val (v_assign rfl rfl) (.none rfl) rfl rfl ?_
  refine WL.val (v_assign rfl rfl) (.none rfl) rfl rfl ?_
  refine WL.nil ?_
  refine WE.then_n ?_
  refine WC.seq ?_
  refine WC.seq ?_
  refine WC.region ?_
  refine WL.val (v_loadN rfl rfl many_31 rfl allAt) (.none rfl) rfl rfl ?_
  refine WL.val (v_loadN rfl rfl many_28 rfl allAt) (.none rfl) rfl rfl ?_
  refine WL.call rfl rfl ck_14 (.none rfl) rfl rfl ?_
  intro w hS
  refine Calls.then (may_T w H W h (str f n) po en hh (hG w (hS.sub (.cons _ (.cons _ (.refl _))))) hm) hS ?_
  refine WL.val (v_not rfl rfl rfl) (.none rfl) rfl rfl ?_
  refine WL.nil ?_
  refine WE.then_n ?_
  refine WC.cond_f rfl ?_
  refine WC.skip ?_
  refine WE.then_n ?_
  refine WC.seq ?_
  refine WC.region ?_
  refine WL.val (v_fieldAddr0 rfl rfl fld_31_2) (.none rfl) rfl rfl ?_
  refine WL.val (v_load1 rfl rfl one_9 (cellAt rfl)) (.none rfl) rfl rfl ?_
  refine WL.convSB rfl rfl (str_size _ _) (str_cells hf _) Tryd.underlying9 Tryd.underlying22 Tryd.underlying5 (.none rfl) rfl rfl ?_
  intro g14 c14 hg14 hc14
  generalize List.replicate (c14 - n) (Value.int IntKind.u8 0) = r
  refine WL.val (v_assign rfl rfl) (.none rfl) rfl rfl ?_
  refine WL.nil ?_
  refine WE.then_n ?_
  refine WC.seq ?_
  refine WC.region ?_
  refine WL.val (v_move rfl rfl) (.none rfl) rfl rfl ?_
  refine WL.val (v_fieldAddr0 rfl rfl fld_28_2) (.none rfl) rfl rfl ?_
  refine WL.val (v_slice_arr rfl rfl Tryd.underlying24 sz_5) (.none rfl) rfl rfl ?_
  refine WL.copyL rfl rfl rfl Tryd.underlying22 sz_5 (by rw [bcs_len]; omega) (segAt (m := 6) (new := bcs h.dst 6) rfl) (bcs_one _ _) (by rw [List.length_append, bcs_len, bcs_len]; omega) (.none rfl) rfl rfl ?_
  refine WL.as (L' := .row g14 (bcs (up6 f 0 h.dst) n ++ r) :: .row g3 (hdL h) :: .row g2 (pkL H W (str f n) po en) :: L) (by rw [splice6_up (by omega)]) ?_
  refine WL.nil ?_
  refine WE.then_n ?_
  refine WC.seq ?_
  refine WC.orders mixed ?_
  refine WR.first (g := 1) [0, 1, 2, 3] (by kernel_rfl) (by kernel_rfl) ?_
  refine WP.val (v_move rfl rfl) (.none rfl) rfl rfl ?_
  refine WP.val (v_slice_loS (lo := 6) rfl rfl rfl Tryd.underlying22 sz_5 rfl (by omega) (by omega)) (.none rfl) rfl rfl ?_
  refine WP.val (v_fieldAddr0 rfl rfl fld_28_1) (.none rfl) rfl rfl ?_
  refine WP.val (v_slice_arr rfl rfl Tryd.underlying24 sz_5) (.none rfl) rfl rfl ?_
  refine WP.nil ?_
  refine WR.ones (g := 0) [4] (by kernel_rfl) ?_
  refine WL.copyL rfl rfl rfl Tryd.underlying22 sz_5 (by rw [bcs_len]; omega) (segAt (m := 6) (new := bcs h.src 6) rfl) (bcs_one _ _) (by rw [List.length_append, bcs_len, bcs_len]; omega) (.none rfl) rfl rfl ?_
  refine WL.as (L' := .row g14 (bcs (em0 f h) n ++ r) :: .row g3 (hdL h) :: .row g2 (pkL H W (str f n) po en) :: L) (by rw [splice6_up (by omega)]; rfl) ?_
  refine WL.nilR ?_
  refine WR.done (by kernel_rfl) ?_
  refine WE.then_n ?_
  refine WC.seq ?_
  refine WC.seq ?_
  refine WC.region ?_
  refine WL.val (v_fieldAddr0 rfl rfl fld_28_3) (.none rfl) rfl rfl ?_
  refine WL.val (v_load1 rfl rfl one_3 (cellAt rfl)) (.none rfl) rfl rfl ?_
  refine WL.test (v_neq rfl rfl rfl) (.none rfl) rfl rfl (fun h26 => ?_) (fun h26 => ?_)
  · -- 26T
    refine WL.nil ?_
    refine WE.then_n ?_
    refine WC.cond_t rfl ?_
    refine WC.seq ?_
    refine WC.region ?_
    refine WL.val (v_move rfl rfl) (.none rfl) rfl rfl ?_
    refine WL.val (v_assign rfl rfl) (.none rfl) rfl rfl ?_
    refine WL.val (v_assign rfl rfl) (.none rfl) rfl rfl ?_
    refine WL.nil ?_
    refine WE.then_n ?_
    refine WC.ret ?_
    refine WE.then_ret ?_
    refine WE.ret2 (P := Tryd.prog) (.inl rfl) Tryd.results7 rfl rfl ?_
    exact fun w' h' => ⟨g14, c14, r, rfl, hc14, hg14, by unfold emF; rw [if_pos h26]; exact h'.sub (.cons_cons _ (.cons _ (.cons _ (.refl _))))⟩
  · -- 26F
    refine WL.nil ?_
    refine WE.then_n ?_
    refine WC.cond_f rfl ?_
    refine WC.skip ?_
    refine WE.then_n ?_
    refine WC.seq ?_
    refine WC.orders mixed ?_
    refine WR.first (g := 2) [0, 1, 2] (by kernel_rfl) (by kernel_rfl) ?_
    refine WP.val (v_move rfl rfl) (.none rfl) rfl rfl ?_
    refine WP.val (v_slice_loS (lo := 26) rfl rfl rfl Tryd.underlying22 sz_5 rfl (by omega) (by omega)) (.none rfl) rfl rfl ?_
    refine WP.val (v_fieldAddr0 rfl rfl fld_28_4) (.none rfl) rfl rfl ?_
    refine WP.nil ?_
    refine WR.read (g := 1) [3] (by kernel_rfl) (by kernel_rfl) (by kernel_rfl) (by kernel_rfl) rfl ?_
    refine WQ.val (v_load1 rfl rfl one_26 (cellAt rfl)) (.none rfl) rfl rfl ?_
    refine WQ.nilR ?_
    refine WR.ones (g := 0) [4] (by kernel_rfl) ?_
    refine WL.call rfl rfl ck_15 (.none rfl) rfl rfl ?_
    intro w hS
    refine Calls.thenS (putAddr_u hS (by omega) (by omega) (by omega) hh.sip.1 hh.sip.2) ?_
    refine WL.nilR ?_
    refine WR.done (by kernel_rfl) ?_
    refine WE.then_n ?_
    refine WC.seq ?_
    refine WC.orders mixed ?_
    refine WR.first (g := 2) [0, 1, 2] (by kernel_rfl) (by kernel_rfl) ?_
    refine WP.val (v_move rfl rfl) (.none rfl) rfl rfl ?_
    refine WP.val (v_slice_loS (lo := 30) rfl rfl rfl Tryd.underlying22 sz_5 rfl (by omega) (by omega)) (.none rfl) rfl rfl ?_
    refine WP.val (v_fieldAddr0 rfl rfl fld_28_5) (.none rfl) rfl rfl ?_
    refine WP.nil ?_
    refine WR.read (g := 1) [3] (by kernel_rfl) (by kernel_rfl) (by kernel_rfl) (by kernel_rfl) rfl ?_
    refine WQ.val (v_load1 rfl rfl one_26 (cellAt rfl)) (.none rfl) rfl rfl ?_
    refine WQ.nilR ?_
    refine WR.ones (g := 0) [4] (by kernel_rfl) ?_
    refine WL.call rfl rfl ck_15 (.none rfl) rfl rfl ?_
    intro w hS
    refine Calls.thenS (putAddr_u hS (by omega) (by omega) (by omega) hh.dip.1 hh.dip.2) ?_
    refine WL.nilR ?_
    refine WR.done (by kernel_rfl) ?_
    refine WE.then_n ?_
    refine WC.seq ?_
    refine WC.region ?_
    refine WL.val (v_move rfl rfl) (.none rfl) rfl rfl ?_
    refine WL.val (v_slice_loS (lo := 24) rfl rfl rfl Tryd.underlying22 sz_5 rfl (by omega) (by omega)) (.none rfl) rfl rfl ?_
    refine WL.call rfl rfl ck_16 (.none rfl) rfl rfl ?_
    intro w hS
    refine Calls.thenS (put_u hS (by omega) (by omega) (by decide) (by decide)) ?_
    refine WL.as (L' := .row g14 (bcs (em2 f h) n ++ r) :: .row g3 (hdL h) :: .row g2 (pkL H W (str f n) po en) :: L) rfl ?_
    refine WL.nil ?_
    refine WE.then_n ?_
    refine WC.seq ?_
    refine WC.region ?_
    refine WL.val (v_move rfl rfl) (.none rfl) rfl rfl ?_
    refine WL.val (v_indexAddr (lo := 14) rfl rfl rfl Tryd.underlying22 sz_5 rfl (by omega)) (.none rfl) rfl rfl ?_
    refine WL.val ((v_load1 rfl rfl one_5 (cellAt (bget2 (o := 0) (j := 14 * 1) (by omega)))).eq (v := .int .u8 (f 14)) (congrArg (Value.int .u8) (em2_14 f h))) (.none rfl) rfl rfl ?_
    refine WL.val (v_and rfl rfl rfl (mask_u8 (i := 4) (m := 16) (by decide) (by decide) (by decide) (by omega) (by omega))) (.none rfl) rfl rfl ?_
    refine WL.val (v_conv rfl rfl Tryd.underlying3 Tryd.underlying5 (w_i64 (by omega) (by omega))) (.none rfl) rfl rfl ?_
    refine WL.val (v_mul rfl rfl rfl (w_i64 (by omega) (by omega))) (.none rfl) rfl rfl ?_
    refine WL.val (v_assign rfl rfl) (.none rfl) rfl rfl ?_
    refine WL.nil ?_
    refine WE.then_n ?_
    refine WC.seq ?_
    refine WC.orders mixed ?_
    refine WR.first (g := 3) [0, 1, 2, 3, 4, 5] (by kernel_rfl) (by kernel_rfl) ?_
    refine WP.val (v_move rfl rfl) (.none rfl) rfl rfl ?_
    refine WP.val (v_slice_loS (lo := 24) rfl rfl rfl Tryd.underlying22 sz_5 rfl (by omega) (by omega)) (.none rfl) rfl rfl ?_
    refine WP.val (v_move rfl rfl) (.none rfl) rfl rfl ?_
    refine WP.val (v_move rfl rfl) (.none rfl) rfl rfl ?_
    refine WP.val (v_add rfl rfl rfl (w_i64 (by omega) (by omega))) (.none rfl) rfl rfl ?_
    refine WP.val (v_slice_lhS (lo := 14) (hi := 14 + ihn f) rfl rfl rfl rfl Tryd.underlying22 sz_5 rfl (by omega) (by omega) (by omega) (by omega)) (.none rfl) rfl rfl ?_
    refine WP.nil ?_
    refine WR.read (g := 1) [6, 7] (by kernel_rfl) (by kernel_rfl) (by kernel_rfl) (by kernel_rfl) rfl ?_
    refine WQ.call _ rfl rfl ck_17 (.none rfl) rfl rfl (fun w hS => Calls.still (Calls.mono (check_c w g14 _ _ _ (fun i => em2 f h (14 + i)) (rdAt (g := g14) (cs := bcs (em2 f h) n ++ r) (fun i hi => by rw [Nat.zero_add, Nat.mul_one]; exact bget2 (by omega)) w hS) ((em2_byt hf hh).sub 14) (by omega) (by omega)) (fun e' w' ⟨he', hF⟩ => ⟨(by rw [he', show 14 + ihn f - 14 = ihn f by omega] : e' = .returned (.int .i64 (fc (total (fun i => em2 f h (14 + i)) (ihn f))))), hF⟩)) hS) ?_
    refine WQ.val (v_xor rfl rfl rfl (xor16_i64 (fc_le _ (total_le ((em2_byt hf hh).sub 14) _).1).1 (fc_le _ (total_le ((em2_byt hf hh).sub 14) _).1).2)) (.none rfl) rfl rfl ?_
    refine WQ.nilR ?_
    refine WR.ones (g := 0) [8] (by kernel_rfl) ?_
    refine WL.call rfl rfl ck_16 (.none rfl) rfl rfl ?_
    intro w hS
    refine Calls.thenS (put_u hS (by omega) (by omega) (by omega) (by omega)) ?_
    refine WL.as (L' := .row g14 (bcs (em3 f h) n ++ r) :: .row g3 (hdL h) :: .row g2 (pkL H W (str f n) po en) :: L) (by unfold em3; rw [hi2]) ?_
    refine WL.nilR ?_
    refine WR.done (by kernel_rfl) ?_
    refine WE.then_n ?_
    refine WC.seq ?_
    refine WC.seq ?_
    refine WC.region ?_
    refine WL.val (v_fieldAddr0 rfl rfl fld_31_3) (.none rfl) rfl rfl ?_
    refine WL.val (v_load1 rfl rfl one_3 (cellAt rfl)) (.none rfl) rfl rfl ?_
    refine WL.test (v_neq rfl rfl rfl) (.none rfl) rfl rfl (fun h58 => ?_) (fun h58 => ?_)
    · -- 58T
      refine WL.nil ?_
      refine WE.then_n ?_
      refine WC.cond_t rfl ?_
      refine WC.seq ?_
      refine WC.orders mixed ?_
      refine WR.first (g := 4) [0, 1, 4] (by kernel_rfl) (by kernel_rfl) ?_
      refine WP.val (v_move rfl rfl) (.none rfl) rfl rfl ?_
      refine WP.val (v_fieldAddr0 rfl rfl fld_31_3) (.none rfl) rfl rfl ?_
      refine WP.val (v_fieldAddr0 rfl rfl fld_28_7) (.none rfl) rfl rfl ?_
      refine WP.nil ?_
      refine WR.read (g := 1) [2, 3, 5] (by kernel_rfl) (by kernel_rfl) (by kernel_rfl) (by kernel_rfl) rfl ?_
      refine WQ.val (v_load1 rfl rfl one_3 (cellAt rfl)) (.none rfl) rfl rfl ?_
      refine WQ.val (v_slice_loS (lo := po) rfl rfl rfl Tryd.underlying22 sz_5 (by omega) (by omega) (by omega)) (.none rfl) rfl rfl ?_
      refine WQ.val (v_load1 rfl rfl one_3 (cellAt rfl)) (.none rfl) rfl rfl ?_
      refine WQ.nilR ?_
      refine WR.ones (g := 0) [6] (by kernel_rfl) ?_
      refine WL.call rfl rfl ck_16 (.none rfl) rfl rfl ?_
      intro w hS
      refine Calls.thenS (put_u hS (by omega) (by omega) (by omega) (by omega)) ?_
      refine WL.nilR ?_
      refine WR.done (by kernel_rfl) ?_
      refine WE.then_n ?_
      refine WC.seq ?_
      refine WC.orders mixed ?_
      refine WR.first (g := 5) [0, 1, 5] (by kernel_rfl) (by kernel_rfl) ?_
      refine WP.val (v_move rfl rfl) (.none rfl) rfl rfl ?_
      refine WP.val (v_fieldAddr0 rfl rfl fld_31_3) (.none rfl) rfl rfl ?_
      refine WP.val (v_fieldAddr0 rfl rfl fld_28_8) (.none rfl) rfl rfl ?_
      refine WP.nil ?_
      refine WR.read (g := 1) [2, 3, 4, 6] (by kernel_rfl) (by kernel_rfl) (by kernel_rfl) (by kernel_rfl) rfl ?_
      refine WQ.val (v_load1 rfl rfl one_3 (cellAt rfl)) (.none rfl) rfl rfl ?_
      refine WQ.val (v_add rfl rfl rfl (w_i64 (by omega) (by omega))) (.none rfl) rfl rfl ?_
      refine WQ.val (v_slice_loS (lo := po + 2) rfl rfl rfl Tryd.underlying22 sz_5 (by omega) (by omega) (by omega)) (.none rfl) rfl rfl ?_
      refine WQ.val (v_load1 rfl rfl one_3 (cellAt rfl)) (.none rfl) rfl rfl ?_
      refine WQ.nilR ?_
      refine WR.ones (g := 0) [7] (by kernel_rfl) ?_
      refine WL.call rfl rfl ck_16 (.none rfl) rfl rfl ?_
      intro w hS
      refine Calls.thenS (put_u hS (by omega) (by omega) (by omega) (by omega)) ?_
      refine WL.as (L' := .row g14 (bcs (up2 (up2 (em3 f h) po h.sp) (po + 2) h.dp) n ++ r) :: .row g3 (hdL h) :: .row g2 (pkL H W (str f n) po en) :: L) (by rw [Nat.zero_add, Nat.zero_add, Nat.mul_one, Nat.mul_one]) ?_
      refine WL.nilR ?_
      refine WR.done (by kernel_rfl) ?_
      refine WE.then_n ?_
      refine WC.region ?_
      refine WL.val (v_loadN rfl rfl many_31 rfl allAt) (.none rfl) rfl rfl ?_
      refine WL.val (v_move rfl rfl) (.none rfl) rfl rfl ?_
      refine WL.val (v_loadN rfl rfl many_28 rfl allAt) (.none rfl) rfl rfl ?_
      refine WL.call rfl rfl ck_18 (.none rfl) rfl rfl ?_
      intro w1 hS
      refine (move_f _ _ w1 _ g14 n c14 (up2 (up2 (em3 f h) po h.sp) (po + 2) h.dp) r H W h (str f n) po en hS (up2_byt (up2_byt (em3_byt hf hh) _ hsp'.1 hsp'.2) _ hdp'.1 hdp'.2) hc14 hn (by omega) hW hWo hh hho (by omega) (by omega)).mono ?_
      rintro e w' ⟨rfl, hS'⟩
      refine ⟨_, _, rfl, hS', ?_⟩
      refine WL.nil ?_
      refine WE.then_n ?_
      refine WC.seq ?_
      refine WC.region ?_
      refine WL.val (v_move rfl rfl) (.none rfl) rfl rfl ?_
      refine WL.val (v_assign rfl rfl) (.none rfl) rfl rfl ?_
      refine WL.val (v_assign rfl rfl) (.none rfl) rfl rfl ?_
      refine WL.nil ?_
      refine WE.then_n ?_
      refine WC.ret ?_
      refine WE.ret2 (P := Tryd.prog) (.inl rfl) Tryd.results7 rfl rfl ?_
      exact fun w' h' => ⟨g14, c14, r, rfl, hc14, hg14, by unfold emF; rw [if_neg h26, if_neg (by omega)]; exact h'.sub (.cons_cons _ (.cons _ (.cons _ (.refl _))))⟩
    · -- 58F
      refine WL.nil ?_
      refine WE.then_n ?_
      refine WC.cond_f rfl ?_
      refine WC.skip ?_
      refine WE.then_n ?_
      refine WC.seq ?_
      refine WC.region ?_
      refine WL.val (v_move rfl rfl) (.none rfl) rfl rfl ?_
      refine WL.val (v_assign rfl rfl) (.none rfl) rfl rfl ?_
      refine WL.val (v_assign rfl rfl) (.none rfl) rfl rfl ?_
      refine WL.nil ?_
      refine WE.then_n ?_
      refine WC.ret ?_
      refine WE.ret2 (P := Tryd.prog) (.inl rfl) Tryd.results7 rfl rfl ?_
      exact fun w' h' => ⟨g14, c14, r, rfl, hc14, hg14, by unfold emF; rw [if_neg h26, if_pos (by omega)]; exact h'.sub (.cons_cons _ (.cons _ (.cons _ (.refl _))))⟩
end Go.Proofs.YtpjjlggonpbegaaDoor
