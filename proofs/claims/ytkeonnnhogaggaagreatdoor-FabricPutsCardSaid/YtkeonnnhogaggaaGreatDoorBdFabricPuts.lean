/- Texts joined: engine, contracts and laws, in the order in which they build. -/
import Derived.Test.YtkeonnnhogaggaaGreatDoorBcFabricPuts
/- (frame.Pack).Emit. -/
namespace Go.Proofs.YtkeonnnhogaggaaGreatDoor
open Go.RowKit

def em0 (f : Nat → Int) (h : Hd) : Nat → Int := up6 (up6 f 0 h.dst) 6 h.src
def em2 (f : Nat → Int) (h : Hd) : Nat → Int := up2 (up4 (up4 (em0 f h) 26 h.sip) 30 h.dip) 24 0
def em3 (f : Nat → Int) (h : Hd) : Nat → Int := up2 (em2 f h) 24 (65535 - fc (total (fun i => em2 f h (14 + i)) (ihn (em2 f h))))
/-- The bytes of a frame with another header. -/
def emF (f : Nat → Int) (W : Hd) (po : Nat) (en : Int) (h : Hd) : Nat → Int :=
  if h.ty ≠ 2048 then em0 f h else if po = 0 then em3 f h else mvF (up2 (up2 (em3 f h) po h.sp) (po + 2) h.dp) W h po en
theorem em0_byt {f : Nat → Int} {h : Hd} (hf : Byt f) (hh : h.In) : Byt (em0 f h) := up6_byt (up6_byt hf hh.dst _) hh.src _
theorem em2_byt {f : Nat → Int} {h : Hd} (hf : Byt f) (hh : h.In) : Byt (em2 f h) := up2_byt (up4_byt (up4_byt (em0_byt hf hh) _ hh.sip.1 hh.sip.2) _ hh.dip.1 hh.dip.2) _ (by decide) (by decide)
theorem em2_14 (f : Nat → Int) (h : Hd) : em2 f h 14 = f 14 := by
  simp [em2, em0, up2, up4, up6]
theorem em3_byt {f : Nat → Int} {h : Hd} (hf : Byt f) (hh : h.In) : Byt (em3 f h) := by
  have := fc_le (total (fun i => em2 f h (14 + i)) (ihn (em2 f h))) (total_le ((em2_byt hf hh).sub 14) _).1
  exact up2_byt (em2_byt hf hh) _ (by omega) (by omega)
theorem may_T (w : World) (H W h : Hd) (raw : ByteArray) (po en : Int) (hh : h.In) (hG : GW w) (hm : May W po raw h) :
    Calls Tryz.prog 62 #[packV H W raw po en, .agg (hdCells h)] w fun e w' => e = .returned (.bool true) ∧ Frm (fun _ => False) w w' := by
  refine (may_c w H W h raw po en hh hG).mono ?_
  rintro e w' ⟨b, rfl, hb, hF⟩
  rw [hb.2 hm]; exact ⟨rfl, hF⟩
theorem may_F (w : World) (H W h : Hd) (raw : ByteArray) (po en : Int) (hh : h.In) (hG : GW w) (hm : ¬ May W po raw h) :
    Calls Tryz.prog 62 #[packV H W raw po en, .agg (hdCells h)] w fun e w' => e = .returned (.bool false) ∧ Frm (fun _ => False) w w' := by
  refine (may_c w H W h raw po en hh hG).mono ?_
  rintro e w' ⟨b, rfl, hb, hF⟩
  cases b with
  | false => exact ⟨rfl, hF⟩
  | true => exact absurd (hb.1 rfl) hm
theorem Emit_x (w : World) (H W h : Hd) (raw : ByteArray) (po en : Int) (hh : h.In) (hG : GW w) (hm : ¬ May W po raw h) :
    Calls Tryz.prog 26 #[packV H W raw po en, .agg (hdCells h)] w fun e w' => e = .returned (.tuple #[.slice none 0 0, .int .i64 1]) ∧ Frm (fun _ => False) w w' := by
  refine enter Tryz.func26 rfl Tryz.ntmps26 rfl (St.start (fun _ => False) w) ?_
  refine WC.seq <| WC.region <| WL.box rfl rfl rfl (.none rfl) rfl rfl <| ?_
  intro g2 hg2
  refine WL.box rfl rfl rfl (.none rfl) rfl rfl ?_
  intro g3 hg3
  refine WL.v (v_assign rfl rfl) rfl <| WL.v (v_assign rfl rfl) rfl <| WL.nt <| WC.seq <| WC.seq <| WC.region <| WL.v (v_loadN rfl rfl many_61 rfl allAt) rfl <| WL.v (v_loadN rfl rfl many_59 rfl allAt) rfl <| WL.call rfl rfl ck_62 (.none rfl) rfl rfl <| ?_
  intro w hS
  refine Calls.then (may_F w H W h raw po en hh (hG.keep (fun h => h) hS) hm) hS ?_
  refine WL.v (v_not rfl rfl rfl) rfl <| WL.nt <| WC.cond_t rfl <| WC.seq <| WC.region <| WL.v (v_assign rfl rfl) rfl <| WL.v (v_assign rfl rfl) rfl <| WL.nt <| WC.ret <| WE.then_ret <| WE.ret2 (P := Tryz.prog) (.inl rfl) Tryz.results26 rfl rfl <| ?_
  exact fun w' h => ⟨rfl, h.frm⟩
set_option maxHeartbeats 1000000 in
theorem Emit_m (p : Nat → Prop) (w0 w : World) (L : List Ent) (H W h : Hd) (f : Nat → Int) (n po : Nat) (en : Int) (hS : St p w0 w L) (hG : ∀ w, St p w0 w L → GW w) (hh : h.In) (hm : May W po (str f n) h) (hf : Byt f) (h14 : 14 ≤ n) (hn : n ≤ 2000)
    (hip : h.ty = 2048 → 34 ≤ n ∧ 14 + ihn f ≤ n) (hpo : h.ty = 2048 → po = 0 ∨ (34 ≤ po ∧ po + 8 ≤ n)) (hen : h.ty = 2048 → 0 ≤ en ∧ en ≤ n) (hW : W.In) (hWo : WOk W) (hho : WOk h) :
    Calls Tryz.prog 26 #[packV H W (str f n) po en, .agg (hdCells h)] w fun e w' => ∃ g c r, e = .returned (.tuple #[.slice (some ⟨g, 0, none⟩) n c, .int .i64 0]) ∧ n ≤ c ∧ (w0.heap.size ≤ g ∧ n + r.length = c) ∧ St p w0 w' (.row g (bcs (emF f W po en h) n ++ r) :: L) := by
  have b14 := hf 14
  have hL : f 14 % 16 * 4 = ((ihn f : Nat) : Int) := by unfold ihn ihl; omega
  have hi2 : ihn (em2 f h) = ihn f := by unfold ihn ihl; rw [em2_14]
  have hfc := fc_le (total (fun i => em2 f h (14 + i)) (ihn f)) (total_le ((em2_byt hf hh).sub 14) _).1
  have hsp := hho 4 (by decide)
  have hdp := hho 5 (by decide)
  have hsp' : 0 ≤ h.sp ∧ h.sp ≤ 65535 := hsp
  have hdp' : 0 ≤ h.dp ∧ h.dp ≤ 65535 := hdp
  refine enter Tryz.func26 rfl Tryz.ntmps26 rfl hS ?_
  refine WC.seq <| WC.region <| WL.box rfl rfl rfl (.none rfl) rfl rfl <| ?_
  intro g2 hg2
  refine WL.box rfl rfl rfl (.none rfl) rfl rfl ?_
  intro g3 hg3
  refine WL.v (v_assign rfl rfl) rfl <| WL.v (v_assign rfl rfl) rfl <| WL.nt <| WC.seq <| WC.seq <| WC.region <| WL.v (v_loadN rfl rfl many_61 rfl allAt) rfl <| WL.v (v_loadN rfl rfl many_59 rfl allAt) rfl <| WL.call rfl rfl ck_62 (.none rfl) rfl rfl <| ?_
  intro w hS
  refine Calls.then (may_T w H W h (str f n) po en hh (hG w (hS.sub (.cons _ (.cons _ (.refl _))))) hm) hS ?_
  refine WL.v (v_not rfl rfl rfl) rfl <| WL.nt <| WC.cond_f rfl <| WC.skip <| WE.then_n <| WC.seq <| WC.region <| WL.v (v_fieldAddr0 rfl rfl fld_61_2) rfl <| WL.v (v_load1 rfl rfl one_9 (cellAt rfl)) rfl <| WL.convSB rfl rfl (str_size _ _) (str_cells hf _) Tryz.underlying9 Tryz.underlying41 Tryz.underlying5 (.none rfl) rfl rfl <| ?_
  intro g14 c14 hg14 hc14
  have hrl : (List.replicate (c14 - n) (Value.int IntKind.u8 0)).length = c14 - n := List.length_replicate
  generalize List.replicate (c14 - n) (Value.int IntKind.u8 0) = r at hrl ⊢
  refine WL.v (v_assign rfl rfl) rfl <| WL.nt <| WC.seq <| WC.region <| WL.v (v_move rfl rfl) rfl <| WL.v (v_fieldAddr0 rfl rfl fld_59_2) rfl <| WL.v (v_slice_arr rfl rfl Tryz.underlying55 sz_5) rfl <| ?_
  refine WL.copyL rfl rfl rfl Tryz.underlying41 sz_5 (by rw [bcs_len]; omega) (segAt (m := 6) (new := bcs h.dst 6) rfl) (bcs_one _ _) (by rw [List.length_append, bcs_len, bcs_len]; omega) (.none rfl) rfl rfl ?_
  refine WL.as (L' := .row g14 (bcs (up6 f 0 h.dst) n ++ r) :: .row g3 (hdL h) :: .row g2 (pkL H W (str f n) po en) :: L) (by rw [splice6_up (by omega)]) ?_
  refine WL.nt <| WC.seq <| WC.orders mixed <| ?_
  refine WR.first (g := 1) [0, 1, 2, 3] (by kernel_rfl) (by kernel_rfl) ?_
  refine WP.val (v_move rfl rfl) (.none rfl) rfl rfl ?_
  refine WP.val (v_slice_loS (lo := 6) rfl rfl rfl Tryz.underlying41 sz_5 rfl (by omega) (by omega)) (.none rfl) rfl rfl ?_
  refine WP.val (v_fieldAddr0 rfl rfl fld_59_1) (.none rfl) rfl rfl <| WP.val (v_slice_arr rfl rfl Tryz.underlying55 sz_5) (.none rfl) rfl rfl <| WP.nil <| ?_
  refine WR.ones (g := 0) [4] (by kernel_rfl) ?_
  refine WL.copyL rfl rfl rfl Tryz.underlying41 sz_5 (by rw [bcs_len]; omega) (segAt (m := 6) (new := bcs h.src 6) rfl) (bcs_one _ _) (by rw [List.length_append, bcs_len, bcs_len]; omega) (.none rfl) rfl rfl ?_
  refine WL.as (L' := .row g14 (bcs (em0 f h) n ++ r) :: .row g3 (hdL h) :: .row g2 (pkL H W (str f n) po en) :: L) (by rw [splice6_up (by omega)]; rfl) ?_
  refine WL.nilR ?_
  refine WR.done (by kernel_rfl) ?_
  refine WE.then_n <| WC.seq <| WC.seq <| WC.region <| WL.v (v_fieldAddr0 rfl rfl fld_59_3) rfl <| WL.v (v_load1 rfl rfl one_3 (cellAt rfl)) rfl <| ?_
  refine WL.test (v_neq rfl rfl rfl) (.none rfl) rfl rfl (fun h26 => ?_) (fun h26 => ?_)
  ·
   refine WL.nt <| WC.cond_t rfl <| WC.seq <| WC.region <| WL.v (v_move rfl rfl) rfl <| WL.v (v_assign rfl rfl) rfl <| WL.v (v_assign rfl rfl) rfl <| WL.nt <| WC.ret <| WE.then_ret <| WE.ret2 (P := Tryz.prog) (.inl rfl) Tryz.results26 rfl rfl <| ?_
   exact fun w' h' => ⟨g14, c14, r, rfl, hc14, ⟨hg14, by omega⟩, by unfold emF; rw [if_pos h26]; exact h'.sub (.cons_cons _ (.cons _ (.cons _ (.refl _))))⟩
  ·
   refine WL.nt <| WC.cond_f rfl <| WC.skip <| WE.then_n <| WC.seq <| WC.orders mixed <| ?_
   refine WR.first (g := 2) [0, 1, 2] (by kernel_rfl) (by kernel_rfl) ?_
   refine WP.val (v_move rfl rfl) (.none rfl) rfl rfl ?_
   refine WP.val (v_slice_loS (lo := 26) rfl rfl rfl Tryz.underlying41 sz_5 rfl (by omega) (by omega)) (.none rfl) rfl rfl ?_
   refine WP.val (v_fieldAddr0 rfl rfl fld_59_4) (.none rfl) rfl rfl <| WP.nil <| ?_
   refine WR.read (g := 1) [3] (by kernel_rfl) (by kernel_rfl) (by kernel_rfl) (by kernel_rfl) rfl ?_
   refine WQ.val (v_load1 rfl rfl one_57 (cellAt rfl)) (.none rfl) rfl rfl <| WQ.nilR <| ?_
   refine WR.ones (g := 0) [4] (by kernel_rfl) ?_
   refine WL.call rfl rfl ck_63 (.none rfl) rfl rfl ?_
   intro w hS
   refine Calls.thenS (putAddr_u hS (by omega) (by omega) (by omega) hh.sip.1 hh.sip.2) ?_
   refine WL.nilR ?_
   refine WR.done (by kernel_rfl) ?_
   refine WE.then_n <| WC.seq <| WC.orders mixed <| ?_
   refine WR.first (g := 2) [0, 1, 2] (by kernel_rfl) (by kernel_rfl) ?_
   refine WP.val (v_move rfl rfl) (.none rfl) rfl rfl ?_
   refine WP.val (v_slice_loS (lo := 30) rfl rfl rfl Tryz.underlying41 sz_5 rfl (by omega) (by omega)) (.none rfl) rfl rfl ?_
   refine WP.val (v_fieldAddr0 rfl rfl fld_59_5) (.none rfl) rfl rfl <| WP.nil <| ?_
   refine WR.read (g := 1) [3] (by kernel_rfl) (by kernel_rfl) (by kernel_rfl) (by kernel_rfl) rfl ?_
   refine WQ.val (v_load1 rfl rfl one_57 (cellAt rfl)) (.none rfl) rfl rfl <| WQ.nilR <| ?_
   refine WR.ones (g := 0) [4] (by kernel_rfl) ?_
   refine WL.call rfl rfl ck_63 (.none rfl) rfl rfl ?_
   intro w hS
   refine Calls.thenS (putAddr_u hS (by omega) (by omega) (by omega) hh.dip.1 hh.dip.2) ?_
   refine WL.nilR ?_
   refine WR.done (by kernel_rfl) ?_
   refine WE.then_n <| WC.seq <| WC.region <| WL.v (v_move rfl rfl) rfl <| ?_
   refine WL.v (v_slice_loS (lo := 24) rfl rfl rfl Tryz.underlying41 sz_5 rfl (by omega) (by omega)) rfl ?_
   refine WL.call rfl rfl ck_64 (.none rfl) rfl rfl ?_
   intro w hS
   refine Calls.thenS (put_u hS (by omega) (by omega) (by decide) (by decide)) ?_
   refine WL.as (L' := .row g14 (bcs (em2 f h) n ++ r) :: .row g3 (hdL h) :: .row g2 (pkL H W (str f n) po en) :: L) rfl <| WL.nt <| WC.seq <| WC.region <| WL.v (v_move rfl rfl) rfl <| ?_
   refine WL.v (v_indexAddr (lo := 14) rfl rfl rfl Tryz.underlying41 sz_5 rfl (by omega)) rfl ?_
   refine WL.v ((v_load1 rfl rfl one_5 (cellAt (bget2 (o := 0) (j := 14 * 1) (by omega)))).eq (v := .int .u8 (f 14)) (congrArg (Value.int .u8) (em2_14 f h))) rfl ?_
   refine WL.v (v_and rfl rfl rfl (mask_u8 (i := 4) (m := 16) (by decide) (by decide) (by decide) (by omega) (by omega))) rfl ?_
   refine WL.v (v_conv rfl rfl Tryz.underlying3 Tryz.underlying5 (w_i64 (by omega) (by omega))) rfl ?_
   refine WL.v (v_mul rfl rfl rfl (w_i64 (by omega) (by omega))) rfl ?_
   refine WL.v (v_assign rfl rfl) rfl <| WL.nt <| WC.seq <| WC.orders mixed <| ?_
   refine WR.first (g := 3) [0, 1, 2, 3, 4, 5] (by kernel_rfl) (by kernel_rfl) ?_
   refine WP.val (v_move rfl rfl) (.none rfl) rfl rfl ?_
   refine WP.val (v_slice_loS (lo := 24) rfl rfl rfl Tryz.underlying41 sz_5 rfl (by omega) (by omega)) (.none rfl) rfl rfl ?_
   refine WP.val (v_move rfl rfl) (.none rfl) rfl rfl <| WP.val (v_move rfl rfl) (.none rfl) rfl rfl <| ?_
   refine WP.val (v_add rfl rfl rfl (w_i64 (by omega) (by omega))) (.none rfl) rfl rfl ?_
   refine WP.val (v_slice_lhS (lo := 14) (hi := 14 + ihn f) rfl rfl rfl rfl Tryz.underlying41 sz_5 rfl (by omega) (by omega) (by omega) (by omega)) (.none rfl) rfl rfl ?_
   refine WP.nil ?_
   refine WR.read (g := 1) [6, 7] (by kernel_rfl) (by kernel_rfl) (by kernel_rfl) (by kernel_rfl) rfl ?_
   refine WQ.call _ rfl rfl ck_65 (.none rfl) rfl rfl (fun w hS => Calls.still (Calls.mono (fchk_c w g14 _ _ _ (fun i => em2 f h (14 + i)) (rdAt (g := g14) (cs := bcs (em2 f h) n ++ r) (fun i hi => by rw [Nat.zero_add, Nat.mul_one]; exact bget2 (by omega)) w hS) ((em2_byt hf hh).sub 14) (by omega) (by omega)) (fun e' w' ⟨he', hF⟩ => ⟨(by rw [he', show 14 + ihn f - 14 = ihn f by omega] : e' = .returned (.int .i64 (fc (total (fun i => em2 f h (14 + i)) (ihn f))))), hF⟩)) hS) ?_
   refine WQ.val (v_xor rfl rfl rfl (xor16_i64 (fc_le _ (total_le ((em2_byt hf hh).sub 14) _).1).1 (fc_le _ (total_le ((em2_byt hf hh).sub 14) _).1).2)) (.none rfl) rfl rfl <| WQ.nilR <| ?_
   refine WR.ones (g := 0) [8] (by kernel_rfl) ?_
   refine WL.call rfl rfl ck_64 (.none rfl) rfl rfl ?_
   intro w hS
   refine Calls.thenS (put_u hS (by omega) (by omega) (by omega) (by omega)) ?_
   refine WL.as (L' := .row g14 (bcs (em3 f h) n ++ r) :: .row g3 (hdL h) :: .row g2 (pkL H W (str f n) po en) :: L) (by unfold em3; rw [hi2]) ?_
   refine WL.nilR ?_
   refine WR.done (by kernel_rfl) ?_
   refine WE.then_n <| WC.seq <| WC.seq <| WC.region <| WL.v (v_fieldAddr0 rfl rfl fld_61_3) rfl <| WL.v (v_load1 rfl rfl one_3 (cellAt rfl)) rfl <| ?_
   refine WL.test (v_neq rfl rfl rfl) (.none rfl) rfl rfl (fun h58 => ?_) (fun h58 => ?_)
   ·
    refine WL.nt <| WC.cond_t rfl <| WC.seq <| WC.orders mixed <| ?_
    refine WR.first (g := 4) [0, 1, 4] (by kernel_rfl) (by kernel_rfl) ?_
    refine WP.val (v_move rfl rfl) (.none rfl) rfl rfl <| WP.val (v_fieldAddr0 rfl rfl fld_61_3) (.none rfl) rfl rfl <| WP.val (v_fieldAddr0 rfl rfl fld_59_7) (.none rfl) rfl rfl <| WP.nil <| ?_
    refine WR.read (g := 1) [2, 3, 5] (by kernel_rfl) (by kernel_rfl) (by kernel_rfl) (by kernel_rfl) rfl ?_
    refine WQ.val (v_load1 rfl rfl one_3 (cellAt rfl)) (.none rfl) rfl rfl ?_
    refine WQ.val (v_slice_loS (lo := po) rfl rfl rfl Tryz.underlying41 sz_5 (by omega) (by omega) (by omega)) (.none rfl) rfl rfl ?_
    refine WQ.val (v_load1 rfl rfl one_3 (cellAt rfl)) (.none rfl) rfl rfl <| WQ.nilR <| ?_
    refine WR.ones (g := 0) [6] (by kernel_rfl) ?_
    refine WL.call rfl rfl ck_64 (.none rfl) rfl rfl ?_
    intro w hS
    refine Calls.thenS (put_u hS (by omega) (by omega) (by omega) (by omega)) ?_
    refine WL.nilR ?_
    refine WR.done (by kernel_rfl) ?_
    refine WE.then_n <| WC.seq <| WC.orders mixed <| ?_
    refine WR.first (g := 5) [0, 1, 5] (by kernel_rfl) (by kernel_rfl) ?_
    refine WP.val (v_move rfl rfl) (.none rfl) rfl rfl <| WP.val (v_fieldAddr0 rfl rfl fld_61_3) (.none rfl) rfl rfl <| WP.val (v_fieldAddr0 rfl rfl fld_59_8) (.none rfl) rfl rfl <| WP.nil <| ?_
    refine WR.read (g := 1) [2, 3, 4, 6] (by kernel_rfl) (by kernel_rfl) (by kernel_rfl) (by kernel_rfl) rfl ?_
    refine WQ.val (v_load1 rfl rfl one_3 (cellAt rfl)) (.none rfl) rfl rfl ?_
    refine WQ.val (v_add rfl rfl rfl (w_i64 (by omega) (by omega))) (.none rfl) rfl rfl ?_
    refine WQ.val (v_slice_loS (lo := po + 2) rfl rfl rfl Tryz.underlying41 sz_5 (by omega) (by omega) (by omega)) (.none rfl) rfl rfl ?_
    refine WQ.val (v_load1 rfl rfl one_3 (cellAt rfl)) (.none rfl) rfl rfl <| WQ.nilR <| ?_
    refine WR.ones (g := 0) [7] (by kernel_rfl) ?_
    refine WL.call rfl rfl ck_64 (.none rfl) rfl rfl ?_
    intro w hS
    refine Calls.thenS (put_u hS (by omega) (by omega) (by omega) (by omega)) ?_
    refine WL.as (L' := .row g14 (bcs (up2 (up2 (em3 f h) po h.sp) (po + 2) h.dp) n ++ r) :: .row g3 (hdL h) :: .row g2 (pkL H W (str f n) po en) :: L) (by rw [Nat.zero_add, Nat.zero_add, Nat.mul_one, Nat.mul_one]) ?_
    refine WL.nilR ?_
    refine WR.done (by kernel_rfl) ?_
    refine WE.then_n <| WC.region <| WL.v (v_loadN rfl rfl many_61 rfl allAt) rfl <| WL.v (v_move rfl rfl) rfl <| WL.v (v_loadN rfl rfl many_59 rfl allAt) rfl <| WL.call rfl rfl ck_66 (.none rfl) rfl rfl <| ?_
    intro w1 hS
    refine (move_f _ _ w1 _ g14 n c14 (up2 (up2 (em3 f h) po h.sp) (po + 2) h.dp) r H W h (str f n) po en hS (up2_byt (up2_byt (em3_byt hf hh) _ hsp'.1 hsp'.2) _ hdp'.1 hdp'.2) hc14 hn (by omega) hW hWo hh hho (by omega) (by omega)).mono ?_
    rintro e w' ⟨rfl, hS'⟩
    refine ⟨_, _, rfl, hS', ?_⟩
    refine WL.nt <| WC.seq <| WC.region <| WL.v (v_move rfl rfl) rfl <| WL.v (v_assign rfl rfl) rfl <| WL.v (v_assign rfl rfl) rfl <| WL.nt <| WC.ret <| WE.ret2 (P := Tryz.prog) (.inl rfl) Tryz.results26 rfl rfl <| ?_
    exact fun w' h' => ⟨g14, c14, r, rfl, hc14, ⟨hg14, by omega⟩, by unfold emF; rw [if_neg h26, if_neg (by omega)]; exact h'.sub (.cons_cons _ (.cons _ (.cons _ (.refl _))))⟩
   ·
    refine WL.nt <| WC.cond_f rfl <| WC.skip <| WE.then_n <| WC.seq <| WC.region <| WL.v (v_move rfl rfl) rfl <| WL.v (v_assign rfl rfl) rfl <| WL.v (v_assign rfl rfl) rfl <| WL.nt <| WC.ret <| WE.ret2 (P := Tryz.prog) (.inl rfl) Tryz.results26 rfl rfl <| ?_
    exact fun w' h' => ⟨g14, c14, r, rfl, hc14, ⟨hg14, by omega⟩, by unfold emF; rw [if_neg h26, if_pos (by omega)]; exact h'.sub (.cons_cons _ (.cons _ (.cons _ (.refl _))))⟩
end Go.Proofs.YtkeonnnhogaggaaGreatDoor
/- What Emit makes, as a plain law: no program in sight. -/
namespace Go.Proofs.YtkeonnnhogaggaaGreatDoor
open Go.RowKit

theorem up2_at {f : Nat → Int} {off : Nat} {x : Int} : up2 f off x off = x / 256 := by unfold up2; rw [if_pos rfl]
theorem up2_at1 {f : Nat → Int} {off : Nat} {x : Int} : up2 f off x (off + 1) = x % 256 := by unfold up2; rw [if_neg (by omega), if_pos rfl]
theorem up2_far {f : Nat → Int} {off i : Nat} {x : Int} (h : i < off ∨ off + 2 ≤ i) : up2 f off x i = f i := by unfold up2; rw [if_neg (by omega), if_neg (by omega)]
theorem two_up2 {f : Nat → Int} {off : Nat} {x : Int} : two (up2 f off x) off = x := by unfold two; rw [up2_at, up2_at1]; omega
theorem two_far {f : Nat → Int} {off i : Nat} {x : Int} (h : i + 2 ≤ off ∨ off + 2 ≤ i) : two (up2 f off x) i = two f i := by unfold two; rw [up2_far (by omega), up2_far (by omega)]
theorem up4_far {f : Nat → Int} {off i : Nat} {x : Int} (h : i < off ∨ off + 4 ≤ i) : up4 f off x i = f i := by unfold up4; rw [up2_far (by omega), up2_far (by omega)]
theorem up6_far {f g : Nat → Int} {off i : Nat} (h : i < off ∨ off + 6 ≤ i) : up6 f off g i = f i := by unfold up6; rw [if_neg (by omega)]
theorem pairs_congr {f g : Nat → Int} : ∀ k, (∀ i, i < 2 * k → f i = g i) → pairs f k = pairs g k
  | 0, _ => rfl
  | k + 1, h => by
    simp only [pairs]
    rw [pairs_congr k (fun i hi => h i (by omega))]
    unfold two
    rw [h (2 * k) (by omega), h (2 * k + 1) (by omega)]
theorem pairs_up2 {f : Nat → Int} {k j : Nat} {x : Int} (h : j < k) : pairs (up2 f (2 * j) x) k = pairs f k + x - two f (2 * j) := by
  induction k with
  | zero => omega
  | succ k ih =>
    simp only [pairs]
    by_cases hj : j = k
    · subst hj
      rw [pairs_congr (f := up2 f (2 * j) x) (g := f) j (fun i hi => up2_far (by omega)), two_up2]; omega
    · rw [ih (by omega), two_far (by omega)]; omega
theorem total_even' {f : Nat → Int} {k : Nat} : total f (2 * k) = pairs f k := total_even rfl
/-- A sum, and what is lacking: all bits. -/
theorem fc_fill {T : Int} (h : 0 < T) : fc (T + (65535 - fc T)) = 65535 := by
  unfold fc
  rw [if_neg (by omega : ¬ T = 0), if_neg (by omega)]
  omega
theorem mvF_lo {e : Nat → Int} {W h : Hd} {po i : Nat} {en : Int} (hi : i < po + 6) : mvF e W h po en i = e i := by
  unfold mvF
  split
  · rfl
  · split
    · split
      · rfl
      · exact up2_far (by omega)
    · split
      · rfl
      · exact up2_far (by omega)
/-- Ahead of the ports: as em3 says. -/
theorem emF_lo {f : Nat → Int} {W h : Hd} {po i : Nat} {en : Int} (hty : h.ty = 2048) (hpo : po = 0 ∨ i < po) : emF f W po en h i = em3 f h i := by
  unfold emF
  rw [if_neg (by omega)]
  split
  · rfl
  · rw [mvF_lo (by omega), up2_far (by omega), up2_far (by omega)]
theorem em0_far {f : Nat → Int} {h : Hd} {i : Nat} (hi : 12 ≤ i) : em0 f h i = f i := by unfold em0; rw [up6_far (by omega), up6_far (by omega)]
theorem em0_dst {f : Nat → Int} {h : Hd} {i : Nat} (hi : i < 6) : em0 f h i = h.dst i := by
  unfold em0; rw [up6_far (by omega)]; unfold up6; rw [if_pos (by omega)]; rfl
theorem em0_src {f : Nat → Int} {h : Hd} {i : Nat} (hi : i < 6) : em0 f h (6 + i) = h.src i := by
  unfold em0; unfold up6; rw [if_pos (by omega), show 6 + i - 6 = i by omega]
theorem em2_far {f : Nat → Int} {h : Hd} {i : Nat} (hi : i < 24 ∨ 34 ≤ i) : em2 f h i = em0 f h i := by unfold em2; rw [up2_far (by omega), up4_far (by omega), up4_far (by omega)]
theorem em3_far {f : Nat → Int} {h : Hd} {i : Nat} (hi : i < 24 ∨ 34 ≤ i) : em3 f h i = em0 f h i := by unfold em3; rw [up2_far (by omega), em2_far hi]
theorem em3_sip {f : Nat → Int} {h : Hd} : four (em3 f h) 26 = h.sip := by
  unfold em3 em2 four
  rw [two_far (by omega), two_far (by omega), two_far (by omega), two_far (by omega)]
  unfold up4
  rw [two_far (by omega), two_far (by omega), two_far (by omega), two_up2, two_far (by omega), two_far (by omega), two_up2]
  omega
theorem em3_dip {f : Nat → Int} {h : Hd} : four (em3 f h) 30 = h.dip := by
  unfold em3 em2 four
  rw [two_far (by omega), two_far (by omega), two_far (by omega), two_far (by omega)]
  unfold up4
  rw [two_far (by omega), two_up2, two_up2]
  omega

/-- Where the ports begin, as a count. -/
def poN (f : Nat → Int) : Nat := if two f 12 = 2048 ∧ hasPorts f = true then 14 + ihn f else 0
theorem ihn_eq {f : Nat → Int} (hf : Byt f) : ihl f = ((ihn f : Nat) : Int) ∧ ihn f ≤ 60 := by
  have := hf 14
  unfold ihn ihl; omega
theorem poN_eq {f : Nat → Int} (hf : Byt f) : prPorts f = ((poN f : Nat) : Int) := by
  have := (ihn_eq hf).1
  unfold prPorts poN pOf
  by_cases h1 : two f 12 = 2048
  · by_cases h2 : hasPorts f = true
    · rw [if_pos h1, if_pos h2, if_pos ⟨h1, h2⟩, this]; rfl
    · rw [if_pos h1, if_neg h2, if_neg (fun k => h2 k.2)]; rfl
  · rw [if_neg h1, if_neg (fun k => h1 k.1)]; rfl
theorem hasPorts_iff {f : Nat → Int} : hasPorts f = true ↔ ((f 23 = 6 ∨ f 23 = 17) ∧ two f 20 % 8192 = 0) ∧ 8 ≤ two f 16 - ihl f := by
  unfold hasPorts
  simp only [Bool.and_eq_true, Bool.or_eq_true, beq_iff_eq, decide_eq_true_eq]
/-- What a frame that is parsed says: its IPv4 packet is whole. -/
theorem prErr_ip {port : Int} {f : Nat → Int} {n : Nat} (h : prErr port f n = 0) (h2 : two f 12 = 2048) : pkErr f n = 0 := by
  unfold prErr at h
  split at h
  · exact absurd h (by decide)
  · split at h
    · exact absurd h (by decide)
    · split at h
      · exact absurd h (by decide)
      · split at h
        · rename_i k; exact absurd h2 k
        · exact h
theorem poN_bounds {port : Int} {f : Nat → Int} {n : Nat} (hf : Byt f) (h : prErr port f n = 0) (h2 : two f 12 = 2048) : poN f = 0 ∨ (34 ≤ poN f ∧ poN f + 8 ≤ n ∧ poN f = 14 + ihn f ∧ hasPorts f = true) := by
  obtain ⟨k1, k2, k3, k4, k5, k6⟩ := pkErr_zero (prErr_ip h h2)
  have := ihn_eq hf
  unfold poN
  by_cases hp : hasPorts f = true
  · rw [if_pos ⟨h2, hp⟩]
    have := (hasPorts_iff.1 hp).2
    right; refine ⟨by omega, by omega, rfl, hp⟩
  · rw [if_neg (fun k => hp k.2)]; exact .inl rfl

section
variable {f : Nat → Int} {W h : Hd} {po n : Nat} {en port : Int}
theorem two_em0 (i : Nat) (hi : 12 ≤ i) : two (em0 f h) i = two f i := by unfold two; rw [em0_far hi, em0_far (by omega)]
/-- Of what is no IPv4. -/
theorem emF_other (hty : h.ty ≠ 2048) : emF f W po en h = em0 f h := by unfold emF; rw [if_pos hty]
theorem emF_far (hty : h.ty = 2048) (hpo : po = 0 ∨ 34 ≤ po) {i : Nat} (h1 : 12 ≤ i) (h2 : i < 24) : emF f W po en h i = f i := by
  rw [emF_lo hty (by omega), em3_far (by omega), em0_far h1]
theorem two_emF (hty : h.ty = 2048) (hpo : po = 0 ∨ 34 ≤ po) {i : Nat} (h1 : 12 ≤ i) (h2 : i + 1 < 24) : two (emF f W po en h) i = two f i := by
  unfold two; rw [emF_far hty hpo h1 (by omega), emF_far hty hpo (by omega) h2]
theorem emF_ihn (hty : h.ty = 2048) (hpo : po = 0 ∨ 34 ≤ po) : ihl (emF f W po en h) = ihl f ∧ ihn (emF f W po en h) = ihn f := by
  have e : ihl (emF f W po en h) = ihl f := by unfold ihl; rw [emF_far hty hpo (by omega) (by omega)]
  exact ⟨e, by unfold ihn; rw [e]⟩
theorem emF_ports (hty : h.ty = 2048) (hpo : po = 0 ∨ 34 ≤ po) : hasPorts (emF f W po en h) = hasPorts f := by
  unfold hasPorts
  rw [emF_far hty hpo (i := 23) (by omega) (by omega), two_emF hty hpo (i := 20) (by omega) (by omega), two_emF hty hpo (i := 16) (by omega) (by omega), (emF_ihn hty hpo).1]
theorem emF_sip (hty : h.ty = 2048) (hpo : po = 0 ∨ 34 ≤ po) : four (emF f W po en h) 26 = h.sip ∧ four (emF f W po en h) 30 = h.dip := by
  have e : ∀ i, i < 34 → emF f W po en h i = em3 f h i := fun i hi => emF_lo hty (by omega)
  constructor
  · rw [← em3_sip (f := f) (h := h)]; unfold four two; rw [e _ (by omega), e _ (by omega), e _ (by omega), e _ (by omega)]
  · rw [← em3_dip (f := f) (h := h)]; unfold four two; rw [e _ (by omega), e _ (by omega), e _ (by omega), e _ (by omega)]
theorem emF_pp (hty : h.ty = 2048) (hpo : 34 ≤ po) : two (emF f W po en h) po = h.sp ∧ two (emF f W po en h) (po + 2) = h.dp := by
  unfold emF
  rw [if_neg (by omega), if_neg (by omega)]
  unfold two
  rw [mvF_lo (by omega), mvF_lo (by omega), mvF_lo (by omega), mvF_lo (by omega)]
  constructor
  · show two (up2 (up2 (em3 f h) po h.sp) (po + 2) h.dp) po = _
    rw [two_far (by omega), two_up2]
  · show two (up2 (up2 (em3 f h) po h.sp) (po + 2) h.dp) (po + 2) = _
    rw [two_up2]
end

theorem total_congr {f g : Nat → Int} {k : Nat} (h : ∀ i, i < 2 * k → f i = g i) : total f (2 * k) = total g (2 * k) := by rw [total_even', total_even', pairs_congr k h]
theorem pairs_pos {f : Nat → Int} (hf : Byt f) {k : Nat} (hk : 0 < k) (h : 0 < f 0) : 0 < pairs f k := by
  induction k with
  | zero => omega
  | succ k ih =>
    simp only [pairs]
    have := two_le hf (2 * k)
    by_cases hk0 : k = 0
    · subst hk0; have := hf 1; show 0 < 0 + (f 0 * 256 + f 1); omega
    · have := ih (by omega); omega
theorem shift_up2 {f : Nat → Int} {c off : Nat} {x : Int} : (fun i => up2 f (c + off) x (c + i)) = up2 (fun i => f (c + i)) off x := by
  funext i; unfold up2
  by_cases h1 : i = off
  · rw [if_pos (by omega), if_pos h1]
  · rw [if_neg (by omega), if_neg h1]
    by_cases h2 : i = off + 1
    · rw [if_pos (by omega), if_pos h2]
    · rw [if_neg (by omega), if_neg h2]
/-- The header's sum without its check. -/
def hdT (f : Nat → Int) (h : Hd) : Int := total (fun i => em2 f h (14 + i)) (ihn f)
theorem hdT_pos {f : Nat → Int} {h : Hd} (hf : Byt f) (hh : h.In) (h14 : f 14 / 16 = 4) (h20 : 20 ≤ ihl f) : 0 < hdT f h := by
  have he := (em2_byt hf hh).sub 14
  obtain ⟨h1, h2⟩ := ihn_eq hf
  obtain ⟨k, hk⟩ : ∃ k, ihn f = 2 * k := ⟨ihn f / 2, by unfold ihl at h1; omega⟩
  unfold hdT
  rw [hk, total_even']
  refine pairs_pos he (by omega) ?_
  show 0 < em2 f h (14 + 0)
  rw [em2_14]; omega
theorem em3_sum {f : Nat → Int} {h : Hd} (hf : Byt f) (h20 : 20 ≤ ihl f) (c : Int) : total (fun i => up2 (em2 f h) 24 c (14 + i)) (ihn f) = hdT f h + c := by
  obtain ⟨h1, h2⟩ := ihn_eq hf
  obtain ⟨k, hk⟩ : ∃ k, ihn f = 2 * k := ⟨ihn f / 2, by unfold ihl at h1; omega⟩
  have e := shift_up2 (f := em2 f h) (c := 14) (off := 2 * 5) (x := c)
  have e0 : two (fun i => em2 f h (14 + i)) (2 * 5) = 0 := by
    show two (em2 f h) 24 = 0
    unfold em2; rw [two_up2]
  unfold hdT
  rw [show (24 : Nat) = 14 + 2 * 5 from rfl, e, hk, total_even', total_even', pairs_up2 (by omega), e0]
  omega
/-- Of what Emit makes the header's sum is right. -/
theorem emF_sum {f : Nat → Int} {W h : Hd} {po : Nat} {en : Int} (hf : Byt f) (hh : h.In) (hty : h.ty = 2048) (hpo : po = 0 ∨ po = 14 + ihn f) (h14 : f 14 / 16 = 4) (h20 : 20 ≤ ihl f) :
    fc (total (fun i => emF f W po en h (14 + i)) (ihn f)) = 65535 := by
  obtain ⟨h1, h2⟩ := ihn_eq hf
  obtain ⟨k, hk⟩ : ∃ k, ihn f = 2 * k := ⟨ihn f / 2, by unfold ihl at h1; omega⟩
  have e : total (fun i => emF f W po en h (14 + i)) (ihn f) = hdT f h + (65535 - fc (hdT f h)) := by
    rw [← em3_sum hf h20, hk]
    refine total_congr fun i hi => ?_
    show emF f W po en h (14 + i) = _
    rw [emF_lo hty (by omega)]
    unfold em3 hdT
    have : ihn (em2 f h) = ihn f := by unfold ihn ihl; rw [em2_14]
    rw [this]
  rw [e]
  exact fc_fill (hdT_pos hf hh h14 h20)

theorem hdL_ext {A B : Hd} (h1 : A.port = B.port) (h2 : ∀ i, i < 6 → A.src i = B.src i) (h3 : ∀ i, i < 6 → A.dst i = B.dst i) (h4 : A.ty = B.ty) (h5 : A.sip = B.sip) (h6 : A.dip = B.dip) (h7 : A.proto = B.proto) (h8 : A.sp = B.sp) (h9 : A.dp = B.dp) : hdL A = hdL B := by
  unfold hdL
  rw [h1, h2 0 (by decide), h2 1 (by decide), h2 2 (by decide), h2 3 (by decide), h2 4 (by decide), h2 5 (by decide), h3 0 (by decide), h3 1 (by decide), h3 2 (by decide), h3 3 (by decide), h3 4 (by decide), h3 5 (by decide), h4, h5, h6, h7, h8, h9]
/-- The header with another port. -/
def Hd.at (h : Hd) (port : Int) : Hd := { h with port := port }
theorem prErr_of {port : Int} {f : Nat → Int} {n : Nat} (hp : 0 ≤ port ∧ port ≤ 255) (h14 : 14 ≤ n) (hn : n ≤ 1514) : prErr port f n = if two f 12 ≠ 2048 then 0 else pkErr f n := by
  unfold prErr; rw [if_neg (by omega), if_neg (by omega), if_neg (by omega)]
theorem prErr_n {port : Int} {f : Nat → Int} {n : Nat} (h1 : prErr port f n = 0) : (0 ≤ port ∧ port ≤ 255) ∧ 14 ≤ n ∧ n ≤ 1514 := by
  unfold prErr at h1
  split at h1
  · exact absurd h1 (by decide)
  · split at h1
    · exact absurd h1 (by decide)
    · split at h1
      · exact absurd h1 (by decide)
      · omega
theorem prHd_is {port : Int} {g : Nat → Int} (h : two g 12 = 2048) : prHd port g = pkHd g (ethHd port g) := by unfold prHd; rw [if_pos h]
theorem prHd_no {port : Int} {g : Nat → Int} (h : ¬ two g 12 = 2048) : prHd port g = ethHd port g := by unfold prHd; rw [if_neg h]
theorem prHd_ty' (port : Int) (f : Nat → Int) : (prHd port f).ty = two f 12 := by
  unfold prHd pkHd; split
  · split <;> rfl
  · rfl
theorem emF_prErr {f : Nat → Int} {h : Hd} {n : Nat} {port0 port : Int} {raw : ByteArray} (hf : Byt f) (hh : h.In) (h1 : prErr port0 f n = 0) (hm : May (prHd port0 f) (poN f) raw h) (hp : 0 ≤ port ∧ port ≤ 255) :
    prErr port (emF f (prHd port0 f) (poN f) (prEnd f) h) n = 0 := by
  obtain ⟨_, h14, hn⟩ := prErr_n h1
  have hty : h.ty = two f 12 := hm.2.2.1.trans (prHd_ty' _ _)
  rw [prErr_of hp h14 hn]
  by_cases h2 : two f 12 = 2048
  · have hb := poN_bounds hf h1 h2
    have hty' : h.ty = 2048 := by omega
    have hpo : poN f = 0 ∨ 34 ≤ poN f := by omega
    obtain ⟨k1, k2, k3, k4, k5, k6⟩ := pkErr_zero (prErr_ip h1 h2)
    rw [if_neg (by rw [two_emF hty' hpo (by omega) (by omega)]; omega)]
    obtain ⟨e1, e2⟩ := emF_ihn (f := f) (W := prHd port0 f) (h := h) (en := prEnd f) hty' hpo
    unfold pkErr
    have es : fc (total (fun i => emF f (prHd port0 f) (poN f) (prEnd f) h (14 + i)) (ihl (emF f (prHd port0 f) (poN f) (prEnd f) h)).toNat) = 65535 := by
      have := emF_sum (W := prHd port0 f) (po := poN f) (en := prEnd f) hf hh hty' (by omega) k2 k3
      rw [← e2] at this; exact this
    rw [if_neg (by omega), emF_far hty' hpo (by omega) (by omega), e1, two_emF hty' hpo (by omega) (by omega), if_neg (by omega), if_neg (by omega), ← e1, if_neg (by rw [es]; decide)]
  · rw [if_pos (by rw [emF_other (by omega), two_em0 _ (by omega)]; exact h2)]
theorem emF_hd {f : Nat → Int} {h : Hd} {n : Nat} {port0 port : Int} {raw : ByteArray} (hf : Byt f) (h1 : prErr port0 f n = 0) (hm : May (prHd port0 f) (poN f) raw h) :
    hdL (prHd port (emF f (prHd port0 f) (poN f) (prEnd f) h)) = hdL (h.at port) := by
  obtain ⟨m1, m2, m3, m4, m5, m6⟩ := hm
  have hty : h.ty = two f 12 := m3.trans (prHd_ty' _ _)
  by_cases h2 : two f 12 = 2048
  · have hb := poN_bounds hf h1 h2
    have hty' : h.ty = 2048 := by omega
    have hpo : poN f = 0 ∨ 34 ≤ poN f := by omega
    have e12 := two_emF (f := f) (W := prHd port0 f) (en := prEnd f) hty' hpo (i := 12) (by omega) (by omega)
    have hip : ∀ i, i < 12 → emF f (prHd port0 f) (poN f) (prEnd f) h i = em0 f h i := fun i hi => by rw [emF_lo hty' (by omega), em3_far (by omega)]
    have e23 := emF_far (f := f) (W := prHd port0 f) (en := prEnd f) hty' hpo (i := 23) (by omega) (by omega)
    obtain ⟨es, ed⟩ := emF_sip (f := f) (W := prHd port0 f) (en := prEnd f) hty' hpo
    have hpr : (prHd port0 f).proto = f 23 := by unfold prHd pkHd; rw [if_pos h2]; split <;> rfl
    have hport : prHd port (emF f (prHd port0 f) (poN f) (prEnd f) h) = pkHd (emF f (prHd port0 f) (poN f) (prEnd f) h) (ethHd port (emF f (prHd port0 f) (poN f) (prEnd f) h)) := prHd_is (by rw [e12]; exact h2)
    rw [hport]
    unfold pkHd
    rw [emF_ports hty' hpo]
    by_cases hp : hasPorts f = true
    · rw [if_pos hp]
      have hpn : poN f = 14 + ihn f ∧ 34 ≤ poN f := by
        rcases hb with hb | hb
        · have : poN f = 14 + ihn f := by unfold poN; rw [if_pos ⟨h2, hp⟩]
          omega
        · omega
      have hpp := emF_pp (f := f) (W := prHd port0 f) (en := prEnd f) (h := h) hty' hpn.2
      have e2 := (emF_ihn (f := f) (W := prHd port0 f) (h := h) (en := prEnd f) hty' hpo).2
      refine hdL_ext rfl ?_ ?_ ?_ es ed ?_ ?_ ?_
      · intro i hi; show emF _ _ _ _ h (6 + i) = h.src i; rw [hip _ (by omega), em0_src hi]
      · intro i hi; show emF _ _ _ _ h i = h.dst i; rw [hip _ (by omega), em0_dst hi]
      · show two (emF _ _ _ _ h) 12 = h.ty; rw [e12, hty]
      · show emF _ _ _ _ h 23 = h.proto; rw [e23, m4, hpr]
      · show two (emF _ _ _ _ h) (14 + ihn _) = h.sp; rw [e2, ← hpn.1]; exact hpp.1
      · show two (emF _ _ _ _ h) (14 + ihn _ + 2) = h.dp; rw [e2, ← hpn.1]; exact hpp.2
    · rw [if_neg hp]
      have hp0 : poN f = 0 := by unfold poN; rw [if_neg (fun k => hp k.2)]
      have m6' : h.sp = 0 ∧ h.dp = 0 := by rw [hp0] at m6; exact m6.resolve_left (fun k => k rfl)
      refine hdL_ext rfl ?_ ?_ ?_ es ed ?_ m6'.1.symm m6'.2.symm
      · intro i hi; show emF _ _ _ _ h (6 + i) = h.src i; rw [hip _ (by omega), em0_src hi]
      · intro i hi; show emF _ _ _ _ h i = h.dst i; rw [hip _ (by omega), em0_dst hi]
      · show two (emF _ _ _ _ h) 12 = h.ty; rw [e12, hty]
      · show emF _ _ _ _ h 23 = h.proto; rw [e23, m4, hpr]
  · have hp0 : poN f = 0 := by unfold poN; rw [if_neg (fun k => h2 k.1)]
    have m6' : h.sp = 0 ∧ h.dp = 0 := by rw [hp0] at m6; exact m6.resolve_left (fun k => k rfl)
    have m5' := m5.resolve_left (by omega)
    have e : emF f (prHd port0 f) (poN f) (prEnd f) h = em0 f h := emF_other (by omega)
    rw [e]
    have hport : prHd port (em0 f h) = ethHd port (em0 f h) := prHd_no (by rw [two_em0 _ (by omega)]; exact h2)
    have hpr : (prHd port0 f).proto = 0 := by unfold prHd; rw [if_neg h2]; rfl
    rw [hport]
    refine hdL_ext rfl (fun i hi => em0_src hi) (fun i hi => em0_dst hi) ?_ m5'.1.symm m5'.2.symm ?_ m6'.1.symm m6'.2.symm
    · show two (em0 f h) 12 = h.ty; rw [two_em0 _ (by omega), hty]
    · show 0 = h.proto; rw [m4, hpr]
end Go.Proofs.YtkeonnnhogaggaaGreatDoor
/- A frame emitted with its own header: its own bytes, but for a check that means the same. -/
namespace Go.Proofs.YtkeonnnhogaggaaGreatDoor
open Go.RowKit

section
variable {f : Nat → Int} {port : Int} {n : Nat}
theorem prHd_In (hf : Byt f) (hp : 0 ≤ port ∧ port ≤ 255) : (prHd port f).In := by
  have t12 := two_le hf 12
  have f26 := four_le hf 26
  have f30 := four_le hf 30
  have b23 := hf 23
  have ta := two_le hf (14 + ihn f)
  have tb := two_le hf (14 + ihn f + 2)
  have hs : Byt (fun i => f (6 + i)) := hf.sub 6
  unfold prHd pkHd ethHd Hd.zero
  split
  · split
    · exact ⟨show -9223372036854775808 ≤ port ∧ port ≤ 9223372036854775807 by omega, show -9223372036854775808 ≤ two f 12 ∧ two f 12 ≤ 9223372036854775807 by omega, show -9223372036854775808 ≤ f 23 ∧ f 23 ≤ 9223372036854775807 by omega, show -9223372036854775808 ≤ two f (14 + ihn f) ∧ two f (14 + ihn f) ≤ 9223372036854775807 by omega, show -9223372036854775808 ≤ two f (14 + ihn f + 2) ∧ two f (14 + ihn f + 2) ≤ 9223372036854775807 by omega, f26, f30, hs, hf⟩
    · exact ⟨show -9223372036854775808 ≤ port ∧ port ≤ 9223372036854775807 by omega, show -9223372036854775808 ≤ two f 12 ∧ two f 12 ≤ 9223372036854775807 by omega, show -9223372036854775808 ≤ f 23 ∧ f 23 ≤ 9223372036854775807 by omega, by show -9223372036854775808 ≤ (0 : Int) ∧ (0 : Int) ≤ 9223372036854775807; omega, by show -9223372036854775808 ≤ (0 : Int) ∧ (0 : Int) ≤ 9223372036854775807; omega, f26, f30, hs, hf⟩
  · exact ⟨show -9223372036854775808 ≤ port ∧ port ≤ 9223372036854775807 by omega, show -9223372036854775808 ≤ two f 12 ∧ two f 12 ≤ 9223372036854775807 by omega, by show -9223372036854775808 ≤ (0 : Int) ∧ (0 : Int) ≤ 9223372036854775807; omega, by show -9223372036854775808 ≤ (0 : Int) ∧ (0 : Int) ≤ 9223372036854775807; omega, by show -9223372036854775808 ≤ (0 : Int) ∧ (0 : Int) ≤ 9223372036854775807; omega, by show 0 ≤ (0 : Int) ∧ (0 : Int) ≤ 4294967295; omega, by show 0 ≤ (0 : Int) ∧ (0 : Int) ≤ 4294967295; omega, hs, hf⟩
theorem prHd_WOk (hf : Byt f) : WOk (prHd port f) := by
  have f26 := four_le hf 26
  have f30 := four_le hf 30
  have ta := two_le hf (14 + ihn f)
  have tb := two_le hf (14 + ihn f + 2)
  intro i hi
  have z : wv (ethHd port f) i = 0 := by
    match i, hi with
    | 0, _ | 1, _ | 2, _ | 3, _ | 4, _ | 5, _ => rfl
  unfold prHd pkHd
  split
  · split
    · match i, hi with
      | 0, _ => show 0 ≤ four f 26 / 65536 ∧ four f 26 / 65536 ≤ 65535; omega
      | 1, _ => show 0 ≤ four f 26 % 65536 ∧ four f 26 % 65536 ≤ 65535; omega
      | 2, _ => show 0 ≤ four f 30 / 65536 ∧ four f 30 / 65536 ≤ 65535; omega
      | 3, _ => show 0 ≤ four f 30 % 65536 ∧ four f 30 % 65536 ≤ 65535; omega
      | 4, _ => exact ta
      | 5, _ => exact tb
    · match i, hi with
      | 0, _ => show 0 ≤ four f 26 / 65536 ∧ four f 26 / 65536 ≤ 65535; omega
      | 1, _ => show 0 ≤ four f 26 % 65536 ∧ four f 26 % 65536 ≤ 65535; omega
      | 2, _ => show 0 ≤ four f 30 / 65536 ∧ four f 30 / 65536 ≤ 65535; omega
      | 3, _ => show 0 ≤ four f 30 % 65536 ∧ four f 30 % 65536 ≤ 65535; omega
      | 4, _ => show 0 ≤ (0 : Int) ∧ (0 : Int) ≤ 65535; omega
      | 5, _ => show 0 ≤ (0 : Int) ∧ (0 : Int) ≤ 65535; omega
  · rw [z]; omega
end
theorem toList_ne {bs : ByteArray} (h : 0 < bs.size) : bs.toList ≠ [] := by
  rw [bytes_toList]
  intro e
  have : bs.data.toList.length = 0 := by rw [e]; rfl
  have h2 : bs.size = bs.data.toList.length := by simp
  omega
theorem fitsB_iff {i : Nat} {x : Int} : fitsB i x = true ↔ 0 ≤ x ∧ x ≤ fullI i := by unfold fitsB; simp
theorem okB_iff {H : Hd} : H.okB = true ↔ (0 ≤ H.port ∧ H.port ≤ 255) ∧ (0 ≤ H.ty ∧ H.ty ≤ 65535) ∧ (0 ≤ H.proto ∧ H.proto ≤ 255) ∧ (0 ≤ H.sp ∧ H.sp ≤ 65535) ∧ (0 ≤ H.dp ∧ H.dp ≤ 65535) := by
  unfold Hd.okB
  simp only [Bool.and_eq_true, fitsB_iff]
  have e0 : fullI 0 = 255 := by decide
  have e3 : fullI 3 = 65535 := by decide
  have e6 : fullI 6 = 255 := by decide
  have e7 : fullI 7 = 65535 := by decide
  have e8 : fullI 8 = 65535 := by decide
  rw [e0, e3, e6, e7, e8]
  constructor
  · rintro ⟨⟨⟨⟨h1, h2⟩, h3⟩, h4⟩, h5⟩; exact ⟨h1, h2, h3, h4, h5⟩
  · rintro ⟨h1, h2, h3, h4, h5⟩; exact ⟨⟨⟨⟨h1, h2⟩, h3⟩, h4⟩, h5⟩
theorem okB_WOk {H : Hd} (h : H.okB = true) (hI : H.In) : WOk H := by
  obtain ⟨_, _, _, h4, h5⟩ := okB_iff.1 h
  have s := hI.sip
  have d := hI.dip
  intro i hi
  match i, hi with
  | 0, _ => show 0 ≤ H.sip / 65536 ∧ H.sip / 65536 ≤ 65535; omega
  | 1, _ => show 0 ≤ H.sip % 65536 ∧ H.sip % 65536 ≤ 65535; omega
  | 2, _ => show 0 ≤ H.dip / 65536 ∧ H.dip / 65536 ≤ 65535; omega
  | 3, _ => show 0 ≤ H.dip % 65536 ∧ H.dip % 65536 ≤ 65535; omega
  | 4, _ => exact h4
  | 5, _ => exact h5
section
variable {f : Nat → Int} {port : Int} {n : Nat}
theorem prHd_okB (hf : Byt f) (hp : 0 ≤ port ∧ port ≤ 255) : (prHd port f).okB = true := by
  have t12 := two_le hf 12
  have b23 := hf 23
  have hw := prHd_WOk (port := port) hf
  have h4 := hw 4 (by decide)
  have h5 := hw 5 (by decide)
  have ep : (prHd port f).port = port := by unfold prHd pkHd; split <;> (try split) <;> rfl
  have ety : (prHd port f).ty = two f 12 := prHd_ty' _ _
  have epr : 0 ≤ (prHd port f).proto ∧ (prHd port f).proto ≤ 255 := by
    unfold prHd pkHd
    split
    · split <;> exact b23
    · show 0 ≤ (0 : Int) ∧ (0 : Int) ≤ 255; omega
  exact okB_iff.2 ⟨by omega, by omega, epr, h4, h5⟩
end
end Go.Proofs.YtkeonnnhogaggaaGreatDoor
/- carrefourlaw05.headOk. -/
namespace Go.Proofs.YtkeonnnhogaggaaGreatDoor
open Go.RowKit

/-- Fourteen bytes of which the last two are told. -/
def hk (x y : Int) (i : Nat) : Int := if i = 12 then x else if i = 13 then y else 0
end Go.Proofs.YtkeonnnhogaggaaGreatDoor
/- carrefourlaw05.FrameBack. -/
namespace Go.Proofs.YtkeonnnhogaggaaGreatDoor
open Go.RowKit

theorem mvF_byt {e : Nat → Int} {W h : Hd} {po : Nat} {en : Int} (he : Byt e) : Byt (mvF e W h po en) := by
  have key : ∀ old udp, 0 ≤ mvSum old W h → 0 ≤ mvNew old udp W h ∧ mvNew old udp W h ≤ 65535 := fun old udp hs => by
    have := fc_le (mvSum old W h) hs
    unfold mvNew; split <;> omega
  unfold mvF
  split
  · exact he
  · split
    · split
      · exact he
      · by_cases hs : 0 ≤ mvSum (two e (po + 6)) W h
        · exact up2_byt he _ (key _ _ hs).1 (key _ _ hs).2
        · have hfc : 0 ≤ fc (mvSum (two e (po + 6)) W h) ∧ fc (mvSum (two e (po + 6)) W h) ≤ 65535 := by unfold fc; split <;> omega
          exact up2_byt he _ (by unfold mvNew; split <;> omega) (by unfold mvNew; split <;> omega)
    · split
      · exact he
      · have hfc : 0 ≤ fc (mvSum (two e (po + 16)) W h) ∧ fc (mvSum (two e (po + 16)) W h) ≤ 65535 := by unfold fc; split <;> omega
        exact up2_byt he _ (by unfold mvNew; split <;> omega) (by unfold mvNew; split <;> omega)
theorem emF_byt {f : Nat → Int} {W h : Hd} {po : Nat} {en : Int} (hf : Byt f) (hh : h.In) (hho : WOk h) : Byt (emF f W po en h) := by
  have h4 := hho 4 (by decide)
  have h5 := hho 5 (by decide)
  unfold emF
  split
  · exact em0_byt hf hh
  · split
    · exact em3_byt hf hh
    · exact mvF_byt (up2_byt (up2_byt (em3_byt hf hh) _ h4.1 h4.2) _ h5.1 h5.2)
/-- Emit of a frame that was parsed. -/
theorem Emit_pm {p : Nat → Prop} {w0 w : World} {L : List Ent} {H h : Hd} {f : Nat → Int} {n : Nat} {port : Int} (hS : St p w0 w L) (hp : ¬ p 1) (hG : GW w0) (hh : h.In) (hf : Byt f) (h1 : prErr port f n = 0) (hm : May (prHd port f) (poN f) (str f n) h) :
    Calls Tryz.prog 26 #[packV H (prHd port f) (str f n) (prPorts f) (prEnd f), .agg (hdCells h)] w fun e w' => ∃ g c r, e = .returned (.tuple #[.slice (some ⟨g, 0, none⟩) n c, .int .i64 0]) ∧ n ≤ c ∧ (w0.heap.size ≤ g ∧ n + r.length = c) ∧ St p w0 w' (.row g (bcs (emF f (prHd port f) (poN f) (prEnd f) h) n ++ r) :: L) := by
  obtain ⟨hpt, h14, hn⟩ := prErr_n h1
  have e1 : h.ty = two f 12 := hm.2.2.1.trans (prHd_ty' _ _)
  rw [poN_eq hf]
  refine Emit_m p w0 w L H _ h f n (poN f) _ hS (fun w hS => hG.keep hp hS) hh hm hf h14 (by omega) ?_ ?_ ?_ (prHd_In hf hpt) (prHd_WOk hf) (okB_WOk hm.2.1 hh)
  · intro h2
    obtain ⟨k1, k2, k3, k4, k5, k6⟩ := pkErr_zero (prErr_ip h1 (by omega))
    have := ihn_eq hf
    omega
  · intro h2
    have := poN_bounds hf h1 (by omega)
    omega
  · intro h2
    obtain ⟨k1, k2, k3, k4, k5, k6⟩ := pkErr_zero (prErr_ip h1 (by omega))
    have : prEnd f = 14 + two f 16 := by unfold prEnd; rw [if_pos (by omega)]
    omega
theorem rdRow {p : Nat → Prop} {w0 w : World} {L : List Ent} {g n : Nat} {f : Nat → Int} {r : List Value} [At L g (bcs f n ++ r)] (hS : St p w0 w L) : RdO w (some ⟨g, 0, none⟩) n f :=
  fun _ => ⟨g, 0, rfl, rdAt (g := g) (n := n) (f := f) (off := 0) (cs := bcs f n ++ r) (fun i hi => by rw [bget2 (f := f) (m := n) (o := 0) (j := i) (r := r) (by omega), Nat.zero_add]) w hS⟩
end Go.Proofs.YtkeonnnhogaggaaGreatDoor
/- fabric.Switch.Put, walked. -/
namespace Go.Proofs.YtkeonnnhogaggaaGreatDoor
open Go.RowKit Go.Sort

structure SwL where
  gT : Nat
  in_ : Int
  out : Int
  wrong : Int
  nought : Int
  ports : Int
def SwL.cells (s : SwL) : List Value := [.pointer (some ⟨s.gT, 0, none⟩), .int .i64 s.in_, .int .i64 s.out, .int .i64 s.wrong, .int .i64 s.nought, .int .i64 s.ports]
/-- A table that can be read. -/
structure TabR (w : World) (gT : Nat) (t : TbL) : Prop where
  cell : w.cell? ⟨gT, 1, none⟩ = some (.slice t.ad t.es.length t.c)
  rg : Rg w t.ad (ensL t.es)
  ok : ∀ x ∈ t.es, RuOk w x.r
/-- May a header go out there? -/
def GoesO (ports port : Int) (f : Nat → Int) (n : Nat) (h : Hd) : Prop := h.port < ports ∧ h.port ≠ port ∧ May (prHd port f) (poN f) (str f n) h
def outF (port : Int) (f : Nat → Int) (n : Nat) (h : Hd) : OutD := ⟨h.port, bl (emF f (prHd port f) (poN f) (prEnd f) h) n⟩
/-- What Put answers, and the switch behind it. -/
structure PutP (sw : SwL) (es : List EnL) (port : Int) (f : Nat → Int) (n : Nat) (code : Int) (os : List OutD) (sw' : SwL) : Prop where
  bad : ¬ (0 ≤ port ∧ port < sw.ports) → code = 1 ∧ os = [] ∧ sw' = sw
  err : 0 ≤ port ∧ port < sw.ports → prErr port f n ≠ 0 → code = prErr port f n ∧ os = [] ∧ sw' = { sw with in_ := sw.in_ + 1, wrong := sw.wrong + 1 }
  ok : 0 ≤ port ∧ port < sw.ports → prErr port f n = 0 → code = 0 ∧ (os.Pairwise fun a b => ocmp a b < 0) ∧ os.length ≤ 64 ∧ (∃ hs, TRunP es (prHd port f) hs ∧ (∀ x ∈ hs, x.Rt) ∧ ∀ o, o ∈ os ↔ ∃ h ∈ hs, GoesO sw.ports port f n h ∧ o = outF port f n h) ∧
    sw' = { sw with in_ := sw.in_ + 1, out := sw.out + os.length, nought := if os = [] then sw.nought + 1 else sw.nought }
structure SwL.Ok (s : SwL) : Prop where
  in_ : 0 ≤ s.in_ ∧ s.in_ ≤ 1000000000
  out : 0 ≤ s.out ∧ s.out ≤ 1000000000
  wrong : 0 ≤ s.wrong ∧ s.wrong ≤ 1000000000
  nought : 0 ≤ s.nought ∧ s.nought ≤ 1000000000
  ports : 1 ≤ s.ports ∧ s.ports ≤ 16
theorem b8s_bl (f : Nat → Int) (n : Nat) : b8s (bl f n) = bcs f n := by unfold b8s bl bcs; rw [List.map_map]; rfl
theorem byb_bl {f : Nat → Int} (hf : Byt f) (n : Nat) : Byb (bl f n) := fun b hb => by
  obtain ⟨i, _, rfl⟩ := List.mem_map.1 hb
  exact hf i
/-- What Emit hands back, whichever it is. -/
theorem Emit_q {p : Nat → Prop} {w0 w : World} {L : List Ent} {h : Hd} {f : Nat → Int} {n : Nat} {port : Int} (hS : St p w0 w L) (hp : ¬ p 1) (hG : GW w0) (hh : h.Rt) (hf : Byt f) (h1 : prErr port f n = 0) :
    Calls Tryz.prog 26 #[packV (prHd port f) (prHd port f) (str f n) (prPorts f) (prEnd f), .agg (hdCells h)] w fun e w' => ∃ (o : Option Addr) (bs : List Int) (c : Nat) (code : Int) (E : List Ent), e = .returned (.tuple #[.slice o bs.length c, .int .i64 code]) ∧
      (code = 0 → May (prHd port f) (poN f) (str f n) h ∧ bs = bl (emF f (prHd port f) (poN f) (prEnd f) h) n) ∧ (code ≠ 0 → ¬ May (prHd port f) (poN f) (str f n) h) ∧ Vec 1 o bs.length c (b8s bs) E ∧ Byb bs ∧ St p w0 w' (E ++ L) := by
  by_cases hm : May (prHd port f) (poN f) (str f n) h
  · refine (Emit_pm hS hp hG hh.isIn hf h1 hm).mono ?_
    rintro e w' ⟨g, c, r, rfl, hc, ⟨_, hrl⟩, hS'⟩
    have hl := bl_len (emF f (prHd port f) (poN f) (prEnd f) h) n
    refine ⟨some ⟨g, 0, none⟩, bl (emF f (prHd port f) (poN f) (prEnd f) h) n, c, 0, [.row g (bcs (emF f (prHd port f) (poN f) (prEnd f) h) n ++ r)], by rw [hl], fun _ => ⟨hm, rfl⟩, fun k => absurd rfl k, ?_, byb_bl (emF_byt hf hh.isIn (okB_WOk hh.ok hh.isIn)) n, hS'⟩
    rw [hl, b8s_bl]
    exact Vec.row (by rw [Nat.mul_one, List.take_append_of_le_length (by rw [bcs_len]; omega), List.take_of_length_le (by rw [bcs_len]; omega)]) (by rw [List.length_append, bcs_len]; omega) hc
  · refine (Emit_x w (prHd port f) (prHd port f) h (str f n) (prPorts f) (prEnd f) hh.isIn (hG.keep hp hS) (by rw [poN_eq hf]; exact hm)).mono ?_
    rintro e w' ⟨rfl, hF⟩
    exact ⟨none, [], 0, 1, [], rfl, fun e => (by cases e), fun _ => hm, Vec.nil 1, fun b hb => (by cases hb), hS.ext hF⟩
theorem uq_map {α β : Type} {f : α → β} {e : β → β → Bool} : ∀ (l : List α) (p : α), (uq (fun a b => e (f a) (f b)) p l).map f = uq e (f p) (l.map f)
  | [], _ => rfl
  | x :: l, p => by
    show (if e (f x) (f p) then uq (fun a b => e (f a) (f b)) x l else x :: uq (fun a b => e (f a) (f b)) x l).map f = if e (f x) (f p) then uq e (f x) (l.map f) else f x :: uq e (f x) (l.map f)
    split
    · exact uq_map l x
    · rw [List.map_cons, uq_map l x]
theorem uniq_map {α β : Type} {f : α → β} {e : β → β → Bool} (l : List α) : (uniq (fun a b => e (f a) (f b)) l).map f = uniq e (l.map f) := by
  cases l with
  | nil => rfl
  | cons x l => show f x :: _ = f x :: _; rw [uq_map]
instance (K : List Ent) : Inhabited { o : OutL // OutOwn K o } := ⟨⟨⟨0, none, 0, []⟩, ⟨[], Vec.nil 1, fun _ h => (by cases h)⟩, fun _ h => (by cases h)⟩⟩
theorem Vec.srcR {s k c : Nat} {ad : Option Addr} {xs : List Value} {E L : List Ent} (hV : Vec s ad k c xs E) (hm : ∀ e ∈ E, e ∈ L) : 0 < xs.length → ∃ b o, ad = some ⟨b, o, none⟩ ∧ ∀ (p : Nat → Prop) (w0 w : World), St p w0 w L → w.rangeAt b o xs := fun hn => by
  rcases hV with ⟨_, _, _, rfl, _⟩ | ⟨g, cs, rfl, rfl, hx, hcl, hk⟩
  · simp at hn
  · refine ⟨g, 0, rfl, fun p w0 w hS j v hj => ?_⟩
    have hR : Row w g cs := hS.holds (.row g cs) (hm _ (List.mem_cons_self ..))
    rw [← hx, List.getElem?_take] at hj
    split at hj
    · rw [Nat.zero_add]; exact hR.cell hj
    · cases hj
structure PuS where
  k : Nat
  os : List OutL
  ad : Option Addr
  c : Nat
  E : List Ent
  K : List Ent
/-- One header more that goes out. -/
theorem goes_more {ports port : Int} {f : Nat → Int} {n k : Nat} {hs : List Hd} {h : Hd} {os : List OutL} {o : OutL} (hh : hs[k]? = some h) (hM : ∀ o, o ∈ os.map OutL.d ↔ ∃ h ∈ hs.take k, GoesO ports port f n h ∧ o = outF port f n h) (hg : GoesO ports port f n h) (ho : o.d = outF port f n h) :
    ∀ u, u ∈ (os ++ [o]).map OutL.d ↔ ∃ h ∈ hs.take (k + 1), GoesO ports port f n h ∧ u = outF port f n h := fun u => by
  rw [List.map_append, List.mem_append, hM u, List.take_add_one, hh, Option.toList_some]
  constructor
  · rintro (⟨x, h1, h2⟩ | h1)
    · exact ⟨x, List.mem_append_left _ h1, h2⟩
    · rw [List.map_cons, List.map_nil, List.mem_singleton, ho] at h1
      exact ⟨h, List.mem_append_right _ (List.mem_singleton.2 rfl), hg, h1⟩
  · rintro ⟨x, h1, h2, h3⟩
    rcases List.mem_append.1 h1 with h1 | h1
    · exact .inl ⟨x, h1, h2, h3⟩
    · rw [List.mem_singleton] at h1
      subst h1
      exact .inr (by rw [List.map_cons, List.map_nil, List.mem_singleton, ho]; exact h3)
theorem goes_no {ports port : Int} {f : Nat → Int} {n k : Nat} {hs : List Hd} {h : Hd} {os : List OutD} (hh : hs[k]? = some h) (hM : ∀ o, o ∈ os ↔ ∃ h ∈ hs.take k, GoesO ports port f n h ∧ o = outF port f n h) (hg : ¬ GoesO ports port f n h) :
    ∀ u, u ∈ os ↔ ∃ h ∈ hs.take (k + 1), GoesO ports port f n h ∧ u = outF port f n h := fun u => by
  rw [hM u, List.take_add_one, hh, Option.toList_some]
  constructor
  · rintro ⟨x, h1, h2⟩
    exact ⟨x, List.mem_append_left _ h1, h2⟩
  · rintro ⟨x, h1, h2, h3⟩
    rcases List.mem_append.1 h1 with h1 | h1
    · exact ⟨x, h1, h2, h3⟩
    · rw [List.mem_singleton] at h1
      subst h1
      exact absurd h2 hg
/-- What is left of the outs, sorted and thinned. -/
theorem outs_of {os ys : List OutL} (hp : ys.Perm os) (ha : ys.Pairwise fun a b => ocmp a.d b.d ≤ 0) : (((uniq (fun a b : OutL => decide (ocmp a.d b.d = 0)) ys).map OutL.d).Pairwise fun a b => ocmp a b < 0) ∧ ∀ o, o ∈ (uniq (fun a b : OutL => decide (ocmp a.d b.d = 0)) ys).map OutL.d ↔ o ∈ os.map OutL.d := by
  have e := uniq_map (f := OutL.d) (e := fun a b => decide (ocmp a b = 0)) ys
  rw [e]
  refine ⟨uniq_strict ocmp_cm (List.pairwise_map.2 ha) fun x _ y _ h k => ?_, fun o => (uniq_mem (fun x _ y _ h => ocmp_same (of_decide_eq_true h)) o).trans (hp.map _).mem_iff⟩
  have : x = y := (ocmp_same k).symm
  subst this
  rw [k] at h
  cases h
set_option maxHeartbeats 2000000 in
theorem Put_c {p : Nat → Prop} {w0 w : World} {L : List Ent} (gS : Nat) (sw : SwL) (t : TbL) (port : Int) (a : Option Addr) (n cap : Nat) (f : Nat → Int) (hS : St p w0 w (.row gS sw.cells :: L)) (hp : ¬ p 1) (hG : GW w0) (hT : ∀ w, St p w0 w L → TabR w sw.gT t) (hR : ∀ w, St p w0 w L → RdO w a n f) (hf : Byt f) (hc : n ≤ cap) (hsw : sw.Ok) (hx : ∀ x ∈ t.es, EnT x) (hlen : t.es.length ≤ 5000) :
    Calls Tryz.prog 20 #[.pointer (some ⟨gS, 0, none⟩), .int .i64 port, .slice a n cap] w fun e w' => ∃ code ad c os E K sw', e = .returned (.tuple #[.slice ad os.length c, .int .i64 code]) ∧ PutP sw t.es port f n code (os.map OutL.d) sw' ∧ Vec 2 ad os.length c (encL OutL.cells os) E ∧ (∀ o ∈ os, OutOwn K o) ∧ St p w0 w' (.row gS sw'.cells :: (E ++ (K ++ L))) := by
  obtain ⟨⟨i1, i2⟩, ⟨u1, u2⟩, ⟨r1, r2⟩, ⟨n1, n2⟩, p1, p2⟩ := hsw
  refine enter Tryz.func20 rfl Tryz.ntmps20 rfl hS ?_
  refine WC.seq <| WC.region <| WL.v (v_assign rfl rfl) rfl <| WL.v (v_assign rfl rfl) rfl <| WL.nt <| WC.seq <| WC.seq <| WC.region <| WL.v (v_move rfl rfl) rfl <| WL.v (v_eql_nil false rfl rfl Tryz.underlying42 rfl) rfl <| WL.v (v_move rfl rfl) rfl <| WL.val (v_move rfl rfl) (.some rfl rfl rfl) rfl rfl <| ?_
  refine WL.test (v_lss rfl rfl rfl) (.some rfl rfl rfl) rfl rfl (fun h19 => ?_) (fun h19 => ?_)
  ·
   refine WL.v (v_pick_f rfl rfl rfl) rfl <| WL.v (v_move rfl rfl) rfl <| ?_
   iterate 6 refine WL.sk rfl ?_
   refine WL.v (v_pick_t rfl rfl rfl) rfl <| WL.nt <| WC.cond_t rfl <| WC.seq <| WC.region <| WL.v (v_assign rfl rfl) rfl <| WL.v (v_assign rfl rfl) rfl <| WL.nt <| WC.ret <| WE.then_ret <| WE.ret2 (P := Tryz.prog) (.inl rfl) Tryz.results20 rfl rfl <| ?_
   exact fun w' h => ⟨1, none, 0, [], [], [], sw, rfl, ⟨fun _ => ⟨rfl, rfl, rfl⟩, fun k => by omega, fun k => by omega⟩, Vec.nil 2, fun o h => (by cases h), h⟩
  ·
   refine WL.v (v_pick_f rfl rfl rfl) rfl <| WL.v (v_move rfl rfl) rfl <| WL.val (v_move rfl rfl) (.some rfl rfl rfl) rfl rfl <| WL.val (v_move rfl rfl) (.some rfl rfl rfl) rfl rfl <| WL.val (v_nilCheck rfl rfl) (.some rfl rfl rfl) rfl rfl <| WL.val (v_fieldAddr0 rfl rfl fld_49_2) (.some rfl rfl rfl) rfl rfl <| WL.val (v_load1 rfl rfl one_3 (cellAt (v := .int .i64 sw.ports) rfl)) (.some rfl rfl rfl) rfl rfl <| ?_
   refine WL.test (v_geq rfl rfl rfl) (.some rfl rfl rfl) rfl rfl (fun h27 => ?_) (fun h27 => ?_)
   ·
    refine WL.v (v_pick_f rfl rfl rfl) rfl <| WL.nt <| WC.cond_t rfl <| WC.seq <| WC.region <| WL.v (v_assign rfl rfl) rfl <| WL.v (v_assign rfl rfl) rfl <| WL.nt <| WC.ret <| WE.then_ret <| WE.ret2 (P := Tryz.prog) (.inl rfl) Tryz.results20 rfl rfl <| ?_
    exact fun w' h => ⟨1, none, 0, [], [], [], sw, rfl, ⟨fun _ => ⟨rfl, rfl, rfl⟩, fun k => by omega, fun k => by omega⟩, Vec.nil 2, fun o h => (by cases h), h⟩
   ·
    refine WL.v (v_pick_f rfl rfl rfl) rfl <| WL.nt <| WC.cond_f rfl <| WC.skip <| WE.then_n <| WC.seq <| WC.region <| WL.v (v_move rfl rfl) rfl <| WL.v (v_nilCheck rfl rfl) rfl <| WL.v (v_fieldAddr0 rfl rfl fld_49_1) rfl <| WL.v (v_fieldAddr rfl rfl fld_47_0) rfl <| WL.v (v_load1 rfl rfl one_3 (cellAt (v := .int .i64 sw.in_) rfl)) rfl <| ?_
    refine WL.v (v_add rfl rfl rfl (w_i64 (by omega) (by omega))) rfl ?_
    refine WL.v (v_nilCheck rfl rfl) rfl <| WL.v (v_fieldAddr0 rfl rfl fld_49_1) rfl <| WL.v (v_fieldAddr rfl rfl fld_47_0) rfl <| WL.store1 rfl rfl rfl rfl one_3 (Nat.le_of_ble_eq_true rfl) (.none rfl) rfl <| WL.as (L' := .row gS (SwL.cells { sw with in_ := sw.in_ + 1 }) :: L) rfl <| WL.nt <| WC.seq <| WC.region <| WL.v (v_move rfl rfl) rfl <| WL.v (v_move rfl rfl) rfl <| WL.call rfl rfl ck_21 (.none rfl) rfl rfl <| ?_
    intro w1 hS
    refine (Parse_c w1 port a n cap f (hR w1 (hS.sub (.cons _ (.refl _)))) hf hc).mono ?_
    rintro e w' ⟨V, rfl, hV, hF⟩
    obtain ⟨H1, W1, rw1, po1, en1, rfl, hk⟩ : ∃ H1 W1 rw1 po1 en1, V = packV H1 W1 rw1 po1 en1 ∧ (prErr port f n = 0 → H1 = prHd port f ∧ W1 = prHd port f ∧ rw1 = str f n ∧ po1 = prPorts f ∧ en1 = prEnd f) := (by
      rcases hV with ⟨h1, h2⟩ | ⟨h1, h2⟩
      · exact ⟨_, _, _, _, _, h2, fun k => absurd k h1⟩
      · exact ⟨_, _, _, _, _, h2, fun _ => ⟨rfl, rfl, rfl, rfl, rfl⟩⟩)
    refine ⟨_, _, rfl, hS.ext hF, ?_⟩
    refine WL.v (v_move rfl rfl) rfl <| WL.v (v_extract rfl rfl rfl) rfl <| WL.v (v_extract rfl rfl rfl) rfl <| WL.alloc rfl zero_61 (.none rfl) rfl rfl <| ?_
    intro g8 hg8
    refine WL.storeW rfl rfl rfl rfl many_61 rfl rfl (.none rfl) rfl <| WL.v (v_assign rfl rfl) rfl <| WL.nt <| WC.seq <| WC.seq <| WC.region <| WL.v (v_move rfl rfl) rfl <| ?_
    refine WL.test (v_neq rfl rfl rfl) (.none rfl) rfl rfl (fun h45 => ?_) (fun h45 => ?_)
    ·
     refine WL.nt <| WC.cond_t rfl <| WC.seq <| WC.region <| WL.v (v_move rfl rfl) rfl <| WL.v (v_nilCheck rfl rfl) rfl <| WL.v (v_fieldAddr0 rfl rfl fld_49_1) rfl <| WL.v (v_fieldAddr rfl rfl fld_47_2) rfl <| WL.v (v_load1 rfl rfl one_3 (cellAt (v := .int .i64 sw.wrong) rfl)) rfl <| ?_
     refine WL.v (v_add rfl rfl rfl (w_i64 (by omega) (by omega))) rfl ?_
     refine WL.v (v_nilCheck rfl rfl) rfl <| WL.v (v_fieldAddr0 rfl rfl fld_49_1) rfl <| WL.v (v_fieldAddr rfl rfl fld_47_2) rfl <| WL.store1 rfl rfl rfl rfl one_3 (Nat.le_of_ble_eq_true rfl) (.none rfl) rfl <| WL.as (L' := .row g8 (pkL H1 W1 rw1 po1 en1) :: .row gS (SwL.cells { sw with in_ := sw.in_ + 1, wrong := sw.wrong + 1 }) :: L) rfl <| WL.nt <| WC.seq <| WC.region <| WL.v (v_move rfl rfl) rfl <| WL.v (v_assign rfl rfl) rfl <| WL.v (v_assign rfl rfl) rfl <| WL.nt <| WC.ret <| WE.then_ret <| ?_
     refine WE.ret2 (P := Tryz.prog) (.inl rfl) Tryz.results20 rfl rfl ?_
     exact fun w' h => ⟨prErr port f n, none, 0, [], [], [], { sw with in_ := sw.in_ + 1, wrong := sw.wrong + 1 }, rfl, ⟨fun k => absurd (by omega) k, fun _ _ => ⟨rfl, rfl, rfl⟩, fun _ k => absurd k h45⟩, Vec.nil 2, fun o h => (by cases h), h.sub (.cons _ (.refl _))⟩
    ·
     refine WL.nt <| WC.cond_f rfl <| WC.skip <| WE.then_n <| WC.seq <| WC.region <| ?_
     have hE : prErr port f n = 0 := Decidable.of_not_not h45
     obtain ⟨rfl, rfl, rfl, rfl, rfl⟩ := hk hE
     obtain ⟨hq, h14n, hn15⟩ := prErr_n hE
     have hHr : (prHd port f).Rt := ⟨prHd_In hf hq, prHd_okB hf hq⟩
     refine WL.v (v_assign rfl rfl) rfl <| WL.nt <| WC.seq <| WC.seq <| WC.held (.row g8 (pkL (prHd port f) (prHd port f) (str f n) (prPorts f) (prEnd f)) :: .row gS (SwL.cells { sw with in_ := sw.in_ + 1 }) :: L) mixed <| ?_
     refine WRH.first (g := 2) [0, 1, 2, 3, 4, 5, 8] (by kernel_rfl) (by kernel_rfl) (fun w hS => hS.sub (by repeat (first | exact List.Sublist.refl _ | exact List.nil_sublist _ | refine List.Sublist.cons_cons _ ?_ | refine List.Sublist.cons _ ?_ | refine List.sublist_append_of_sublist_right ?_))) ?_
     refine WH.val (v_move rfl rfl) (.none rfl) rfl rfl <| WH.val (v_nilCheck rfl rfl) (.none rfl) rfl rfl <| WH.val (v_fieldAddr0 rfl rfl fld_49_0) (.none rfl) rfl rfl <| WH.val (v_load1 rfl rfl one_45 (cellAt (v := .pointer (some ⟨sw.gT, 0, none⟩)) rfl)) (.none rfl) rfl rfl <| WH.val (v_fieldAddr0 rfl rfl fld_61_0) (.none rfl) rfl rfl <| WH.val (v_loadN (cs := hdL (prHd port f)) rfl rfl many_59 rfl (segAt (m := 19) (new := hdL (prHd port f)) rfl)) (.none rfl) rfl rfl <| WH.val (v_move rfl rfl) (.none rfl) rfl rfl <| WH.nil <| ?_
     refine WRH.one (g := 1) 6 (by kernel_rfl) ?_
     refine WL.call rfl rfl ck_22 (.none rfl) rfl rfl ?_
     intro w1 hS
     have hTR := hT w1 (hS.sub (.cons _ (.cons _ (.refl _))))
     refine (TRun_c w1 sw.gT t (prHd port f) hTR.cell hx hHr (hG.keep hp hS) (by omega) hTR.rg hTR.ok).mono ?_
     rintro e w' ⟨adh, ch, hs, EH, rfl, hrun, hrt, hhl, hVh, hS'⟩
     refine ⟨_, _, rfl, hS.join hS', ?_⟩
     refine WL.nilH (fun w hS => hS.sub (by repeat (first | exact List.Sublist.refl _ | exact List.nil_sublist _ | refine List.Sublist.cons_cons _ ?_ | refine List.Sublist.cons _ ?_ | refine List.sublist_append_of_sublist_right ?_))) ?_
     refine WRH.first (g := 0) [7] (by kernel_rfl) (by kernel_rfl) (fun w hS => hS.sub (by repeat (first | exact List.Sublist.refl _ | exact List.nil_sublist _ | refine List.Sublist.cons_cons _ ?_ | refine List.Sublist.cons _ ?_ | refine List.sublist_append_of_sublist_right ?_))) ?_
     refine WH.val (v_len_slice rfl rfl Tryz.underlying64) (.none rfl) rfl rfl <| WH.nil <| ?_
     refine WRH.done (by kernel_rfl) ?_
     refine WE.then_n <| WC.block <| ?_
     refine WC.loop (fun x : PuS => [(64, .int .i64 x.k), (63, .int .i64 hs.length), (62, .slice adh hs.length ch), (10, .slice x.ad x.os.length x.c), (8, .pointer (some ⟨g8, 0, none⟩)), (1, .int .i64 port), (0, .pointer (some ⟨gS, 0, none⟩))]) (fun x => x.E ++ (x.K ++ (EH ++ (.row g8 (pkL (prHd port f) (prHd port f) (str f n) (prPorts f) (prEnd f)) :: .row gS (SwL.cells { sw with in_ := sw.in_ + 1 }) :: L)))) (fun x => x.k ≤ hs.length ∧ x.os.length ≤ x.k ∧ Vec 2 x.ad x.os.length x.c (encL OutL.cells x.os) x.E ∧ (∀ o ∈ x.os, OutOwn x.K o) ∧ (∀ o, o ∈ x.os.map OutL.d ↔ ∃ h ∈ hs.take x.k, GoesO sw.ports port f n h ∧ o = outF port f n h)) (fun x => hs.length - x.k) ⟨0, [], none, 0, [], []⟩ ⟨Nat.zero_le _, Nat.zero_le _, Vec.nil 2, fun o h => (by cases h), fun o => by simp⟩ (.cons rfl (.cons rfl (.cons rfl (.cons rfl (.cons rfl (.cons rfl (.cons rfl .nil))))))) (.refl _) ?_
     rintro ⟨k, os, ad, c1, E, K⟩ ⟨hk, hl, hV, hO, hM⟩
     dsimp only at hk hl hV hO hM
     dsimp only
     refine WC.seq <| WC.region <| ?_
     refine WL.test (v_lss rfl rfl rfl) (.none rfl) rfl rfl (fun h65 => ?_) (fun h65 => ?_)
     ·
      refine WL.nt <| WC.seq <| WC.cond_t rfl <| WC.skip <| WE.then_n <| WC.seq <| WC.block <| WC.seq <| WC.region <| ?_
      obtain ⟨h, hh⟩ : ∃ x, hs[k]? = some x := ⟨hs[k]'(by omega), List.getElem?_eq_getElem _⟩
      obtain ⟨b1, o1, ea1, q1⟩ := hVh.srcR (L := E ++ (K ++ (EH ++ (.row g8 (pkL (prHd port f) (prHd port f) (str f n) (prPorts f) (prEnd f)) :: .row gS (SwL.cells { sw with in_ := sw.in_ + 1 }) :: L)))) (fun e he => by simp [he]) (by rw [encL_len hdL_len]; omega)
      have hhR := hrt h (List.mem_of_getElem? hh)
      have hport := hhR.nums.1
      refine WL.v ((v_indexAddr (b := b1) (off := o1) (lo := k) rfl (by show some (Value.slice adh _ _) = _; rw [ea1]) rfl Tryz.underlying64 sz_59 rfl (by omega))) rfl ?_
      refine WL.v (v_loadN (cs := hdL h) rfl rfl many_59 rfl (fun w' hS' => Rg.seg hdL_len (q1 _ _ w' hS') hh)) rfl <| WL.alloc rfl zero_59 (.none rfl) rfl rfl <| ?_
      intro g12 hg12
      refine WL.storeW rfl rfl rfl rfl many_59 rfl rfl (.none rfl) rfl <| WL.as (L' := .row g12 (hdL h) :: (E ++ (K ++ (EH ++ (.row g8 (pkL (prHd port f) (prHd port f) (str f n) (prPorts f) (prEnd f)) :: .row gS (SwL.cells { sw with in_ := sw.in_ + 1 }) :: L))))) rfl <| WL.nt <| WC.seq <| WC.seq <| ?_
      refine WC.quiet mixed (by kernel_rfl) ?_
      refine WQ.val (v_fieldAddr0 rfl rfl fld_59_0) (.none rfl) rfl rfl <| WQ.val (v_load1 rfl rfl one_3 (cellAt (v := .int .i64 h.port) rfl)) (.none rfl) rfl rfl <| ?_
      refine WQ.val ((v_lss rfl rfl rfl).f (by omega)) (.none rfl) rfl rfl ?_
      refine WQ.val (v_move rfl rfl) (.none rfl) rfl rfl <| WQ.val (v_fieldAddr0 rfl rfl fld_59_0) (.some rfl rfl rfl) rfl rfl <| WQ.val (v_load1 rfl rfl one_3 (cellAt (v := .int .i64 h.port) rfl)) (.some rfl rfl rfl) rfl rfl <| WQ.val (v_move rfl rfl) (.some rfl rfl rfl) rfl rfl <| WQ.val (v_nilCheck rfl rfl) (.some rfl rfl rfl) rfl rfl <| WQ.val (v_fieldAddr0 rfl rfl fld_49_2) (.some rfl rfl rfl) rfl rfl <| WQ.val (v_load1 rfl rfl one_3 (cellAt (v := .int .i64 sw.ports) rfl)) (.some rfl rfl rfl) rfl rfl <| ?_
      refine WQ.test (v_geq rfl rfl rfl) (.some rfl rfl rfl) rfl rfl (fun h78 => ?_) (fun h78 => ?_)
      ·
       refine WQ.val (v_pick_f rfl rfl rfl) (.none rfl) rfl rfl <| WQ.val (v_move rfl rfl) (.none rfl) rfl rfl <| ?_
       iterate 4 refine WQ.skip rfl rfl rfl rfl rfl rfl ?_
       refine WQ.val (v_pick_t rfl rfl rfl) (.none rfl) rfl rfl <| WQ.nil <| WE.then_n <| WC.cond_t rfl <| WC.exit <| WE.then_exit <| WE.block_hit <| WE.then_n <| WC.region <| ?_
       refine WL.v (v_add rfl rfl rfl (w_i64 (by omega) (by omega))) rfl ?_
       refine WL.v (v_move rfl rfl) rfl <| WL.nil <| ?_
       exact WE.next ⟨k + 1, os, ad, c1, E, K⟩ (by dsimp only; omega) ⟨by dsimp only; omega, by dsimp only; omega, hV, hO, goes_no hh hM fun g => by have := g.1; omega⟩ (.int rfl (by dsimp only; omega) (.cons rfl (.cons rfl (.cons rfl (.cons rfl (.cons rfl (.cons rfl .nil))))))) (.cons _ (.refl _))
      ·
       refine WQ.val (v_pick_f rfl rfl rfl) (.none rfl) rfl rfl <| WQ.val (v_move rfl rfl) (.none rfl) rfl rfl <| WQ.val (v_fieldAddr0 rfl rfl fld_59_0) (.some rfl rfl rfl) rfl rfl <| WQ.val (v_load1 rfl rfl one_3 (cellAt (v := .int .i64 h.port) rfl)) (.some rfl rfl rfl) rfl rfl <| WQ.val (v_move rfl rfl) (.some rfl rfl rfl) rfl rfl <| ?_
       refine WQ.test (v_eql rfl rfl rfl) (.some rfl rfl rfl) rfl rfl (fun h84 => ?_) (fun h84 => ?_)
       ·
        refine WQ.val (v_pick_f rfl rfl rfl) (.none rfl) rfl rfl <| WQ.nil <| WE.then_n <| WC.cond_t rfl <| WC.exit <| WE.then_exit <| WE.block_hit <| WE.then_n <| WC.region <| ?_
        refine WL.v (v_add rfl rfl rfl (w_i64 (by omega) (by omega))) rfl ?_
        refine WL.v (v_move rfl rfl) rfl <| WL.nil <| ?_
        exact WE.next ⟨k + 1, os, ad, c1, E, K⟩ (by dsimp only; omega) ⟨by dsimp only; omega, by dsimp only; omega, hV, hO, goes_no hh hM fun g => absurd h84 g.2.1⟩ (.int rfl (by dsimp only; omega) (.cons rfl (.cons rfl (.cons rfl (.cons rfl (.cons rfl (.cons rfl .nil))))))) (.cons _ (.refl _))
       ·
        refine WQ.val (v_pick_f rfl rfl rfl) (.none rfl) rfl rfl <| WQ.nil <| WE.then_n <| WC.cond_f rfl <| WC.skip <| WE.then_n <| WC.seq <| WC.region <| WL.v (v_loadN rfl rfl many_61 rfl allAt) rfl <| WL.v (v_loadN rfl rfl many_59 rfl allAt) rfl <| WL.call rfl rfl ck_26 (.none rfl) rfl rfl <| ?_
        intro w1 hS
        refine (Emit_q hS hp hG hhR hf hE).mono ?_
        rintro e w' ⟨o, bs, c2, code, E2, rfl, hc0, hc1, hV2, hb2, hS'⟩
        refine ⟨_, _, rfl, hS', ?_⟩
        refine WL.v (v_move rfl rfl) rfl <| WL.v (v_extract rfl rfl rfl) rfl <| WL.v (v_extract rfl rfl rfl) rfl <| WL.v (v_assign rfl rfl) rfl <| WL.v (v_assign rfl rfl) rfl <| WL.nt <| WC.seq <| WC.region <| WL.v (v_move rfl rfl) rfl <| ?_
        refine WL.test (v_eql rfl rfl rfl) (.none rfl) rfl rfl (fun h93 => ?_) (fun h93 => ?_)
        ·
         refine WL.nt <| WC.cond_t rfl <| WC.region <| WL.v (v_move rfl rfl) rfl <| WL.v (v_fieldAddr0 rfl rfl fld_59_0) rfl <| WL.v (v_load1 rfl rfl one_3 (cellAt (v := .int .i64 h.port) rfl)) rfl <| WL.v (v_move rfl rfl) rfl <| WL.v (v_build rfl rfl zero_67 plc_67 rfl) rfl <| ?_
         refine WL.buildSlice rfl rfl Tryz.underlying51 sz_67 zero_67 rfl (by decide) rfl (.none rfl) rfl rfl ?_
         intro g99 hg99
         refine WL.as (L' := .row g99 (OutL.cells ⟨h.port, o, c2, bs⟩) :: (E2 ++ (.row g12 (hdL h) :: (E ++ (K ++ (EH ++ (.row g8 (pkL (prHd port f) (prHd port f) (str f n) (prPorts f) (prEnd f)) :: .row gS (SwL.cells { sw with in_ := sw.in_ + 1 }) :: L))))))) rfl <| WL.to (L' := E ++ (.row g99 (OutL.cells ⟨h.port, o, c2, bs⟩) :: ((E2 ++ K) ++ (EH ++ (.row g8 (pkL (prHd port f) (prHd port f) (str f n) (prPorts f) (prEnd f)) :: .row gS (SwL.cells { sw with in_ := sw.in_ + 1 }) :: L))))) (fun w hS => hS.dropX [.row g12 (hdL h)]) <| ?_
         refine WL.appendL rfl rfl rfl Tryz.underlying51 Tryz.underlying51 sz_67 by_67 zero_67 rfl rfl hV (new := OutL.cells ⟨h.port, o, c2, bs⟩) (fun _ => ⟨g99, 0, rfl, fun w hS => allAt (g := g99) w hS⟩) rfl rfl (by omega) (.none rfl) rfl rfl ?_
         intro ad100 c100 E100 hV100 hr100
         refine WL.v (v_assign rfl rfl) rfl <| WL.nil <| WE.block_n <| WE.then_n <| WC.region <| ?_
         refine WL.v (v_add rfl rfl rfl (w_i64 (by omega) (by omega))) rfl ?_
         refine WL.v (v_move rfl rfl) rfl <| WL.nil <| ?_
         exact WE.next ⟨k + 1, os ++ [⟨h.port, o, c2, bs⟩], ad100, c100, E100, E2 ++ K⟩ (by dsimp only; omega) ⟨by dsimp only; omega, by dsimp only; rw [List.length_append]; show os.length + 1 ≤ _; omega, by dsimp only; rw [List.length_append, encL_snoc]; exact hV100, fun u hu => (by
         rcases List.mem_append.1 hu with hu | hu
         · exact (hO u hu).sub fun x hx => List.mem_append_right _ hx
         · rw [List.mem_singleton] at hu
           subst hu
           exact ⟨⟨E2, hV2, fun x hx => List.mem_append_left _ hx⟩, hb2⟩), goes_more hh hM ⟨by omega, h84, (hc0 h93).1⟩ (by show OutD.mk _ _ = OutD.mk _ _; rw [(hc0 h93).2])⟩ (.int rfl (by dsimp only; omega) (.cons rfl (.cons rfl (.eq rfl (by dsimp only; rw [List.length_append]; rfl) (.cons rfl (.cons rfl (.cons rfl .nil))))))) (List.Sublist.append_left (.cons _ (.refl _)) _)
        ·
         refine WL.nt <| WC.cond_f rfl <| WC.skip <| WE.block_n <| WE.then_n <| WC.region <| ?_
         refine WL.v (v_add rfl rfl rfl (w_i64 (by omega) (by omega))) rfl ?_
         refine WL.v (v_move rfl rfl) rfl <| WL.nil <| ?_
         exact WE.next ⟨k + 1, os, ad, c1, E, K⟩ (by dsimp only; omega) ⟨by dsimp only; omega, by dsimp only; omega, hV, hO, goes_no hh hM fun g => absurd g.2.2 (hc1 h93)⟩ (.int rfl (by dsimp only; omega) (.cons rfl (.cons rfl (.cons rfl (.cons rfl (.cons rfl (.cons rfl .nil))))))) (List.sublist_append_of_sublist_right (.cons _ (.refl _)))
     ·
      refine WL.nt <| WC.seq <| WC.cond_f rfl <| WC.exit <| WE.then_exit <| WE.then_exit <| WE.block_hit <| WE.then_n <| WC.seq <| WC.region <| ?_
      obtain rfl : k = hs.length := (by omega)
      rw [List.take_length] at hM
      refine WL.v (v_move rfl rfl) rfl <| WL.call rfl rfl ck_53 (.none rfl) rfl rfl <| ?_
      intro w1 hS
      refine (gsort_q (P := Tryz.prog) (q := OutOwn K) (enc := OutL.cells) lays53 (by omega) Tryz.isAgg67 Tryz.sizeOf67 OutL.len OutL.one (fun a b => ocmp a.d b.d) (ocmp_cm.on OutL.d) 54 #[] ck_54 p w0 w1 _ E ad c1 os hO (fun gb cs hS1 w' hF x y hx hy => OCmp_c w' x y hx.2 hy.2 (hx.rg fun e he => hS1.keep_tail hF e (by simp [he])) (hy.rg fun e he => hS1.keep_tail hF e (by simp [he]))) hV hS (by omega)).mono ?_
      rintro e w' ⟨rfl, ys, E2, hp2, ha2, hV2, hS'⟩
      refine ⟨_, _, rfl, hS', ?_⟩
      refine WL.nt <| WC.seq <| WC.region <| WL.v (v_move rfl rfl) rfl <| WL.call rfl rfl ck_55 (.none rfl) rfl rfl <| ?_
      intro w1 hS
      rw [← hp2.length_eq] at hV2
      rw [← hp2.length_eq]
      refine (CompactFOut_c p w0 w1 _ E2 ad c1 ys (fun a b => decide (ocmp a.d b.d = 0)) (fun gb cs w hS1 x hx y hy => OEq_c w x y (hO x (hp2.mem_iff.1 hx)).2 (hO y (hp2.mem_iff.1 hy)).2 ((hO x (hp2.mem_iff.1 hx)).rg fun e he => hS1.holds e (by simp [he])) ((hO y (hp2.mem_iff.1 hy)).rg fun e he => hS1.holds e (by simp [he]))) hV2 hS (by rw [hp2.length_eq]; omega)).mono ?_
      rintro e w' ⟨E3, rfl, hV3, hS'⟩
      have hul := uniq_len (eq := fun a b : OutL => decide (ocmp a.d b.d = 0)) ys
      rw [hp2.length_eq] at hul
      obtain ⟨hstr, hmem⟩ := outs_of hp2 ha2
      have hown : ∀ o ∈ uniq (fun a b : OutL => decide (ocmp a.d b.d = 0)) ys, OutOwn K o := fun o ho => hO o (hp2.mem_iff.1 ((uniq_sub ys).subset ho))
      refine ⟨_, _, rfl, hS', ?_⟩
      generalize uniq (fun a b : OutL => decide (ocmp a.d b.d = 0)) ys = zs at hV3 hul hstr hmem hown ⊢
      have hfin : prErr port f n = 0 → (0 : Int) = 0 ∧ ((zs.map OutL.d).Pairwise fun a b => ocmp a b < 0) ∧ (zs.map OutL.d).length ≤ 64 ∧ (∃ hs, TRunP t.es (prHd port f) hs ∧ (∀ x ∈ hs, x.Rt) ∧ ∀ o, o ∈ zs.map OutL.d ↔ ∃ h ∈ hs, GoesO sw.ports port f n h ∧ o = outF port f n h) := fun _ => ⟨rfl, hstr, by rw [List.length_map]; omega, hs, hrun, hrt, fun o => (hmem o).trans (hM o)⟩
      refine WL.v (v_assign rfl rfl) rfl <| WL.nt <| WC.seq <| WC.region <| WL.v (v_move rfl rfl) rfl <| WL.v (v_nilCheck rfl rfl) rfl <| WL.v (v_fieldAddr0 rfl rfl fld_49_1) rfl <| WL.v (v_fieldAddr rfl rfl fld_47_1) rfl <| WL.v (v_load1 rfl rfl one_3 (cellAt (v := .int .i64 sw.out) rfl)) rfl <| WL.v (v_move rfl rfl) rfl <| WL.v (v_len_slice rfl rfl Tryz.underlying51) rfl <| ?_
      refine WL.v (v_add rfl rfl rfl (w_i64 (by omega) (by omega))) rfl ?_
      refine WL.v (v_nilCheck rfl rfl) rfl <| WL.v (v_fieldAddr0 rfl rfl fld_49_1) rfl <| WL.v (v_fieldAddr rfl rfl fld_47_1) rfl <| WL.store1 rfl rfl rfl rfl one_3 (Nat.le_of_ble_eq_true rfl) (.none rfl) rfl <| WL.as (L' := E3 ++ (K ++ (EH ++ (.row g8 (pkL (prHd port f) (prHd port f) (str f n) (prPorts f) (prEnd f)) :: .row gS (SwL.cells { sw with in_ := sw.in_ + 1, out := sw.out + zs.length }) :: L)))) rfl <| WL.nt <| WC.seq <| WC.seq <| WC.region <| WL.v (v_move rfl rfl) rfl <| WL.v (v_len_slice rfl rfl Tryz.underlying51) rfl <| ?_
      refine WL.test (v_eql rfl rfl rfl) (.none rfl) rfl rfl (fun h119 => ?_) (fun h119 => ?_)
      ·
       refine WL.nt <| WC.cond_t rfl <| WC.region <| WL.v (v_move rfl rfl) rfl <| WL.v (v_nilCheck rfl rfl) rfl <| WL.v (v_fieldAddr0 rfl rfl fld_49_1) rfl <| WL.v (v_fieldAddr rfl rfl fld_47_3) rfl <| WL.v (v_load1 rfl rfl one_3 (cellAt (v := .int .i64 sw.nought) rfl)) rfl <| ?_
       refine WL.v (v_add rfl rfl rfl (w_i64 (by omega) (by omega))) rfl ?_
       refine WL.v (v_nilCheck rfl rfl) rfl <| WL.v (v_fieldAddr0 rfl rfl fld_49_1) rfl <| WL.v (v_fieldAddr rfl rfl fld_47_3) rfl <| WL.store1 rfl rfl rfl rfl one_3 (Nat.le_of_ble_eq_true rfl) (.none rfl) rfl <| WL.as (L' := E3 ++ (K ++ (EH ++ (.row g8 (pkL (prHd port f) (prHd port f) (str f n) (prPorts f) (prEnd f)) :: .row gS (SwL.cells { sw with in_ := sw.in_ + 1, out := sw.out + zs.length, nought := sw.nought + 1 }) :: L)))) rfl <| WL.nt <| WC.seq <| WC.region <| WL.v (v_move rfl rfl) rfl <| WL.v (v_assign rfl rfl) rfl <| WL.v (v_assign rfl rfl) rfl <| WL.nt <| WC.ret <| WE.ret2 (P := Tryz.prog) (.inl rfl) Tryz.results20 rfl rfl <| ?_
       exact fun w' h' => ⟨0, ad, c1, zs, E3, K, { sw with in_ := sw.in_ + 1, out := sw.out + zs.length, nought := sw.nought + 1 }, rfl, ⟨fun k => absurd (by omega) k, fun _ k => absurd hE k, fun _ k => ⟨rfl, (hfin k).2.1, (hfin k).2.2.1, (hfin k).2.2.2, by rw [List.length_map, if_pos (by rw [List.map_eq_nil_iff]; exact List.length_eq_zero_iff.1 (by omega))]⟩⟩, hV3, hown, h'.dropX (EH ++ [.row g8 (pkL (prHd port f) (prHd port f) (str f n) (prPorts f) (prEnd f))])⟩
      ·
       refine WL.nt <| WC.cond_f rfl <| WC.skip <| WE.then_n <| WC.seq <| WC.region <| WL.v (v_move rfl rfl) rfl <| WL.v (v_assign rfl rfl) rfl <| WL.v (v_assign rfl rfl) rfl <| WL.nt <| WC.ret <| WE.ret2 (P := Tryz.prog) (.inl rfl) Tryz.results20 rfl rfl <| ?_
       exact fun w' h' => ⟨0, ad, c1, zs, E3, K, { sw with in_ := sw.in_ + 1, out := sw.out + zs.length }, rfl, ⟨fun k => absurd (by omega) k, fun _ k => absurd hE k, fun _ k => ⟨rfl, (hfin k).2.1, (hfin k).2.2.1, (hfin k).2.2.2, by rw [List.length_map, if_neg (fun e => h119 (by rw [List.map_eq_nil_iff] at e; rw [e]; rfl))]⟩⟩, hV3, hown, h'.dropX (EH ++ [.row g8 (pkL (prHd port f) (prHd port f) (str f n) (prPorts f) (prEnd f))])⟩
end Go.Proofs.YtkeonnnhogaggaaGreatDoor
/- fabric.New; the document's example of layer 20. -/
namespace Go.Proofs.YtkeonnnhogaggaaGreatDoor
open Go.RowKit Go.Sort

theorem FNew_c (w : World) (ports n : Int) (hp : 1 ≤ ports ∧ ports ≤ 16) (hn : 0 ≤ n ∧ n ≤ 4096) :
    Calls Tryz.prog 18 #[.int .i64 ports, .int .i64 n] w fun e w' => ∃ gS gT, e = .returned (.tuple #[.pointer (some ⟨gS, 0, none⟩), .int .i64 0]) ∧ St (fun _ => False) w w' [.row gS (SwL.cells ⟨gT, 0, 0, 0, 0, ports⟩), .row gT (TbL.cells ⟨n, none, 0, []⟩)] := by
  refine enter Tryz.func18 rfl Tryz.ntmps18 rfl (St.start (fun _ => False) w) ?_
  refine WC.seq <| WC.region <| WL.v (v_assign rfl rfl) rfl <| WL.v (v_assign rfl rfl) rfl <| WL.nt <| WC.seq <| WC.seq <| WC.region <| WL.v (v_move rfl rfl) rfl <| ?_
  refine WL.v ((v_lss rfl rfl rfl).f (by omega)) rfl ?_
  refine WL.v (v_move rfl rfl) rfl <| WL.val (v_move rfl rfl) (.some rfl rfl rfl) rfl rfl <| ?_
  refine WL.val ((v_gtr rfl rfl rfl).f (by omega)) (.some rfl rfl rfl) rfl rfl ?_
  refine WL.v (v_pick_f rfl rfl rfl) rfl <| WL.nt <| WC.cond_f rfl <| WC.skip <| WE.then_n <| WC.seq <| WC.region <| WL.v (v_move rfl rfl) rfl <| WL.call rfl rfl ck_46 (.none rfl) rfl rfl <| ?_
  intro w1 hS
  refine (TNew_c w1 n hn).mono ?_
  rintro e w' ⟨gT, rfl, hS'⟩
  refine ⟨_, _, rfl, hS.join hS', ?_⟩
  refine WL.v (v_move rfl rfl) rfl <| WL.v (v_extract rfl rfl rfl) rfl <| WL.v (v_extract rfl rfl rfl) rfl <| WL.v (v_assign rfl rfl) rfl <| WL.v (v_assign rfl rfl) rfl <| WL.nt <| WC.seq <| WC.seq <| WC.region <| WL.v (v_move rfl rfl) rfl <| ?_
  refine WL.v ((v_neq rfl rfl rfl).f (by omega)) rfl ?_
  refine WL.nt <| WC.cond_f rfl <| WC.skip <| WE.then_n <| WC.seq <| WC.region <| WL.v (v_move rfl rfl) rfl <| WL.v (v_move rfl rfl) rfl <| WL.v (v_build rfl rfl zero_49 plc_49 rfl) rfl <| WL.box rfl rfl rfl (.none rfl) rfl rfl <| ?_
  intro g25 hg25
  refine WL.v (v_assign rfl rfl) rfl <| WL.v (v_assign rfl rfl) rfl <| WL.nt <| WC.ret <| WE.ret2 (P := Tryz.prog) (.inl rfl) Tryz.results18 rfl rfl <| ?_
  exact fun w' h => ⟨_, gT, rfl, h⟩
def ex20 (g : Nat) : EnL := ⟨0, 0, ⟨mt0, some ⟨g, 0, none⟩, 1, [Ac.one 0 1]⟩⟩
def d20 : EnD := ⟨0, 0, ⟨mt0, [Ac.one 0 1]⟩⟩
theorem d20_in : d20.In := ⟨by decide, by decide, ⟨fun _ => ⟨Int.le_refl _, (by decide : (0 : Int) ≤ 18446744073709551615)⟩, fun _ => ⟨Int.le_refl _, (by decide : (0 : Int) ≤ 18446744073709551615)⟩⟩, fun _ _ => ⟨rfl, rfl⟩, fun a ha => by
  obtain rfl := List.mem_singleton.1 ha
  exact ⟨⟨by decide, fun k => by show 0 ≤ (if k = 0 then (1 : Int) else 0) ∧ (if k = 0 then (1 : Int) else 0) ≤ _; split <;> decide⟩, fun k hk => if_neg (by omega)⟩⟩
theorem ex20_table {es : List EnL} {code : Int} (h : ChangeP 5 [] [] [d20] code (es.map EnL.d)) : code = 0 ∧ ∃ a, es = [a] ∧ a.d = d20 := by
  have hc := h.ok (by decide) (by decide) (by show Apart [d20.norm]; exact List.pairwise_singleton _ _)
  obtain ⟨h1, h2⟩ := h.yes hc
  have h3 : es.map EnL.d = [d20] := List.perm_singleton.1 h2
  exact ⟨hc, List.map_eq_singleton_iff.1 h3⟩
def z20 (q : Int) : Hd := (appK (Ac.one 0 1) (prHd q fun _ => 0) 9).nrm
theorem run20 {x : EnL} (hx : x.d = d20) {q : Int} {hs : List Hd} (h : TRunP [x] (prHd q fun _ => 0) hs) : ∀ u, u ∈ hs ↔ u = z20 q := by
  have hr : x.r.d = ⟨mt0, [Ac.one 0 1]⟩ := (congrArg EnD.r hx :)
  have hm : x.r.m = mt0 := (congrArg RuD.m hr :)
  rcases h with ⟨h1, _⟩ | ⟨i, y, hy, hh, hno, hR⟩
  · refine absurd ?_ (h1 x (List.mem_cons_self ..))
    rw [hm]
    intro k _
    show andN _ 0 = 0
    unfold andN
    simp
  · have : y = x := List.mem_singleton.1 (List.mem_of_getElem? hy)
    subst this
    intro u
    rw [hR.mem u, hr]
    exact ⟨fun ⟨a, ha, e⟩ => by obtain rfl := List.mem_singleton.1 ha; exact e, fun e => ⟨_, List.mem_singleton.2 rfl, e⟩⟩
theorem put20a {x : EnL} (hx : x.d = d20) {g : Nat} {i o n code : Int} {os : List OutD} {sw' : SwL} (h : PutP ⟨g, i, o, 0, n, 2⟩ [x] 0 (fun _ => 0) 14 code os sw') : code = 0 ∧ (∃ b, os = [⟨1, b⟩]) ∧ sw' = ⟨g, i + 1, o + 1, 0, n, 2⟩ := by
  obtain ⟨h1, h2, _, ⟨hs, h3, _, h4⟩, h5⟩ := h.ok (by dsimp only; omega) (by decide)
  have hz := run20 hx h3
  have hg : GoesO 2 0 (fun _ => 0) 14 (z20 0) := ⟨by decide, by decide, toList_ne (by rw [str_size]; decide), by decide, by decide, by decide, .inr (by decide), .inr (by decide)⟩
  have hm : ∀ u, u ∈ os ↔ u ∈ [outF 0 (fun _ => 0) 14 (z20 0)] := fun u => by
    rw [h4 u, List.mem_singleton]
    exact ⟨fun ⟨y, k1, _, k3⟩ => by rw [(hz y).1 k1] at k3; exact k3, fun e => ⟨z20 0, (hz _).2 rfl, hg, e⟩⟩
  have ho : os = [outF 0 (fun _ => 0) 14 (z20 0)] := strict_only ocmp_cm _ _ h2 (List.pairwise_singleton _ _) hm
  refine ⟨h1, ⟨_, ho⟩, ?_⟩
  rw [h5, ho]
  rfl
theorem put20b {x : EnL} (hx : x.d = d20) {g : Nat} {i o n code : Int} {os : List OutD} {sw' : SwL} (h : PutP ⟨g, i, o, 0, n, 2⟩ [x] 1 (fun _ => 0) 14 code os sw') : code = 0 ∧ os = [] := by
  obtain ⟨h1, h2, _, ⟨hs, h3, _, h4⟩, h5⟩ := h.ok (by dsimp only; omega) (by decide)
  have hz := run20 hx h3
  refine ⟨h1, List.eq_nil_iff_forall_not_mem.2 fun u hu => ?_⟩
  obtain ⟨y, k1, k2, _⟩ := (h4 u).1 hu
  rw [(hz y).1 k1] at k2
  exact k2.2.1 (by decide)
theorem tab20 {p : Nat → Prop} {w0 w : World} {LL E K : List Ent} {gT : Nat} {ad : Option Addr} {c : Nat} {x : EnL} {most : Int} (hx : x.d = d20) (hV : Vec 21 ad 1 c (ensL [x]) E) (hK : EnsOwn K [x]) (hS : St p w0 w LL) (h1 : ∀ e ∈ E, e ∈ LL) (h2 : ∀ e ∈ K, e ∈ LL) (h3 : Ent.row gT (TbL.cells ⟨most, ad, c, [x]⟩) ∈ LL) : TabR w gT ⟨most, ad, c, [x]⟩ :=
  ⟨(show Row w gT _ from hS.holds _ h3).cell (i := 1) rfl, hV.rg fun e he => hS.holds e (h1 e he), fun y hy => (hK y hy).ok (fun e he => hS.holds e (h2 e he)) (by
    obtain rfl := List.mem_singleton.1 hy
    rw [show y.r.acts = [Ac.one 0 1] from (congrArg (fun d : EnD => d.r.acts) hx :)]
    decide)⟩
theorem en20 {x : EnL} (hx : x.d = d20) : ∀ y ∈ [x], EnT y := fun y hy => by
  obtain rfl := List.mem_singleton.1 hy
  have ha : y.r.acts = [Ac.one 0 1] := (congrArg (fun d : EnD => d.r.acts) hx :)
  exact ⟨by rw [hx]; exact d20_in, by rw [ha]; exact fun a h => by obtain rfl := List.mem_singleton.1 h; decide, by rw [ha]; decide⟩
set_option maxHeartbeats 2000000 in
theorem Head20_c (w0 : World) (hG : GW w0) : Calls Tryz.prog 17 #[] w0 fun e w' => e = .returned (.bool true) ∧ Frm (fun _ => False) w0 w' := by
  refine enter Tryz.func17 rfl Tryz.ntmps17 rfl (St.start (fun _ => False) w0) ?_
  refine WC.seq <| WC.region <| WL.v (v_assign rfl rfl) rfl <| WL.nt <| WC.seq <| WC.region <| WL.call rfl rfl ck_18 (.none rfl) rfl rfl <| ?_
  intro w1 hS
  refine (FNew_c w1 2 5 (by decide) (by decide)).mono ?_
  rintro e w' ⟨gS, gT, rfl, hS'⟩
  refine ⟨_, _, rfl, hS.join hS', ?_⟩
  refine WL.v (v_move rfl rfl) rfl <| WL.v (v_extract rfl rfl rfl) rfl <| WL.v (v_extract rfl rfl rfl) rfl <| WL.v (v_assign rfl rfl) rfl <| WL.v (v_assign rfl rfl) rfl <| WL.nt <| WC.seq <| WC.region <| WL.call rfl rfl ck_45 (.none rfl) rfl rfl <| ?_
  intro w hS
  refine Calls.then (AOn_c w 0 (by omega) 1 (by omega) (by decide) (hG.keep (fun h => h) hS)) hS ?_
  refine WL.v (v_move rfl rfl) rfl <| WL.v (v_extract rfl rfl rfl) rfl <| WL.v (v_extract rfl rfl rfl) rfl <| WL.alloc rfl zero_110 (.none rfl) rfl rfl <| ?_
  intro g3 hg3
  refine WL.storeW rfl rfl rfl rfl many_110 rfl rfl (.none rfl) rfl <| WL.as (L' := [.row g3 (acL (Ac.one 0 1)), .row gS (SwL.cells ⟨gT, 0, 0, 0, 0, 2⟩), .row gT (TbL.cells ⟨5, none, 0, []⟩)]) rfl <| WL.v (v_assign rfl rfl) rfl <| WL.nt <| WC.seq <| WC.seq <| WC.held ([.row g3 (acL (Ac.one 0 1)), .row gS (SwL.cells ⟨gT, 0, 0, 0, 0, 2⟩)]) mixed <| ?_
  refine WRH.first (g := 7) [0, 1, 2, 3, 4, 5, 6, 7, 8, 9, 10, 11, 12, 13, 14, 15] (by kernel_rfl) (by kernel_rfl) (fun w hS => hS.sub (by repeat (first | exact List.Sublist.refl _ | exact List.nil_sublist _ | refine List.Sublist.cons_cons _ ?_ | refine List.Sublist.cons _ ?_ | refine List.sublist_append_of_sublist_right ?_))) ?_
  refine WH.val (v_move rfl rfl) (.none rfl) rfl rfl ?_
  refine WH.val ((v_neq rfl rfl rfl).f (by omega)) (.none rfl) rfl rfl ?_
  refine WH.val (v_move rfl rfl) (.none rfl) rfl rfl <| WH.val (v_move rfl rfl) (.some rfl rfl rfl) rfl rfl <| ?_
  refine WH.val ((v_neq rfl rfl rfl).f (by omega)) (.some rfl rfl rfl) rfl rfl ?_
  refine WH.val (v_pick_f rfl rfl rfl) (.none rfl) rfl rfl <| WH.val (v_move rfl rfl) (.none rfl) rfl rfl <| WH.val (v_move rfl rfl) (.some rfl rfl rfl) rfl rfl <| WH.val (v_eql_nil false rfl rfl Tryz.underlying42 rfl) (.some rfl rfl rfl) rfl rfl <| WH.val (v_pick_f rfl rfl rfl) (.none rfl) rfl rfl <| WH.val (v_move rfl rfl) (.none rfl) rfl rfl <| WH.val (v_move rfl rfl) (.some rfl rfl rfl) rfl rfl <| WH.val (v_nilCheck rfl rfl) (.some rfl rfl rfl) rfl rfl <| WH.val (v_fieldAddr0 rfl rfl fld_49_0) (.some rfl rfl rfl) rfl rfl <| WH.val (v_load1 rfl rfl one_45 (cellAt (v := .pointer (some ⟨gT, 0, none⟩)) rfl)) (.some rfl rfl rfl) rfl rfl <| WH.val (v_loadN rfl rfl many_110 rfl allAt) (.some rfl rfl rfl) rfl rfl <| WH.nil <| ?_
  refine WRH.one (g := 6) 16 (by kernel_rfl) ?_
  refine WL.buildSlice rfl rfl Tryz.underlying113 sz_110 zero_110 rfl (by decide) rfl (.some rfl rfl rfl) rfl rfl ?_
  intro g34 hg34
  refine WL.nilH (fun w hS => hS.sub (by repeat (first | exact List.Sublist.refl _ | exact List.nil_sublist _ | refine List.Sublist.cons_cons _ ?_ | refine List.Sublist.cons _ ?_ | refine List.sublist_append_of_sublist_right ?_))) ?_
  refine WRH.first (g := 4) [17, 18] (by kernel_rfl) (by kernel_rfl) (fun w hS => hS.sub (by repeat (first | exact List.Sublist.refl _ | exact List.nil_sublist _ | refine List.Sublist.cons_cons _ ?_ | refine List.Sublist.cons _ ?_ | refine List.sublist_append_of_sublist_right ?_))) ?_
  refine WH.val (v_build rfl rfl zero_117 plc_117 rfl) (.some rfl rfl rfl) rfl rfl <| WH.val (v_build rfl rfl zero_119 plc_119 rfl) (.some rfl rfl rfl) rfl rfl <| WH.nil <| ?_
  refine WRH.one (g := 3) 19 (by kernel_rfl) ?_
  refine WL.buildSlice rfl rfl Tryz.underlying40 sz_119 zero_119 rfl (by decide) rfl (.some rfl rfl rfl) rfl rfl ?_
  intro g37 hg37
  refine WL.as (L' := [.row g37 (ensL [ex20 g34]), .row g34 (actsL [Ac.one 0 1]), .row g3 (acL (Ac.one 0 1)), .row gS (SwL.cells ⟨gT, 0, 0, 0, 0, 2⟩), .row gT (TbL.cells ⟨5, none, 0, []⟩)]) rfl ?_
  refine WL.nilH (fun w hS => hS.sub (by repeat (first | exact List.Sublist.refl _ | exact List.nil_sublist _ | refine List.Sublist.cons_cons _ ?_ | refine List.Sublist.cons _ ?_ | refine List.sublist_append_of_sublist_right ?_))) ?_
  refine WRH.one (g := 2) 20 (by kernel_rfl) ?_
  refine WL.call rfl rfl ck_19 (.some rfl rfl rfl) rfl rfl ?_
  intro w1 hS
  refine (Change_c (fun _ => False) w0 w1 [.row g37 (ensL [ex20 g34]), .row g34 (actsL [Ac.one 0 1]), .row g3 (acL (Ac.one 0 1)), .row gS (SwL.cells ⟨gT, 0, 0, 0, 0, 2⟩)] [] [] gT ⟨5, none, 0, []⟩ none 0 [] (some ⟨g37, 0, none⟩) 1 [ex20 g34] (fun h => h) hG (Vec.nil 21) (fun e he => by cases he) hS.permX (fun w h hn => absurd rfl hn) (fun w h _ => ⟨g37, 0, rfl, allAt (g := g37) w h⟩) (fun w h x hx => (by obtain rfl := List.mem_singleton.1 hx; exact ⟨d20_in, fun _ => ⟨g34, 0, rfl, allAt (g := g34) w h⟩⟩)) (by decide) List.Pairwise.nil (by decide) (by decide) (show 1 < 20 by decide)).mono ?_
  rintro e w' ⟨code, ⟨most, tad, tc, tes⟩, E2, K2, rfl, rfl, hCh, hV2, hK2, hS'⟩
  obtain ⟨rfl, x1, rfl, hx1⟩ := ex20_table hCh
  refine ⟨_, _, rfl, hS', ?_⟩
  refine WL.nilH (fun w hS => hS.sub (by repeat (first | exact List.Sublist.refl _ | exact List.nil_sublist _ | refine List.Sublist.cons_cons _ ?_ | refine List.Sublist.cons _ ?_ | refine List.sublist_append_of_sublist_right ?_))) ?_
  refine WRH.first (g := 0) [21, 22] (by kernel_rfl) (by kernel_rfl) (fun w hS => hS.sub (by repeat (first | exact List.Sublist.refl _ | exact List.nil_sublist _ | refine List.Sublist.cons_cons _ ?_ | refine List.Sublist.cons _ ?_ | refine List.sublist_append_of_sublist_right ?_))) ?_
  refine WH.val ((v_neq rfl rfl rfl).f (by omega)) (.some rfl rfl rfl) rfl rfl ?_
  refine WH.val (v_pick_f rfl rfl rfl) (.none rfl) rfl rfl <| WH.nil <| ?_
  refine WRH.done (by kernel_rfl) ?_
  refine WE.then_n <| WC.cond_f rfl <| WC.skip <| WE.then_n <| WC.seq <| WC.region <| ?_
  refine WL.make1 (m := 14) (c := 14) rfl rfl rfl rfl rfl (by omega) Tryz.underlying41 by_5 (by omega) (by omega) one_5 zero_5 (.none rfl) rfl rfl ?_
  intro g41 hg41
  refine WL.to (L' := .row gS (SwL.cells ⟨gT, 0, 0, 0, 0, 2⟩) :: .row g41 (bcs (fun _ => 0) 14 ++ []) :: .row gT (TbL.cells ⟨5, tad, tc, [x1]⟩) :: (E2 ++ (K2 ++ [.row g37 (ensL [ex20 g34]), .row g34 (actsL [Ac.one 0 1]), .row g3 (acL (Ac.one 0 1))]))) (fun w hS => by
  have hS : St (fun _ => False) w0 w (.row g41 (bcs (fun _ => 0) 14 ++ []) :: .row gT (TbL.cells ⟨5, tad, tc, [x1]⟩) :: (E2 ++ (K2 ++ [.row g37 (ensL [ex20 g34]), .row g34 (actsL [Ac.one 0 1]), .row g3 (acL (Ac.one 0 1)), .row gS (SwL.cells ⟨gT, 0, 0, 0, 0, 2⟩)]))) := hS
  exact hS.permX) ?_
  refine WL.v (v_assign rfl rfl) rfl <| WL.nt <| WC.seq <| WC.region <| WL.v (v_move rfl rfl) rfl <| WL.v (v_move rfl rfl) rfl <| WL.call rfl rfl ck_20 (.none rfl) rfl rfl <| ?_
  intro w1 hS
  refine (Put_c (p := fun _ => False) (w0 := w0) (L := .row g41 (bcs (fun _ => 0) 14 ++ []) :: .row gT (TbL.cells ⟨5, tad, tc, [x1]⟩) :: (E2 ++ (K2 ++ [.row g37 (ensL [ex20 g34]), .row g34 (actsL [Ac.one 0 1]), .row g3 (acL (Ac.one 0 1))]))) gS ⟨gT, 0, 0, 0, 0, 2⟩ ⟨5, tad, tc, [x1]⟩ 0 (some ⟨g41, 0, none⟩) 14 14 (fun _ => 0) hS (fun h => h) hG (fun w h => tab20 hx1 hV2 hK2 h (fun e he => by simp [he]) (fun e he => by simp [he]) (by simp)) (fun w h => rdRow (g := g41) (r := []) h) (fun _ => (by decide : (0 : Int) ≤ 0 ∧ (0 : Int) ≤ 255)) (by decide) ⟨by dsimp only; omega, by dsimp only; omega, by dsimp only; omega, by dsimp only; omega, by dsimp only; omega⟩ (en20 hx1) (show 1 ≤ 5000 by decide)).mono ?_
  rintro e w' ⟨code1, ad1, c1, os1, EO1, KO1, sw1, rfl, hP1, hV1, hO1, hS'⟩
  obtain ⟨rfl, ⟨b1, hos1⟩, rfl⟩ := put20a hx1 hP1
  obtain ⟨o1, rfl, ho1⟩ : ∃ o1, os1 = [o1] ∧ o1.d = ⟨1, b1⟩ := List.map_eq_singleton_iff.1 hos1
  have hp1 : o1.port = 1 := (congrArg OutD.port ho1 :)
  refine ⟨_, .row gS (SwL.cells ⟨gT, 0 + 1, 0 + 1, 0, 0, 2⟩) :: .row g41 (bcs (fun _ => 0) 14 ++ []) :: (EO1 ++ (KO1 ++ (.row gT (TbL.cells ⟨5, tad, tc, [x1]⟩) :: (E2 ++ (K2 ++ [.row g37 (ensL [ex20 g34]), .row g34 (actsL [Ac.one 0 1]), .row g3 (acL (Ac.one 0 1))]))))), rfl, hS'.permX, ?_⟩
  refine WL.v (v_move rfl rfl) rfl <| WL.v (v_extract rfl rfl rfl) rfl <| WL.v (v_extract rfl rfl rfl) rfl <| WL.v (v_assign rfl rfl) rfl <| WL.v (v_assign rfl rfl) rfl <| WL.nt <| WC.seq <| WC.region <| WL.v (v_move rfl rfl) rfl <| WL.v (v_move rfl rfl) rfl <| WL.call rfl rfl ck_20 (.none rfl) rfl rfl <| ?_
  intro w1 hS
  refine (Put_c (p := fun _ => False) (w0 := w0) (L := .row g41 (bcs (fun _ => 0) 14 ++ []) :: (EO1 ++ (KO1 ++ (.row gT (TbL.cells ⟨5, tad, tc, [x1]⟩) :: (E2 ++ (K2 ++ [.row g37 (ensL [ex20 g34]), .row g34 (actsL [Ac.one 0 1]), .row g3 (acL (Ac.one 0 1))])))))) gS ⟨gT, 0 + 1, 0 + 1, 0, 0, 2⟩ ⟨5, tad, tc, [x1]⟩ 1 (some ⟨g41, 0, none⟩) 14 14 (fun _ => 0) hS (fun h => h) hG (fun w h => tab20 hx1 hV2 hK2 h (fun e he => by simp [he]) (fun e he => by simp [he]) (by simp)) (fun w h => rdRow (g := g41) (r := []) h) (fun _ => (by decide : (0 : Int) ≤ 0 ∧ (0 : Int) ≤ 255)) (by decide) ⟨by dsimp only; omega, by dsimp only; omega, by dsimp only; omega, by dsimp only; omega, by dsimp only; omega⟩ (en20 hx1) (show 1 ≤ 5000 by decide)).mono ?_
  rintro e w' ⟨code2, ad2, c2, os2, EO2, KO2, sw2, rfl, hP2, hV2o, hO2, hS'⟩
  obtain ⟨rfl, hos2⟩ := put20b hx1 hP2
  obtain rfl : os2 = [] := List.map_eq_nil_iff.1 hos2
  obtain ⟨q1, rfl⟩ := hV1.some_of (show 0 < 1 by decide)
  obtain ⟨b5, o5, ea5, r5⟩ := hV1.srcR (L := .row gS sw2.cells :: (EO2 ++ (KO2 ++ (.row g41 (bcs (fun _ => 0) 14 ++ []) :: (EO1 ++ (KO1 ++ (.row gT (TbL.cells ⟨5, tad, tc, [x1]⟩) :: (E2 ++ (K2 ++ [.row g37 (ensL [ex20 g34]), .row g34 (actsL [Ac.one 0 1]), .row g3 (acL (Ac.one 0 1))]))))))))) (fun e he => by simp [he]) (by show 0 < 2; decide)
  cases ea5
  refine ⟨_, _, rfl, hS', ?_⟩
  refine WL.v (v_move rfl rfl) rfl <| WL.v (v_extract rfl rfl rfl) rfl <| WL.v (v_extract rfl rfl rfl) rfl <| WL.v (v_assign rfl rfl) rfl <| WL.v (v_assign rfl rfl) rfl <| WL.nt <| WC.seq <| WC.region <| WL.v (v_move rfl rfl) rfl <| ?_
  refine WL.v ((v_eql rfl rfl rfl).t (by omega)) rfl ?_
  refine WL.v (v_move rfl rfl) rfl <| WL.val (v_move rfl rfl) (.some rfl rfl rfl) rfl rfl <| ?_
  refine WL.val ((v_eql rfl rfl rfl).t (by omega)) (.some rfl rfl rfl) rfl rfl ?_
  refine WL.v (v_pick_t rfl rfl rfl) rfl <| WL.v (v_move rfl rfl) rfl <| WL.val (v_move rfl rfl) (.some rfl rfl rfl) rfl rfl <| WL.val (v_len_slice rfl rfl Tryz.underlying51) (.some rfl rfl rfl) rfl rfl <| WL.val ((v_eql rfl rfl rfl).t (rfl)) (.some rfl rfl rfl) rfl rfl <| WL.v (v_pick_t rfl rfl rfl) rfl <| WL.v (v_move rfl rfl) rfl <| WL.val (v_move rfl rfl) (.some rfl rfl rfl) rfl rfl <| ?_
  refine WL.val (v_indexAddr (lo := 0) rfl rfl rfl Tryz.underlying51 sz_67 rfl (show 0 < 1 by decide)) (.some rfl rfl rfl) rfl rfl ?_
  refine WL.val (v_fieldAddr0 rfl rfl fld_67_0) (.some rfl rfl rfl) rfl rfl ?_
  refine WL.val (v_load1 rfl rfl one_3 (v := .int .i64 1) (fun w hS => by
  have := r5 _ _ w hS 0 _ rfl
  rw [hp1] at this
  exact this)) (.some rfl rfl rfl) rfl rfl ?_
  refine WL.val ((v_eql rfl rfl rfl).t (by omega)) (.some rfl rfl rfl) rfl rfl ?_
  refine WL.v (v_pick_t rfl rfl rfl) rfl <| WL.v (v_move rfl rfl) rfl <| WL.val (v_move rfl rfl) (.some rfl rfl rfl) rfl rfl <| WL.val (v_len_slice rfl rfl Tryz.underlying51) (.some rfl rfl rfl) rfl rfl <| WL.val ((v_eql rfl rfl rfl).t (rfl)) (.some rfl rfl rfl) rfl rfl <| WL.v (v_pick_t rfl rfl rfl) rfl <| WL.v (v_assign rfl rfl) rfl <| WL.nt <| WC.ret <| WE.ret1 (P := Tryz.prog) (.inl rfl) Tryz.results17 rfl <| ?_
  exact fun w' h => ⟨rfl, h.frm⟩
end Go.Proofs.YtkeonnnhogaggaaGreatDoor
/- An act that came in as an argument. -/
namespace Go.Proofs.YtkeonnnhogaggaaGreatDoor
open Go.RowKit

theorem wf_u64 {n : Int} (h : (Lit.int .u64 n).wf = true) : 0 ≤ n ∧ n ≤ 18446744073709551615 := by
  simp [Lit.wf, IntKind.min, IntKind.max, IntKind.signed, IntKind.bits] at h; exact h
theorem ac_leaves {w : World} {cs : List Value} (hL : Leaves Tryz.prog w [3, 23, 23, 23, 23, 23, 23, 23, 23, 23] cs) : ∃ a : Ac, cs = acL a ∧ a.In := by
  obtain ⟨x0, _, rfl, h0, x1, _, rfl, h1, x2, _, rfl, h2, x3, _, rfl, h3, x4, _, rfl, h4, x5, _, rfl, h5, x6, _, rfl, h6, x7, _, rfl, h7, x8, _, rfl, h8, x9, _, rfl, h9, rfl⟩ := hL
  obtain ⟨n0, rfl, w0⟩ := Tree.int Tryz.underlying3 h0
  obtain ⟨n1, rfl, w1⟩ := Tree.int Tryz.underlying23 h1
  obtain ⟨n2, rfl, w2⟩ := Tree.int Tryz.underlying23 h2
  obtain ⟨n3, rfl, w3⟩ := Tree.int Tryz.underlying23 h3
  obtain ⟨n4, rfl, w4⟩ := Tree.int Tryz.underlying23 h4
  obtain ⟨n5, rfl, w5⟩ := Tree.int Tryz.underlying23 h5
  obtain ⟨n6, rfl, w6⟩ := Tree.int Tryz.underlying23 h6
  obtain ⟨n7, rfl, w7⟩ := Tree.int Tryz.underlying23 h7
  obtain ⟨n8, rfl, w8⟩ := Tree.int Tryz.underlying23 h8
  obtain ⟨n9, rfl, w9⟩ := Tree.int Tryz.underlying23 h9
  refine ⟨⟨n0, fun i => [n1, n2, n3, n4, n5, n6, n7, n8, n9].getD i 0⟩, rfl, wf_i64 w0, fun k => ?_⟩
  match k with
  | 0 => exact wf_u64 w1
  | 1 => exact wf_u64 w2
  | 2 => exact wf_u64 w3
  | 3 => exact wf_u64 w4
  | 4 => exact wf_u64 w5
  | 5 => exact wf_u64 w6
  | 6 => exact wf_u64 w7
  | 7 => exact wf_u64 w8
  | 8 => exact wf_u64 w9
  | _ + 9 => exact ⟨Int.le_refl _, show (0 : Int) ≤ 18446744073709551615 by decide⟩
end Go.Proofs.YtkeonnnhogaggaaGreatDoor
/- Entries of a table as an argument. -/
namespace Go.Proofs.YtkeonnnhogaggaaGreatDoor
open Go.RowKit

/-- Elements that read as data: a list. -/
theorem rgs_of {P : Program} {w : World} {e s len : Nat} {a : Option Addr} {α : Type} {enc : α → List Value} {good : α → Prop} (hk : ∀ x, (enc x).length = s) (hx : ∀ cs, cs.length = s → Tree P w e cs → ∃ x, cs = enc x ∧ good x) (h : Elems P w e s a len) : ∃ xs : List α, xs.length = len ∧ Rg w a (encL enc xs) ∧ ∀ x ∈ xs, good x := by
  by_cases hl : 0 < len
  · obtain ⟨b, off, rfl, hE⟩ := h hl
    have hE' : ∀ i : Fin len, ∃ x, w.rangeAt b (off + i.1 * s) (enc x) ∧ good x := fun i => by
      obtain ⟨cs, hc, hr, hT⟩ := hE i.1 i.2
      obtain ⟨x, rfl, hg⟩ := hx cs hc hT
      exact ⟨x, hr, hg⟩
    have key : ∀ k, k ≤ len → ∃ xs : List α, xs.length = k ∧ w.rangeAt b off (encL enc xs) ∧ ∀ x ∈ xs, good x := by
      intro k
      induction k with
      | zero => exact fun _ => ⟨[], rfl, fun j v hj => by simp [encL] at hj, fun x h => by cases h⟩
      | succ k ih =>
        intro hk1
        obtain ⟨xs, e, hr, hg⟩ := ih (by omega)
        obtain ⟨x, hr2, hg2⟩ := hE' ⟨k, by omega⟩
        refine ⟨xs ++ [x], by rw [List.length_append, e]; rfl, fun j v hj => ?_, fun y hy => ?_⟩
        · rw [encL_snoc] at hj
          have hlen := encL_len hk xs
          by_cases hlt : j < (encL enc xs).length
          · rw [List.getElem?_append_left hlt] at hj; exact hr j v hj
          · rw [List.getElem?_append_right (by omega)] at hj
            have := hr2 _ v hj
            rw [hlen, e] at this hlt
            rwa [show off + k * s + (j - k * s) = off + j by omega] at this
        · rcases List.mem_append.1 hy with hy | hy
          · exact hg y hy
          · rw [List.mem_singleton.1 hy]; exact hg2
    obtain ⟨xs, e, hr, hg⟩ := key len (Nat.le_refl _)
    exact ⟨xs, e, fun _ => ⟨b, off, rfl, hr⟩, hg⟩
  · exact ⟨[], by rw [List.length_nil]; omega, fun hn => absurd rfl hn, fun x hm => by cases hm⟩
theorem ac_leaves' {w : World} {cs : List Value} (hL : Leaves Tryz.prog w [3, 23, 23, 23, 23, 23, 23, 23, 23, 23] cs) : ∃ a : Ac, cs = acL a ∧ a.In ∧ a.Nz := by
  obtain ⟨a, rfl, ha⟩ := ac_leaves hL
  refine ⟨⟨a.set, fun k => if k < 9 then a.val k else 0⟩, congrArg (Value.int .i64 a.set :: ·) (ucs_congr fun i hi => (if_pos hi).symm), ⟨ha.set, fun k => ?_⟩, fun k hk => if_neg (by omega)⟩
  dsimp only
  split
  · exact ha.val k
  · exact ⟨Int.le_refl _, by decide⟩
theorem mt_leaves {w : World} {cs : List Value} (hL : Leaves Tryz.prog w (List.replicate 18 23) cs) : ∃ m : Mt, cs = mtL m ∧ m.In ∧ m.Nz := by
  obtain ⟨x0, _, rfl, h0, x1, _, rfl, h1, x2, _, rfl, h2, x3, _, rfl, h3, x4, _, rfl, h4, x5, _, rfl, h5, x6, _, rfl, h6, x7, _, rfl, h7, x8, _, rfl, h8, y0, _, rfl, k0, y1, _, rfl, k1, y2, _, rfl, k2, y3, _, rfl, k3, y4, _, rfl, k4, y5, _, rfl, k5, y6, _, rfl, k6, y7, _, rfl, k7, y8, _, rfl, k8, rfl⟩ := hL
  obtain ⟨n0, rfl, w0⟩ := Tree.int Tryz.underlying23 h0
  obtain ⟨n1, rfl, w1⟩ := Tree.int Tryz.underlying23 h1
  obtain ⟨n2, rfl, w2⟩ := Tree.int Tryz.underlying23 h2
  obtain ⟨n3, rfl, w3⟩ := Tree.int Tryz.underlying23 h3
  obtain ⟨n4, rfl, w4⟩ := Tree.int Tryz.underlying23 h4
  obtain ⟨n5, rfl, w5⟩ := Tree.int Tryz.underlying23 h5
  obtain ⟨n6, rfl, w6⟩ := Tree.int Tryz.underlying23 h6
  obtain ⟨n7, rfl, w7⟩ := Tree.int Tryz.underlying23 h7
  obtain ⟨n8, rfl, w8⟩ := Tree.int Tryz.underlying23 h8
  obtain ⟨m0, rfl, v0⟩ := Tree.int Tryz.underlying23 k0
  obtain ⟨m1, rfl, v1⟩ := Tree.int Tryz.underlying23 k1
  obtain ⟨m2, rfl, v2⟩ := Tree.int Tryz.underlying23 k2
  obtain ⟨m3, rfl, v3⟩ := Tree.int Tryz.underlying23 k3
  obtain ⟨m4, rfl, v4⟩ := Tree.int Tryz.underlying23 k4
  obtain ⟨m5, rfl, v5⟩ := Tree.int Tryz.underlying23 k5
  obtain ⟨m6, rfl, v6⟩ := Tree.int Tryz.underlying23 k6
  obtain ⟨m7, rfl, v7⟩ := Tree.int Tryz.underlying23 k7
  obtain ⟨m8, rfl, v8⟩ := Tree.int Tryz.underlying23 k8
  refine ⟨⟨fun i => [n0, n1, n2, n3, n4, n5, n6, n7, n8].getD i 0, fun i => [m0, m1, m2, m3, m4, m5, m6, m7, m8].getD i 0⟩, rfl, ⟨fun k => ?_, fun k => ?_⟩, fun k hk => ?_⟩
  · match k with
    | 0 => exact wf_u64 w0
    | 1 => exact wf_u64 w1
    | 2 => exact wf_u64 w2
    | 3 => exact wf_u64 w3
    | 4 => exact wf_u64 w4
    | 5 => exact wf_u64 w5
    | 6 => exact wf_u64 w6
    | 7 => exact wf_u64 w7
    | 8 => exact wf_u64 w8
    | _ + 9 => exact ⟨Int.le_refl _, show (0 : Int) ≤ 18446744073709551615 by decide⟩
  · match k with
    | 0 => exact wf_u64 v0
    | 1 => exact wf_u64 v1
    | 2 => exact wf_u64 v2
    | 3 => exact wf_u64 v3
    | 4 => exact wf_u64 v4
    | 5 => exact wf_u64 v5
    | 6 => exact wf_u64 v6
    | 7 => exact wf_u64 v7
    | 8 => exact wf_u64 v8
    | _ + 9 => exact ⟨Int.le_refl _, show (0 : Int) ≤ 18446744073709551615 by decide⟩
  · match k, hk with
    | _ + 9, _ => exact ⟨rfl, rfl⟩
theorem Tree.flatE {P : Program} {w : World} {t : TypeId} {cs : List Value} {ts : List TypeId} (h : Tree P w t cs) (F : Nat) (hl : layB P F t = true) (hf : flat P F t = ts) : Leaves P w ts cs := hf ▸ Tree.leaves F t cs hl h
theorem Tree.acs {w : World} {x : Value} (h : Tree Tryz.prog w 113 [x]) : ∃ a cap, ∃ xs : List Ac, x = .slice a xs.length cap ∧ Rg w a (actsL xs) ∧ ∀ c ∈ xs, c.In ∧ c.Nz := by
  obtain ⟨a, len, cap, rfl, h1, h2, hE⟩ := Tree.slice (s := 10) Tryz.underlying113 (by kernel_rfl) (by decide) h
  obtain ⟨xs, rfl, hr, hg⟩ := rgs_of (enc := acL) (good := fun c => c.In ∧ c.Nz) acL_len (fun cs hc hT => by
    obtain ⟨a, rfl, h1, h2⟩ := ac_leaves' (Tree.flatE (ts := [3, 23, 23, 23, 23, 23, 23, 23, 23, 23]) hT 8 (by kernel_rfl) (by kernel_rfl))
    exact ⟨a, rfl, h1, h2⟩) hE
  exact ⟨a, cap, xs, rfl, hr, hg⟩
theorem leaves_split {P : Program} {w : World} : ∀ (A : List TypeId) {B : List TypeId} {cs : List Value}, Leaves P w (A ++ B) cs → ∃ c1 c2, cs = c1 ++ c2 ∧ Leaves P w A c1 ∧ Leaves P w B c2
  | [], B, cs, h => ⟨[], cs, rfl, rfl, h⟩
  | a :: A, B, cs, h => by
    obtain ⟨x, r, rfl, hx, hr⟩ := h
    obtain ⟨c1, c2, rfl, h1, h2⟩ := leaves_split A hr
    exact ⟨x :: c1, c2, rfl, ⟨x, c1, rfl, hx, h1⟩, h2⟩
theorem Arg.ens {w : World} {v : Value} (h : Arg Tryz.prog w 40 v) : ∃ a cap, ∃ es : List EnL, v = .slice a es.length cap ∧ es.length ≤ cap ∧ Rg w a (ensL es) ∧ ∀ x ∈ es, InOk w x := by
  obtain ⟨a, len, cap, rfl, h1, h2, hE⟩ := h.slice (s := 21) Tryz.underlying40 (by kernel_rfl) (by decide)
  obtain ⟨xs, rfl, hr, hg⟩ := rgs_of (enc := EnL.cells) (good := fun x => InOk w x) EnL.len (fun cs hc hT => by
    have hL := Tree.flatE (ts := [3, 3] ++ (List.replicate 18 23 ++ [113])) hT 10 (by kernel_rfl) (by kernel_rfl)
    obtain ⟨c1, c2, rfl, h1, h2⟩ := leaves_split _ hL
    obtain ⟨c3, c4, rfl, h3, h4⟩ := leaves_split _ h2
    obtain ⟨x0, _, rfl, i0, x1, _, rfl, i1, rfl⟩ := h1
    obtain ⟨m, rfl, hm1, hm2⟩ := mt_leaves h3
    obtain ⟨x2, _, rfl, i2, rfl⟩ := h4
    obtain ⟨n0, rfl, w0⟩ := Tree.int Tryz.underlying3 i0
    obtain ⟨n1, rfl, w1⟩ := Tree.int Tryz.underlying3 i1
    obtain ⟨a2, c2, acs, rfl, r2, g2⟩ := Tree.acs i2
    exact ⟨⟨n0, n1, ⟨m, a2, c2, acs⟩⟩, rfl, ⟨⟨wf_i64 w0, wf_i64 w1, hm1, hm2, g2⟩, r2⟩⟩) hE
  exact ⟨a, cap, xs, rfl, h1, hr, hg⟩
end Go.Proofs.YtkeonnnhogaggaaGreatDoor
/- FabricDrops. -/
namespace Go.Proofs.YtkeonnnhogaggaaGreatDoor
open Go.RowKit Go.Sort

/-- A frame that came in. -/
structure FrL where
  ad : Option Addr
  n : Nat
  c : Nat
  f : Nat → Int
def FrL.cells (x : FrL) : List Value := [.slice x.ad x.n x.c]
structure FrOk (w : World) (x : FrL) : Prop where
  le : x.n ≤ x.c
  rd : RdO w x.ad x.n x.f
  byt : Byt x.f
theorem Arg.frs {w : World} {v : Value} (h : Arg Tryz.prog w 72 v) : ∃ a cap, ∃ xs : List FrL, v = .slice a xs.length cap ∧ xs.length ≤ cap ∧ Rg w a (encL FrL.cells xs) ∧ ∀ x ∈ xs, FrOk w x := by
  obtain ⟨a, len, cap, rfl, h1, h2, hE⟩ := h.slice (s := 1) Tryz.underlying72 (by kernel_rfl) (by decide)
  obtain ⟨xs, rfl, hr, hg⟩ := rgs_of (enc := FrL.cells) (good := fun x => FrOk w x) (fun _ => rfl) (fun cs hc hT => by
    match cs, hc with
    | [y], _ =>
      obtain ⟨a2, n, c2, rfl, k1, _, hE2⟩ := Tree.slice (s := 1) Tryz.underlying41 (by kernel_rfl) (by decide) hT
      obtain ⟨f, k2, k3⟩ := hE2.bytes Tryz.underlying5
      exact ⟨⟨a2, n, c2, f⟩, rfl, ⟨k1, k2, k3⟩⟩) hE
  exact ⟨a, cap, xs, rfl, h1, hr, hg⟩
end Go.Proofs.YtkeonnnhogaggaaGreatDoor
/- FabricFrames. -/
namespace Go.Proofs.YtkeonnnhogaggaaGreatDoor
open Go.RowKit Go.Sort

theorem err_acts20 {e : EnD} (h : e.err = 0) : (∀ a ∈ e.r.acts, a.Ok) ∧ e.r.acts.length ≤ 64 := by
  unfold EnD.err at h
  split at h
  · unfold RuD.err at h
    split at h
    · unfold actErr at h
      split at h
      · exact absurd h (by decide)
      · split at h
        · rename_i h1 h2; exact ⟨h2, by omega⟩
        · exact absurd h (by decide)
    · exact absurd h (by decide)
  · exact absurd h (by decide)
/-- What lies in a table that took some entries. -/
theorem En_of {most : Int} {ins es : List EnL} {code : Int} (h : ChangeP most [] [] (ins.map EnL.d) code (es.map EnL.d)) (hI : ∀ x ∈ ins, x.d.In) : (∀ x ∈ es, EnT x) ∧ es.length ≤ ins.length := by
  by_cases hc : code = 0
  · have hz := (h.zero hc).1
    have hp := (h.yes hc).2
    rw [show leftD [] [] = [] from rfl, List.nil_append] at hp
    refine ⟨fun x hx => ?_, by have := hp.length_eq; simp at this; omega⟩
    have h1 := hp.mem_iff.1 (List.mem_map_of_mem hx)
    obtain ⟨d, h2, h3⟩ := List.mem_map.1 h1
    obtain ⟨y, hy, rfl⟩ := List.mem_map.1 h2
    obtain ⟨k1, k2⟩ := err_acts20 (errs_zero.1 hz _ h2)
    have ea : x.r.acts = normF y.d.r.acts := (congrArg (fun d : EnD => d.r.acts) h3.symm :)
    refine ⟨by rw [← h3]; exact EnD.norm_in (hI y hy), fun a ha => k1 a (normF_sub (by rw [← ea]; exact ha)), ?_⟩
    rw [ea]
    exact Nat.le_trans (normF_len _) k2
  · have he : es = [] := List.map_eq_nil_iff.1 (h.not hc)
    subst he
    exact ⟨fun x hx => (by cases hx), Nat.zero_le _⟩
theorem tabOk {p : Nat → Prop} {w0 w : World} {LL E K : List Ent} {gT : Nat} {ad : Option Addr} {c : Nat} {es : List EnL} {most : Int} (hen : ∀ x ∈ es, EnT x) (hV : Vec 21 ad es.length c (ensL es) E) (hK : EnsOwn K es) (hS : St p w0 w LL) (h1 : ∀ e ∈ E, e ∈ LL) (h2 : ∀ e ∈ K, e ∈ LL) (h3 : Ent.row gT (TbL.cells ⟨most, ad, c, es⟩) ∈ LL) : TabR w gT ⟨most, ad, c, es⟩ :=
  ⟨(show Row w gT _ from hS.holds _ h3).cell (i := 1) rfl, hV.rg fun e he => hS.holds e (h1 e he), fun y hy => (hK y hy).ok (fun e he => hS.holds e (h2 e he)) (by have := (hen y hy).len; omega)⟩
theorem rd_bl {w : World} {a : Option Addr} {F : Nat → Int} {n : Nat} (h : Rg w a (b8s (bl F n))) : RdO w a n F := fun hn => by
  rw [b8s_bl] at h
  obtain ⟨b, o, e, hr⟩ := h (by intro hh; have := bcs_len F n; rw [hh] at this; simp at this; omega)
  exact ⟨b, o, e, fun i hi => hr i _ (bcs_get F n i hi)⟩
structure FfS where
  j : Nat
  b : Bool
end Go.Proofs.YtkeonnnhogaggaaGreatDoor
/- The ports of what goes out are the headers'. -/
namespace Go.Proofs.YtkeonnnhogaggaaGreatDoor
open Go.RowKit Go.Sort

/-- A header that was read depends on the frame's bytes alone. -/
theorem prHd_eqL {g g' : Nat → Int} {n : Nat} {port : Int} (hg : ∀ i, i < n → g i = g' i) (hb : Byt g) (he : prErr port g n = 0) : hdL (prHd port g) = hdL (prHd port g') := by
  obtain ⟨hp, h14, hn⟩ := prErr_n he
  have t12 : two g 12 = two g' 12 := by unfold two; rw [hg 12 (by omega), hg 13 (by omega)]
  have e : ∀ i, i < 14 → g i = g' i := fun i hi => hg i (by omega)
  by_cases h2 : two g 12 = 2048
  · obtain ⟨k1, k2, k3, k4, k5, k6⟩ := pkErr_zero (prErr_ip he h2)
    have t16 : two g 16 = two g' 16 := by unfold two; rw [hg 16 (by omega), hg 17 (by omega)]
    have t20 : two g 20 = two g' 20 := by unfold two; rw [hg 20 (by omega), hg 21 (by omega)]
    have ei : ihl g = ihl g' := by unfold ihl; rw [hg 14 (by omega)]
    have en : ihn g = ihn g' := by unfold ihn; rw [ei]
    have eh : hasPorts g = hasPorts g' := by unfold hasPorts; rw [hg 23 (by omega), t20, t16, ei]
    have f26 : four g 26 = four g' 26 := by unfold four two; rw [hg 26 (by omega), hg (26 + 1) (by omega), hg (26 + 2) (by omega), hg (26 + 2 + 1) (by omega)]
    have f30 : four g 30 = four g' 30 := by unfold four two; rw [hg 30 (by omega), hg (30 + 1) (by omega), hg (30 + 2) (by omega), hg (30 + 2 + 1) (by omega)]
    unfold prHd
    rw [if_pos h2, if_pos (by omega : two g' 12 = 2048)]
    unfold pkHd
    by_cases hq : hasPorts g = true
    · rw [if_pos hq, if_pos (eh ▸ hq)]
      have h8 : 8 ≤ two g 16 - ihl g := by
        unfold hasPorts at hq
        simp only [Bool.and_eq_true] at hq
        exact of_decide_eq_true hq.2
      have hi := ihn_eq hb
      have s1 : two g (14 + ihn g) = two g' (14 + ihn g') := by unfold two; rw [← en, hg _ (by omega), hg _ (by omega)]
      have s2 : two g (14 + ihn g + 2) = two g' (14 + ihn g' + 2) := by unfold two; rw [← en, hg _ (by omega), hg _ (by omega)]
      unfold hdL ethHd
      simp only [e, f26, f30, t12, s1, s2, hg 23 (by omega), Nat.reduceAdd, Nat.reduceLT]
    · rw [if_neg hq, if_neg (eh ▸ hq)]
      unfold hdL ethHd
      simp only [e, f26, f30, t12, hg 23 (by omega), Nat.reduceAdd, Nat.reduceLT]
  · unfold prHd
    rw [if_neg h2, if_neg (by omega : ¬ two g' 12 = 2048)]
    unfold hdL ethHd
    simp only [e, t12, Nat.reduceAdd, Nat.reduceLT]
theorem bl_inj {g g' : Nat → Int} {n : Nat} (h : bl g n = bl g' n) : ∀ i, i < n → g i = g' i := fun i hi => by
  have := congrArg (fun l => l[i]?) h
  unfold bl at this
  simpa [hi] using this
/-- What a table's run gives is in its plain form, each once. -/
theorem TRunP.plain {es : List EnL} {H : Hd} {hs : List Hd} (h : TRunP es H hs) : hs.Nodup ∧ ∀ x ∈ hs, x.nrm = x := by
  rcases h with ⟨_, rfl⟩ | ⟨i, y, _, _, _, hR⟩
  · exact ⟨List.nodup_nil, fun x h => (by cases h)⟩
  · refine ⟨hR.strict.imp fun {a b} k e => ?_, fun x hx => ?_⟩
    · rw [e] at k
      have := hcmp_cm.refl b
      omega
    · obtain ⟨a, _, rfl⟩ := (hR.mem x).1 hx
      exact nrm_nrm _
theorem outF_inj {ports port : Int} {f : Nat → Int} {n : Nat} {h k : Hd} (hf : Byt f) (he : prErr port f n = 0) (hR : h.Rt) (hN : h.nrm = h) (kN : k.nrm = k) (hg : GoesO ports port f n h) (kg : GoesO ports port f n k) (e : outF port f n h = outF port f n k) : h = k := by
  have e1 : h.port = k.port := (congrArg OutD.port e :)
  have e2 := bl_inj (show bl (emF f (prHd port f) (poN f) (prEnd f) h) n = bl (emF f (prHd port f) (poN f) (prEnd f) k) n from congrArg OutD.bs e)
  have h1 := emF_hd (port := h.port) hf he hg.2.2
  have k1 := emF_hd (port := k.port) hf he kg.2.2
  have hq := emF_prErr (port := h.port) hf hR.isIn he hg.2.2 hR.nums.1
  have hb := emF_byt (W := prHd port f) (po := poN f) (en := prEnd f) hf hR.isIn (okB_WOk hR.ok hR.isIn)
  have h2 := prHd_eqL e2 hb hq
  rw [e1] at h2 h1
  have h3 : hdL h = hdL k := (show hdL h = hdL (h.at k.port) by rw [← e1]; rfl).trans (h1.symm.trans (h2.trans k1))
  rw [← hN, ← kN]
  exact nrm_same (hdL_same.1 h3)
open Classical in
/-- The ports of the outs, each as often as headers go there. -/
theorem outs_ports {ports port : Int} {f : Nat → Int} {n : Nat} {es : List EnL} {hs : List Hd} {os : List OutD} (hf : Byt f) (he : prErr port f n = 0) (hr : TRunP es (prHd port f) hs) (hR : ∀ x ∈ hs, x.Rt) (hs1 : os.Pairwise fun a b => ocmp a b < 0) (hm : ∀ o, o ∈ os ↔ ∃ h ∈ hs, GoesO ports port f n h ∧ o = outF port f n h) :
    (os.map OutD.port).Perm ((hs.filter fun h => decide (GoesO ports port f n h)).map Hd.port) := by
  obtain ⟨hn, hp⟩ := hr.plain
  have hon : os.Nodup := hs1.imp fun {a b} k e => by
    rw [e] at k
    have := ocmp_cm.refl b
    omega
  have hgn : ((hs.filter fun h => decide (GoesO ports port f n h)).map (outF port f n)).Nodup := by
    refine List.pairwise_map.2 ((hn.filter _).imp_of_mem fun {x y} hx hy hne e => hne ?_)
    rw [List.mem_filter] at hx hy
    exact outF_inj hf he (hR x hx.1) (hp x hx.1) (hp y hy.1) (of_decide_eq_true hx.2) (of_decide_eq_true hy.2) e
  have hperm : os.Perm ((hs.filter fun h => decide (GoesO ports port f n h)).map (outF port f n)) := by
    refine (List.perm_ext_iff_of_nodup hon hgn).2 fun o => (hm o).trans ?_
    rw [List.mem_map]
    exact ⟨fun ⟨h, h1, h2, h3⟩ => ⟨h, List.mem_filter.2 ⟨h1, decide_eq_true h2⟩, h3.symm⟩, fun ⟨h, h1, h2⟩ => ⟨h, (List.mem_filter.1 h1).1, of_decide_eq_true (List.mem_filter.1 h1).2, h2.symm⟩⟩
  have := hperm.map OutD.port
  rwa [List.map_map] at this
end Go.Proofs.YtkeonnnhogaggaaGreatDoor
/- FabricPuts. -/
namespace Go.Proofs.YtkeonnnhogaggaaGreatDoor
open Go.RowKit Go.Sort

theorem FNewBad_c (w : World) (ports n : Int) (hp : ¬ (1 ≤ ports ∧ ports ≤ 16)) : Calls Tryz.prog 18 #[.int .i64 ports, .int .i64 n] w fun e w' => e = .returned (.tuple #[.pointer none, .int .i64 1]) ∧ Frm (fun _ => False) w w' := by
  refine enter Tryz.func18 rfl Tryz.ntmps18 rfl (St.start (fun _ => False) w) ?_
  refine WC.seq <| WC.region <| WL.v (v_assign rfl rfl) rfl <| WL.v (v_assign rfl rfl) rfl <| WL.nt <| WC.seq <| WC.seq <| WC.region <| WL.v (v_move rfl rfl) rfl <| ?_
  refine WL.test (v_lss rfl rfl rfl) (.none rfl) rfl rfl (fun h9 => ?_) (fun h9 => ?_)
  ·
   refine WL.v (v_move rfl rfl) rfl ?_
   iterate 2 refine WL.sk rfl ?_
   refine WL.v (v_pick_t rfl rfl rfl) rfl <| WL.nt <| WC.cond_t rfl <| WC.seq <| WC.region <| WL.v (v_assign rfl rfl) rfl <| WL.v (v_assign rfl rfl) rfl <| WL.nt <| WC.ret <| WE.then_ret <| WE.ret2 (P := Tryz.prog) (.inl rfl) Tryz.results18 rfl rfl <| ?_
   exact fun w' h => ⟨rfl, h.frm⟩
  ·
   refine WL.v (v_move rfl rfl) rfl <| WL.val (v_move rfl rfl) (.some rfl rfl rfl) rfl rfl <| ?_
   refine WL.val ((v_gtr rfl rfl rfl).t (by omega)) (.some rfl rfl rfl) rfl rfl ?_
   refine WL.v (v_pick_f rfl rfl rfl) rfl <| WL.nt <| WC.cond_t rfl <| WC.seq <| WC.region <| WL.v (v_assign rfl rfl) rfl <| WL.v (v_assign rfl rfl) rfl <| WL.nt <| WC.ret <| WE.then_ret <| WE.ret2 (P := Tryz.prog) (.inl rfl) Tryz.results18 rfl rfl <| ?_
   exact fun w' h => ⟨rfl, h.frm⟩
theorem PutNil_c (w : World) : Calls Tryz.prog 20 #[.pointer none, .int .i64 0, .slice none 0 0] w fun e w' => e = .returned (.tuple #[.slice none 0 0, .int .i64 1]) ∧ Frm (fun _ => False) w w' := by
  refine enter Tryz.func20 rfl Tryz.ntmps20 rfl (St.start (fun _ => False) w) ?_
  refine WC.seq <| WC.region <| WL.v (v_assign rfl rfl) rfl <| WL.v (v_assign rfl rfl) rfl <| WL.nt <| WC.seq <| WC.seq <| WC.region <| WL.v (v_move rfl rfl) rfl <| WL.v (v_eql_nil true rfl rfl Tryz.underlying42 rfl) rfl <| WL.v (v_move rfl rfl) rfl <| ?_
  iterate 2 refine WL.sk rfl ?_
  refine WL.v (v_pick_t rfl rfl rfl) rfl <| WL.v (v_move rfl rfl) rfl <| ?_
  iterate 6 refine WL.sk rfl ?_
  refine WL.v (v_pick_t rfl rfl rfl) rfl <| WL.nt <| WC.cond_t rfl <| WC.seq <| WC.region <| WL.v (v_assign rfl rfl) rfl <| WL.v (v_assign rfl rfl) rfl <| WL.nt <| WC.ret <| WE.then_ret <| WE.ret2 (P := Tryz.prog) (.inl rfl) Tryz.results20 rfl rfl <| ?_
  exact fun w' h => ⟨rfl, h.frm⟩
theorem PortsNil_c (w : World) : Calls Tryz.prog 24 #[.pointer none] w fun e w' => e = .returned (.int .i64 0) ∧ Frm (fun _ => False) w w' := by
  refine enter Tryz.func24 rfl Tryz.ntmps24 rfl (St.start (fun _ => False) w) ?_
  refine WC.seq <| WC.region <| WL.v (v_assign rfl rfl) rfl <| WL.nt <| WC.seq <| WC.seq <| WC.region <| WL.v (v_move rfl rfl) rfl <| WL.v (v_eql_nil true rfl rfl Tryz.underlying42 rfl) rfl <| WL.nt <| WC.cond_t rfl <| WC.seq <| WC.region <| WL.v (v_assign rfl rfl) rfl <| ?_
  refine WL.nt <| WC.ret <| WE.then_ret <| WE.ret1 (P := Tryz.prog) (.inl rfl) Tryz.results24 rfl <| ?_
  exact fun w' h => ⟨rfl, h.frm⟩
theorem Ports_c (w : World) (g : Nat) (v : Int) (h : w.cell? ⟨g, 5, none⟩ = some (.int .i64 v)) : Calls Tryz.prog 24 #[.pointer (some ⟨g, 0, none⟩)] w fun e w' => e = .returned (.int .i64 v) ∧ Frm (fun _ => False) w w' := by
  refine enter Tryz.func24 rfl Tryz.ntmps24 rfl (St.start (fun _ => False) w) ?_
  refine WC.seq <| WC.region <| WL.v (v_assign rfl rfl) rfl <| WL.nt <| WC.seq <| WC.seq <| WC.region <| WL.v (v_move rfl rfl) rfl <| WL.v (v_eql_nil false rfl rfl Tryz.underlying42 rfl) rfl <| WL.nt <| WC.cond_f rfl <| WC.skip <| WE.then_n <| WC.seq <| ?_
  refine WC.region <| WL.v (v_move rfl rfl) rfl <| WL.v (v_nilCheck rfl rfl) rfl <| WL.v (v_fieldAddr0 rfl rfl fld_49_2) rfl <| WL.v (v_load1 rfl rfl one_3 (fun w' hS => hS.old (fun h => h) h)) rfl <| WL.v (v_assign rfl rfl) rfl <| WL.nt <| WC.ret <| WE.ret1 (P := Tryz.prog) (.inl rfl) Tryz.results24 rfl <| ?_
  exact fun w' h => ⟨rfl, h.frm⟩
theorem rdO_vec {w : World} {a : Option Addr} {n c : Nat} {f : Nat → Int} {E : List Ent} (h : Vec 1 a n c (bcs f n) E) (hE : ∀ e ∈ E, e.holds w) : RdO w a n f := rd_bl (by rw [b8s_bl]; exact h.rg hE)
/-- The counts of a switch, i frames in. -/
structure SwI (gT : Nat) (ports : Int) (i : Nat) (s : SwL) : Prop where
  t : s.gT = gT
  p : s.ports = ports
  in_ : 0 ≤ s.in_ ∧ s.in_ ≤ i
  out : 0 ≤ s.out ∧ s.out ≤ 64 * i
  wrong : 0 ≤ s.wrong ∧ s.wrong ≤ i
  nought : 0 ≤ s.nought ∧ s.nought ≤ i
def SwL.tly (s : SwL) : List Value := [.int .i64 s.in_, .int .i64 s.out, .int .i64 s.wrong, .int .i64 s.nought]
structure PtS where
  i : Nat
  s : SwL
theorem FabricPuts_bad (w0 : World) (hG : GW w0) (ports : Int) (hpo : ¬ (1 ≤ ports ∧ ports ≤ 16)) (ia : Option Addr) (ic ni : Nat) (fa : Option Addr) (fc nf : Nat) (aa : Option Addr) (ac na : Nat) :
    Calls Tryz.prog 7 #[.int .i64 ports, .slice ia ni ic, .slice fa nf fc, .slice aa na ac] w0 fun e w' => e = .returned (.bool true) ∧ Frm (fun _ => False) w0 w' := by
  refine enter Tryz.func7 rfl Tryz.ntmps7 rfl (St.start (fun _ => False) w0) ?_
  refine WC.seq <| WC.region <| WL.v (v_assign rfl rfl) rfl <| WL.nt <| WC.seq <| WC.seq <| WC.region <| WL.call rfl rfl ck_17 (.none rfl) rfl rfl <| ?_
  intro w hS
  refine Calls.then (Head20_c w (hG.keep (fun h => h) hS)) hS ?_
  refine WL.v (v_not rfl rfl rfl) rfl <| WL.nt <| WC.cond_f rfl <| WC.skip <| WE.then_n <| WC.seq <| WC.seq <| WC.region <| WL.v (v_move rfl rfl) rfl <| WL.v (v_len_slice rfl rfl Tryz.underlying40) rfl <| ?_
  refine WL.test (v_gtr rfl rfl rfl) (.none rfl) rfl rfl (fun h36 => ?_) (fun h36 => ?_)
  ·
   refine WL.v (v_move rfl rfl) rfl ?_
   iterate 3 refine WL.sk rfl ?_
   refine WL.v (v_pick_t rfl rfl rfl) rfl <| WL.v (v_move rfl rfl) rfl <| ?_
   iterate 3 refine WL.sk rfl ?_
   refine WL.v (v_pick_t rfl rfl rfl) rfl <| WL.nt <| WC.cond_t rfl <| WC.seq <| WC.region <| WL.v (v_assign rfl rfl) rfl <| WL.nt <| WC.ret <| WE.then_ret <| WE.ret1 (P := Tryz.prog) (.inl rfl) Tryz.results7 rfl <| ?_
   exact fun w' h => ⟨rfl, h.frm⟩
  ·
   refine WL.v (v_move rfl rfl) rfl <| WL.val (v_move rfl rfl) (.some rfl rfl rfl) rfl rfl <| WL.val (v_len_slice rfl rfl Tryz.underlying72) (.some rfl rfl rfl) rfl rfl <| ?_
   refine WL.test (v_gtr rfl rfl rfl) (.some rfl rfl rfl) rfl rfl (fun h40 => ?_) (fun h40 => ?_)
   ·
    refine WL.v (v_pick_f rfl rfl rfl) rfl <| WL.v (v_move rfl rfl) rfl <| ?_
    iterate 3 refine WL.sk rfl ?_
    refine WL.v (v_pick_t rfl rfl rfl) rfl <| WL.nt <| WC.cond_t rfl <| WC.seq <| WC.region <| WL.v (v_assign rfl rfl) rfl <| WL.nt <| WC.ret <| WE.then_ret <| WE.ret1 (P := Tryz.prog) (.inl rfl) Tryz.results7 rfl <| ?_
    exact fun w' h => ⟨rfl, h.frm⟩
   ·
    refine WL.v (v_pick_f rfl rfl rfl) rfl <| WL.v (v_move rfl rfl) rfl <| WL.val (v_move rfl rfl) (.some rfl rfl rfl) rfl rfl <| WL.val (v_len_slice rfl rfl Tryz.underlying74) (.some rfl rfl rfl) rfl rfl <| ?_
    refine WL.test (v_gtr rfl rfl rfl) (.some rfl rfl rfl) rfl rfl (fun h45 => ?_) (fun h45 => ?_)
    ·
     refine WL.v (v_pick_f rfl rfl rfl) rfl <| WL.nt <| WC.cond_t rfl <| WC.seq <| WC.region <| WL.v (v_assign rfl rfl) rfl <| WL.nt <| WC.ret <| WE.then_ret <| WE.ret1 (P := Tryz.prog) (.inl rfl) Tryz.results7 rfl <| ?_
     exact fun w' h => ⟨rfl, h.frm⟩
    ·
     refine WL.v (v_pick_f rfl rfl rfl) rfl <| WL.nt <| WC.cond_f rfl <| WC.skip <| WE.then_n <| WC.seq <| WC.region <| WL.v (v_move rfl rfl) rfl <| WL.call rfl rfl ck_18 (.none rfl) rfl rfl <| ?_
     intro w hS
     refine Calls.then (FNewBad_c w ports 20 hpo) hS ?_
     refine WL.v (v_move rfl rfl) rfl <| WL.v (v_extract rfl rfl rfl) rfl <| WL.v (v_extract rfl rfl rfl) rfl <| WL.v (v_assign rfl rfl) rfl <| WL.v (v_assign rfl rfl) rfl <| WL.nt <| WC.seq <| WC.seq <| WC.region <| WL.v (v_move rfl rfl) rfl <| ?_
     refine WL.test (v_lss rfl rfl rfl) (.none rfl) rfl rfl (fun h53 => ?_) (fun h53 => ?_)
     ·
      refine WL.v (v_move rfl rfl) rfl ?_
      iterate 2 refine WL.sk rfl ?_
      refine WL.v (v_pick_t rfl rfl rfl) rfl <| WL.nt <| WC.cond_t rfl <| WC.seq <| WC.region <| WL.v (v_move rfl rfl) rfl <| WL.call rfl rfl ck_20 (.none rfl) rfl rfl <| ?_
      intro w hS
      refine Calls.then (PutNil_c w) hS ?_
      refine WL.v (v_move rfl rfl) rfl <| WL.v (v_extract rfl rfl rfl) rfl <| WL.v (v_extract rfl rfl rfl) rfl <| WL.v (v_assign rfl rfl) rfl <| WL.v (v_assign rfl rfl) rfl <| WL.nt <| WC.seq <| WC.region <| WL.v (v_move rfl rfl) rfl <| WL.v ((v_eql rfl rfl rfl).t (rfl)) rfl <| WL.v (v_move rfl rfl) rfl <| WL.val (v_move rfl rfl) (.some rfl rfl rfl) rfl rfl <| WL.val (v_eql_nil true rfl rfl Tryz.underlying42 rfl) (.some rfl rfl rfl) rfl rfl <| WL.v (v_pick_t rfl rfl rfl) rfl <| ?_
      refine WL.v (v_move rfl rfl) rfl <| WL.val (v_move rfl rfl) (.some rfl rfl rfl) rfl rfl <| WL.val ((v_eql rfl rfl rfl).t (rfl)) (.some rfl rfl rfl) rfl rfl <| WL.v (v_pick_t rfl rfl rfl) rfl <| WL.v (v_move rfl rfl) rfl <| WL.val (v_move rfl rfl) (.some rfl rfl rfl) rfl rfl <| WL.call rfl rfl ck_24 (.some rfl rfl rfl) rfl rfl <| ?_
      intro w hS
      refine Calls.then (PortsNil_c w) hS ?_
      refine WL.val ((v_eql rfl rfl rfl).t (rfl)) (.some rfl rfl rfl) rfl rfl <| WL.v (v_pick_t rfl rfl rfl) rfl <| WL.v (v_assign rfl rfl) rfl <| WL.nt <| WC.ret <| WE.then_ret <| WE.ret1 (P := Tryz.prog) (.inl rfl) Tryz.results7 rfl <| ?_
      exact fun w' h => ⟨rfl, h.frm⟩
     ·
      refine WL.v (v_move rfl rfl) rfl <| WL.val (v_move rfl rfl) (.some rfl rfl rfl) rfl rfl <| ?_
      refine WL.val ((v_gtr rfl rfl rfl).t (by omega)) (.some rfl rfl rfl) rfl rfl ?_
      refine WL.v (v_pick_f rfl rfl rfl) rfl <| WL.nt <| WC.cond_t rfl <| WC.seq <| WC.region <| WL.v (v_move rfl rfl) rfl <| WL.call rfl rfl ck_20 (.none rfl) rfl rfl <| ?_
      intro w hS
      refine Calls.then (PutNil_c w) hS ?_
      refine WL.v (v_move rfl rfl) rfl <| WL.v (v_extract rfl rfl rfl) rfl <| WL.v (v_extract rfl rfl rfl) rfl <| WL.v (v_assign rfl rfl) rfl <| WL.v (v_assign rfl rfl) rfl <| WL.nt <| WC.seq <| WC.region <| WL.v (v_move rfl rfl) rfl <| WL.v ((v_eql rfl rfl rfl).t (rfl)) rfl <| WL.v (v_move rfl rfl) rfl <| WL.val (v_move rfl rfl) (.some rfl rfl rfl) rfl rfl <| WL.val (v_eql_nil true rfl rfl Tryz.underlying42 rfl) (.some rfl rfl rfl) rfl rfl <| WL.v (v_pick_t rfl rfl rfl) rfl <| ?_
      refine WL.v (v_move rfl rfl) rfl <| WL.val (v_move rfl rfl) (.some rfl rfl rfl) rfl rfl <| WL.val ((v_eql rfl rfl rfl).t (rfl)) (.some rfl rfl rfl) rfl rfl <| WL.v (v_pick_t rfl rfl rfl) rfl <| WL.v (v_move rfl rfl) rfl <| WL.val (v_move rfl rfl) (.some rfl rfl rfl) rfl rfl <| WL.call rfl rfl ck_24 (.some rfl rfl rfl) rfl rfl <| ?_
      intro w hS
      refine Calls.then (PortsNil_c w) hS ?_
      refine WL.val ((v_eql rfl rfl rfl).t (rfl)) (.some rfl rfl rfl) rfl rfl <| WL.v (v_pick_t rfl rfl rfl) rfl <| WL.v (v_assign rfl rfl) rfl <| WL.nt <| WC.ret <| WE.then_ret <| WE.ret1 (P := Tryz.prog) (.inl rfl) Tryz.results7 rfl <| ?_
      exact fun w' h => ⟨rfl, h.frm⟩
theorem WL.rowFb {P : Program} {ops : Array Oper} {Q : Exit → Act → World → Prop} {n : Nat} {p : Nat → Prop} {w0 : World} {rest : List Oper} {l : Kn} {L L' : List Ent} {g : Nat} {cs cs' : List Value} [ha : At L g cs] [hp : Put L g (.row g cs') L'] (e : cs = cs')
    (h : WL P ops Q n p w0 rest l L') : WL P ops Q n p w0 rest l L := fun a w hA hS => h a w hA (by
  have hm := ha.mem
  rw [e] at hm
  obtain ⟨A, B, e', h1, h2, h3⟩ := hp.ok rfl
  rw [h2]
  have hd : (A ++ Ent.row g cs' :: B).map Ent.at = L.map Ent.at := by
    rw [h1, List.map_append, List.map_append, List.map_cons, List.map_cons, h3]
    rfl
  have hin : ∀ x ∈ A ++ Ent.row g cs' :: B, x ∈ L := fun x hx => by
    rcases List.mem_append.1 hx with hx | hx
    · rw [h1]; exact List.mem_append_left _ hx
    · rcases List.mem_cons.1 hx with rfl | hx
      · exact hm
      · rw [h1]; exact List.mem_append_right _ (List.mem_cons_of_mem _ hx)
  exact ⟨hS.frm, fun x hx => hS.holds x (hin x hx), by rw [hd]; exact hS.dist, fun x hx => hS.mine x (hin x hx)⟩)
structure FlS where
  k : Nat
  ys : List Value
  E : List Ent
structure CnS where
  j : Nat
  n : Nat
noncomputable def goB (ports port : Int) (f : Nat → Int) (n : Nat) (h : Hd) : Bool := @decide (GoesO ports port f n h) (Classical.propDecidable _)
theorem goB_t {ports port : Int} {f : Nat → Int} {n : Nat} {h : Hd} : goB ports port f n h = true ↔ GoesO ports port f n h := @decide_eq_true_iff _ (Classical.propDecidable _)
theorem cnt_yes {b : Hd → Bool} {hs : List Hd} {j : Nat} {h : Hd} (hj : hs[j]? = some h) (hb : b h = true) : ((hs.take (j + 1)).filter b).length = ((hs.take j).filter b).length + 1 := by
  rw [List.take_add_one, hj, Option.toList_some, List.filter_append, List.length_append]
  show _ + ([h].filter b).length = _
  rw [List.filter_cons, if_pos hb]; rfl
theorem cnt_no {b : Hd → Bool} {hs : List Hd} {j : Nat} {h : Hd} (hj : hs[j]? = some h) (hb : ¬ b h = true) : ((hs.take (j + 1)).filter b).length = ((hs.take j).filter b).length := by
  rw [List.take_add_one, hj, Option.toList_some, List.filter_append, List.length_append]
  show _ + ([h].filter b).length = _
  rw [List.filter_cons, if_neg hb]; rfl
theorem out_len {ports port : Int} {f : Nat → Int} {n : Nat} {es : List EnL} {hs : List Hd} {os : List OutL} (hf : Byt f) (he : prErr port f n = 0) (hr : TRunP es (prHd port f) hs) (hR : ∀ x ∈ hs, x.Rt) (hs1 : (os.map OutL.d).Pairwise fun a b => ocmp a b < 0) (hm : ∀ o, o ∈ os.map OutL.d ↔ ∃ h ∈ hs, GoesO ports port f n h ∧ o = outF port f n h) :
    os.length = (hs.filter fun h => goB ports port f n h).length := by
  have := (outs_ports hf he hr hR hs1 hm).length_eq
  rwa [List.length_map, List.length_map, List.length_map] at this
theorem pack_inj {H W H' W' : Hd} {r r' : ByteArray} {p p' e e' : Int} (h : packV H W r p e = packV H' W' r' p' e') : pkL H W r p e = pkL H' W' r' p' e' := by
  unfold packV pkCells at h
  injection h with h
  exact List.toArray_inj h
theorem SwI.step {gT : Nat} {ports : Int} {i : Nat} {s s' : SwL} {port : Int} {f : Nat → Int} {n : Nat} {code : Int} {es : List EnL} {os : List OutD} (h : SwI gT ports i s) (hP : PutP s es port f n code os s') : SwI gT ports (i + 1) s' := by
  obtain ⟨a, b, c, d, e, g⟩ := h
  by_cases hp : 0 ≤ port ∧ port < s.ports
  · by_cases he : prErr port f n = 0
    · obtain ⟨-, -, hl, -, hs⟩ := hP.ok hp he
      rw [hs]
      refine ⟨a, b, by dsimp only; omega, by dsimp only; omega, by dsimp only; omega, ?_⟩
      dsimp only
      split <;> omega
    · rw [(hP.err hp he).2.2]
      exact ⟨a, b, by dsimp only; omega, by dsimp only; omega, by dsimp only; omega, by dsimp only; omega⟩
  · rw [(hP.bad hp).2.2]
    exact ⟨a, b, by omega, by omega, by omega, by omega⟩
set_option maxRecDepth 8000 in
set_option maxHeartbeats 8000000 in
theorem FabricPuts_ok (w0 : World) (hG : GW w0) (ports : Int) (hpo : 1 ≤ ports ∧ ports ≤ 16) (ia : Option Addr) (ic : Nat) (ins : List EnL) (hi : Rg w0 ia (ensL ins)) (hI : ∀ x ∈ ins, InOk w0 x) (fa : Option Addr) (fc : Nat) (fs : List FrL) (hr : Rg w0 fa (encL FrL.cells fs)) (hx : ∀ x ∈ fs, FrOk w0 x) (aa : Option Addr) (ac : Nat) (ats : List Int) (ha : Rg w0 aa (encL (fun v => [Value.int .i64 v]) ats)) :
    Calls Tryz.prog 7 #[.int .i64 ports, .slice ia ins.length ic, .slice fa fs.length fc, .slice aa ats.length ac] w0 fun e w' => e = .returned (.bool true) ∧ Frm (fun _ => False) w0 w' := by
  refine enter Tryz.func7 rfl Tryz.ntmps7 rfl (St.start (fun _ => False) w0) ?_
  refine WC.seq <| WC.region <| WL.v (v_assign rfl rfl) rfl <| WL.nt <| WC.seq <| WC.seq <| WC.region <| WL.call rfl rfl ck_17 (.none rfl) rfl rfl <| ?_
  intro w hS
  refine Calls.then (Head20_c w (hG.keep (fun h => h) hS)) hS ?_
  refine WL.v (v_not rfl rfl rfl) rfl <| WL.nt <| WC.cond_f rfl <| WC.skip <| WE.then_n <| WC.seq <| WC.seq <| WC.region <| WL.v (v_move rfl rfl) rfl <| WL.v (v_len_slice rfl rfl Tryz.underlying40) rfl <| ?_
  refine WL.test (v_gtr rfl rfl rfl) (.none rfl) rfl rfl (fun h36 => ?_) (fun h36 => ?_)
  ·
   refine WL.v (v_move rfl rfl) rfl ?_
   iterate 3 refine WL.sk rfl ?_
   refine WL.v (v_pick_t rfl rfl rfl) rfl <| WL.v (v_move rfl rfl) rfl <| ?_
   iterate 3 refine WL.sk rfl ?_
   refine WL.v (v_pick_t rfl rfl rfl) rfl <| WL.nt <| WC.cond_t rfl <| WC.seq <| WC.region <| WL.v (v_assign rfl rfl) rfl <| WL.nt <| WC.ret <| WE.then_ret <| WE.ret1 (P := Tryz.prog) (.inl rfl) Tryz.results7 rfl <| ?_
   exact fun w' h => ⟨rfl, h.frm⟩
  ·
   refine WL.v (v_move rfl rfl) rfl <| WL.val (v_move rfl rfl) (.some rfl rfl rfl) rfl rfl <| WL.val (v_len_slice rfl rfl Tryz.underlying72) (.some rfl rfl rfl) rfl rfl <| ?_
   refine WL.test (v_gtr rfl rfl rfl) (.some rfl rfl rfl) rfl rfl (fun h40 => ?_) (fun h40 => ?_)
   ·
    refine WL.v (v_pick_f rfl rfl rfl) rfl <| WL.v (v_move rfl rfl) rfl <| ?_
    iterate 3 refine WL.sk rfl ?_
    refine WL.v (v_pick_t rfl rfl rfl) rfl <| WL.nt <| WC.cond_t rfl <| WC.seq <| WC.region <| WL.v (v_assign rfl rfl) rfl <| WL.nt <| WC.ret <| WE.then_ret <| WE.ret1 (P := Tryz.prog) (.inl rfl) Tryz.results7 rfl <| ?_
    exact fun w' h => ⟨rfl, h.frm⟩
   ·
    refine WL.v (v_pick_f rfl rfl rfl) rfl <| WL.v (v_move rfl rfl) rfl <| WL.val (v_move rfl rfl) (.some rfl rfl rfl) rfl rfl <| WL.val (v_len_slice rfl rfl Tryz.underlying74) (.some rfl rfl rfl) rfl rfl <| ?_
    refine WL.test (v_gtr rfl rfl rfl) (.some rfl rfl rfl) rfl rfl (fun h45 => ?_) (fun h45 => ?_)
    ·
     refine WL.v (v_pick_f rfl rfl rfl) rfl <| WL.nt <| WC.cond_t rfl <| WC.seq <| WC.region <| WL.v (v_assign rfl rfl) rfl <| WL.nt <| WC.ret <| WE.then_ret <| WE.ret1 (P := Tryz.prog) (.inl rfl) Tryz.results7 rfl <| ?_
     exact fun w' h => ⟨rfl, h.frm⟩
    ·
     refine WL.v (v_pick_f rfl rfl rfl) rfl <| WL.nt <| WC.cond_f rfl <| WC.skip <| WE.then_n <| WC.seq <| WC.region <| WL.v (v_move rfl rfl) rfl <| WL.call rfl rfl ck_18 (.none rfl) rfl rfl <| ?_
     intro w1 hS
     refine (FNew_c w1 ports 20 hpo (by decide)).mono ?_
     rintro e w' ⟨gS, gT, rfl, hS'⟩
     refine ⟨_, [.row gS (SwL.cells ⟨gT, 0, 0, 0, 0, ports⟩), .row gT (TbL.cells ⟨20, none, 0, []⟩)], rfl, hS.join hS', ?_⟩
     refine WL.v (v_move rfl rfl) rfl <| WL.v (v_extract rfl rfl rfl) rfl <| WL.v (v_extract rfl rfl rfl) rfl <| WL.v (v_assign rfl rfl) rfl <| WL.v (v_assign rfl rfl) rfl <| WL.nt <| WC.seq <| WC.seq <| WC.region <| WL.v (v_move rfl rfl) rfl <| ?_
     refine WL.v ((v_lss rfl rfl rfl).f (by omega)) rfl ?_
     refine WL.v (v_move rfl rfl) rfl <| WL.val (v_move rfl rfl) (.some rfl rfl rfl) rfl rfl <| ?_
     refine WL.val ((v_gtr rfl rfl rfl).f (by omega)) (.some rfl rfl rfl) rfl rfl ?_
     refine WL.v (v_pick_f rfl rfl rfl) rfl <| WL.nt <| WC.cond_f rfl <| WC.skip <| WE.then_n <| WC.seq <| WC.seq <| WC.region <| WL.v (v_move rfl rfl) rfl <| ?_
     refine WL.v ((v_neq rfl rfl rfl).f (by omega)) rfl ?_
     refine WL.v (v_move rfl rfl) rfl <| WL.val (v_move rfl rfl) (.some rfl rfl rfl) rfl rfl <| WL.call rfl rfl ck_24 (.some rfl rfl rfl) rfl rfl <| ?_
     intro w hS
     refine Calls.then (Ports_c w gS ports (hS.cell (g := gS) rfl)) hS ?_
     refine WL.val (v_move rfl rfl) (.some rfl rfl rfl) rfl rfl <| WL.val ((v_neq rfl rfl rfl).f ((fun h => h rfl))) (.some rfl rfl rfl) rfl rfl <| WL.v (v_pick_f rfl rfl rfl) rfl <| WL.v (v_move rfl rfl) rfl <| WL.val (v_move rfl rfl) (.some rfl rfl rfl) rfl rfl <| WL.val (v_nilCheck rfl rfl) (.some rfl rfl rfl) rfl rfl <| WL.val (v_fieldAddr0 rfl rfl fld_49_0) (.some rfl rfl rfl) rfl rfl <| WL.val (v_load1 rfl rfl one_45 (cellAt (v := .pointer (some ⟨gT, 0, none⟩)) rfl)) (.some rfl rfl rfl) rfl rfl <| WL.val (v_eql_nil false rfl rfl Tryz.underlying45 rfl) (.some rfl rfl rfl) rfl rfl <| WL.v (v_pick_f rfl rfl rfl) rfl <| WL.nt <| WC.cond_f rfl <| WC.skip <| WE.then_n <| ?_
     refine WC.seq <| WC.region <| WL.v (v_move rfl rfl) rfl <| WL.v (v_nilCheck rfl rfl) rfl <| WL.v (v_fieldAddr0 rfl rfl fld_49_0) rfl <| WL.v (v_load1 rfl rfl one_45 (cellAt (v := .pointer (some ⟨gT, 0, none⟩)) rfl)) rfl <| WL.v (v_move rfl rfl) rfl <| WL.call rfl rfl ck_19 (.none rfl) rfl rfl <| ?_
     intro w1 hS
     refine (Change_c (fun _ => False) w0 w1 [.row gS (SwL.cells ⟨gT, 0, 0, 0, 0, ports⟩)] [] [] gT ⟨20, none, 0, []⟩ none 0 [] ia ic ins (fun h => h) hG (Vec.nil 21) (fun e he => by cases he) hS.permX (fun w h hn => absurd rfl hn) (fun w h => hi.frm h.frm (fun _ _ _ h => h)) (fun w h x hx => ⟨(hI x hx).i, (hI x hx).rd.frm h.frm (fun _ _ _ h => h)⟩) (by decide) List.Pairwise.nil (by decide) (by decide) (by omega)).mono ?_
     rintro e w' ⟨code, ⟨most, tad, tc, es⟩, E2, K2, rfl, rfl, hCh, hV2, hK2, hS'⟩
     obtain ⟨hen, hel⟩ := En_of hCh (fun x hx => (hI x hx).i)
     have hel : es.length ≤ ins.length := hel
     refine ⟨_, .row gS (SwL.cells ⟨gT, 0, 0, 0, 0, ports⟩) :: .row gT (TbL.cells ⟨20, tad, tc, es⟩) :: (E2 ++ K2), rfl, hS'.permX, ?_⟩
     refine WL.nt <| WC.seq <| WC.region <| WL.v (v_build rfl rfl zero_47 plc_47 rfl) rfl <| WL.alloc rfl zero_47 (.none rfl) rfl rfl <| ?_
     intro g13 hg13
     refine WL.storeW rfl rfl rfl rfl many_47 rfl rfl (.none rfl) rfl <| WL.to (L' := .row gS (SwL.cells ⟨gT, 0, 0, 0, 0, ports⟩) :: .row g13 (SwL.tly ⟨gT, 0, 0, 0, 0, ports⟩) :: .row gT (TbL.cells ⟨20, tad, tc, es⟩) :: (E2 ++ K2)) (fun w hS => St.permX (L := .row g13 (SwL.tly ⟨gT, 0, 0, 0, 0, ports⟩) :: .row gS (SwL.cells ⟨gT, 0, 0, 0, 0, ports⟩) :: .row gT (TbL.cells ⟨20, tad, tc, es⟩) :: (E2 ++ K2)) hS) <| WL.nt <| WC.seq <| WC.seq <| WC.region <| WL.v (v_move rfl rfl) rfl <| WL.v (v_len_slice rfl rfl Tryz.underlying72) rfl <| WL.v (v_move rfl rfl) rfl <| WL.nt <| WC.block <| ?_
     refine WC.loop (fun x : PtS => [(102, .int .i64 x.i), (101, .int .i64 fs.length), (100, .slice fa fs.length fc), (9, .pointer (some ⟨gS, 0, none⟩)), (13, .pointer (some ⟨g13, 0, none⟩)), (0, .int .i64 ports), (3, .slice aa ats.length ac)]) (fun x => .row gS x.s.cells :: .row g13 x.s.tly :: .row gT (TbL.cells ⟨20, tad, tc, es⟩) :: (E2 ++ K2)) (fun x => x.i ≤ fs.length ∧ SwI gT ports x.i x.s) (fun x => fs.length - x.i) ⟨0, ⟨gT, 0, 0, 0, 0, ports⟩⟩ ⟨Nat.zero_le _, ⟨rfl, rfl, by dsimp only; omega, by dsimp only; omega, by dsimp only; omega, by dsimp only; omega⟩⟩ (.cons rfl (.cons rfl (.cons rfl (.cons rfl (.cons rfl (.cons rfl (.cons rfl .nil))))))) (.refl _) ?_
     rintro ⟨i, s⟩ ⟨hil, hsi⟩
     dsimp only at hil hsi
     dsimp only
     obtain ⟨st, sp, si1, so1, sw1, sn1⟩ := hsi
     refine WC.seq <| WC.region <| ?_
     refine WL.test (v_lss rfl rfl rfl) (.none rfl) rfl rfl (fun h103 => ?_) (fun h103 => ?_)
     ·
      refine WL.nt <| WC.seq <| WC.cond_t rfl <| WC.skip <| WE.then_n <| WC.seq <| WC.block <| WC.seq <| WC.region <| WL.v (v_move rfl rfl) rfl <| ?_
      obtain ⟨x', hxk⟩ : ∃ x, fs[i]? = some x := ⟨fs[i]'(by omega), List.getElem?_eq_getElem _⟩
      obtain ⟨b1, o1, ea1, q1⟩ := hr (by intro hh; have := encL_len (enc := FrL.cells) (k := 1) (fun _ => rfl) fs; rw [hh] at this; simp at this; omega)
      have hxo := hx x' (List.mem_of_getElem? hxk)
      refine WL.v ((v_indexAddr (b := b1) (off := o1) (lo := i) rfl (by show some (Value.slice fa _ _) = _; rw [ea1]) rfl Tryz.underlying72 sz_41 rfl (by omega))) rfl ?_
      refine WL.val (v_load1 rfl rfl one_41 (v := .slice x'.ad x'.n x'.c) (fun w hS => by
      have := rgIn (fun h => h) (Rg.seg (enc := FrL.cells) (fun _ => rfl) q1 hxk) w hS 0 _ rfl
      exact this)) (.none rfl) rfl rfl ?_
      refine WL.v (v_assign rfl rfl) rfl <| WL.v (v_assign rfl rfl) rfl <| WL.nt <| WC.seq <| WC.seq <| WC.region <| WL.v (v_move rfl rfl) rfl <| WL.v (v_len_slice rfl rfl Tryz.underlying41) rfl <| ?_
      refine WL.test (v_gtr rfl rfl rfl) (.none rfl) rfl rfl (fun h109 => ?_) (fun h109 => ?_)
      ·
       refine WL.v (v_move rfl rfl) rfl ?_
       iterate 4 refine WL.sk rfl ?_
       refine WL.v (v_pick_t rfl rfl rfl) rfl <| WL.nt <| WC.cond_t rfl <| WC.exit <| WE.then_exit <| WE.block_hit <| WE.then_n <| WC.region <| ?_
       refine WL.v (v_add rfl rfl rfl (w_i64 (by omega) (by omega))) rfl ?_
       refine WL.v (v_move rfl rfl) rfl <| WL.nil <| ?_
       exact WE.next ⟨i + 1, s⟩ (by dsimp only; omega) ⟨by dsimp only; omega, ⟨st, sp, by dsimp only; omega, by dsimp only; omega, by dsimp only; omega, by dsimp only; omega⟩⟩ (.int rfl (by dsimp only; omega) (.cons rfl (.cons rfl (.cons rfl (.cons rfl (.cons rfl (.cons rfl .nil))))))) (.refl _)
      ·
       refine WL.v (v_move rfl rfl) rfl <| WL.val (v_move rfl rfl) (.some rfl rfl rfl) rfl rfl <| WL.val (v_move rfl rfl) (.some rfl rfl rfl) rfl rfl <| WL.val (v_len_slice rfl rfl Tryz.underlying74) (.some rfl rfl rfl) rfl rfl <| ?_
       refine WL.test (v_geq rfl rfl rfl) (.some rfl rfl rfl) rfl rfl (fun h114 => ?_) (fun h114 => ?_)
       ·
        refine WL.v (v_pick_f rfl rfl rfl) rfl <| WL.nt <| WC.cond_t rfl <| WC.exit <| WE.then_exit <| WE.block_hit <| WE.then_n <| WC.region <| ?_
        refine WL.v (v_add rfl rfl rfl (w_i64 (by omega) (by omega))) rfl ?_
        refine WL.v (v_move rfl rfl) rfl <| WL.nil <| ?_
        exact WE.next ⟨i + 1, s⟩ (by dsimp only; omega) ⟨by dsimp only; omega, ⟨st, sp, by dsimp only; omega, by dsimp only; omega, by dsimp only; omega, by dsimp only; omega⟩⟩ (.int rfl (by dsimp only; omega) (.cons rfl (.cons rfl (.cons rfl (.cons rfl (.cons rfl (.cons rfl .nil))))))) (.refl _)
       ·
        refine WL.v (v_pick_f rfl rfl rfl) rfl <| WL.nt <| WC.cond_f rfl <| WC.skip <| WE.then_n <| WC.seq <| WC.region <| WL.v (v_move rfl rfl) rfl <| WL.v (v_move rfl rfl) rfl <| ?_
        obtain ⟨port, hpk⟩ : ∃ x, ats[i]? = some x := ⟨ats[i]'(by omega), List.getElem?_eq_getElem _⟩
        obtain ⟨b2, o2, ea2, q2⟩ := ha (by intro hh; have := encL_len (enc := fun v => [Value.int .i64 v]) (k := 1) (fun _ => rfl) ats; rw [hh] at this; simp at this; omega)
        refine WL.v ((v_indexAddr (b := b2) (off := o2) (lo := i) rfl (by show some (Value.slice aa _ _) = _; rw [ea2]) rfl Tryz.underlying74 sz_3 rfl (by omega))) rfl ?_
        refine WL.val (v_load1 rfl rfl one_3 (v := .int .i64 port) (fun w hS => by
        have := rgIn (fun h => h) (Rg.seg (enc := fun v => [Value.int .i64 v]) (fun _ => rfl) q2 hpk) w hS 0 _ rfl
        exact this)) (.none rfl) rfl rfl ?_
        refine WL.v (v_assign rfl rfl) rfl <| WL.nt <| WC.seq <| WC.region <| WL.v (v_move rfl rfl) rfl <| WL.call rfl rfl ck_25 (.none rfl) rfl rfl <| ?_
        intro w1 hS
        refine (Copy_c (fun _ => False) w0 w1 _ x'.ad x'.n x'.c x'.f hS (fun w h => rdOOld (fun _ h => h) hxo.rd w h) (by omega)).mono ?_
        rintro e w' ⟨ca, cc, Ec, rfl, hcc, hVc, hS'⟩
        refine ⟨_, .row gS s.cells :: (Ec ++ (.row g13 s.tly :: .row gT (TbL.cells ⟨20, tad, tc, es⟩) :: (E2 ++ K2))), rfl, hS'.permX, ?_⟩
        refine WL.v (v_assign rfl rfl) rfl <| WL.nt <| WC.seq <| WC.region <| WL.v (v_move rfl rfl) rfl <| WL.v (v_move rfl rfl) rfl <| WL.v (v_move rfl rfl) rfl <| WL.call rfl rfl ck_20 (.none rfl) rfl rfl <| ?_
        intro w1 hS
        refine (Put_c (p := fun _ => False) (w0 := w0) (L := Ec ++ (.row g13 s.tly :: .row gT (TbL.cells ⟨20, tad, tc, es⟩) :: (E2 ++ K2))) gS s ⟨20, tad, tc, es⟩ port ca x'.n cc x'.f hS (fun h => h) hG (fun w h => by rw [st]; exact tabOk hen hV2 hK2 h (fun e he => by simp [he]) (fun e he => by simp [he]) (by simp)) (fun w h => rdO_vec hVc fun e he => h.holds e (List.mem_append_left _ he)) hxo.byt hcc ⟨by omega, by omega, by omega, by omega, by omega⟩ hen (by show es.length ≤ 5000; omega)).mono ?_
        rintro e w' ⟨code2, oad, oc, os, EO, KO, s', rfl, hP, hVo, hO, hS'⟩
        refine ⟨_, Ec ++ (.row gS s'.cells :: .row g13 s.tly :: .row gT (TbL.cells ⟨20, tad, tc, es⟩) :: (EO ++ (KO ++ (E2 ++ K2)))), rfl, hS'.permX, ?_⟩
        refine WL.v (v_move rfl rfl) rfl <| WL.v (v_extract rfl rfl rfl) rfl <| WL.v (v_extract rfl rfl rfl) rfl <| WL.v (v_assign rfl rfl) rfl <| WL.v (v_assign rfl rfl) rfl <| WL.nt <| WC.seq <| WC.seq <| WC.region <| WL.v (v_move rfl rfl) rfl <| WL.v (v_len_slice rfl rfl Tryz.underlying41) rfl <| WL.v (v_move rfl rfl) rfl <| WL.nt <| WC.block <| ?_
        refine WC.loop (fun x : FlS => [(131, .int .i64 x.k), (130, .int .i64 (x'.n : Int)), (17, .slice ca x'.n cc), (14, .int .i64 i), (15, .slice x'.ad x'.n x'.c), (16, .int .i64 port), (18, .slice oad os.length oc), (19, .int .i64 code2), (102, .int .i64 i), (101, .int .i64 fs.length), (100, .slice fa fs.length fc), (9, .pointer (some ⟨gS, 0, none⟩)), (13, .pointer (some ⟨g13, 0, none⟩)), (0, .int .i64 ports), (3, .slice aa ats.length ac)]) (fun x => x.E ++ (.row gS s'.cells :: .row g13 s.tly :: .row gT (TbL.cells ⟨20, tad, tc, es⟩) :: (EO ++ (KO ++ (E2 ++ K2))))) (fun x => x.k ≤ x'.n ∧ x.ys.length = x'.n ∧ (∀ j, x.k ≤ j → j < x'.n → x.ys[j]? = some (.int .u8 (x'.f j))) ∧ Vec 1 ca x'.n cc x.ys x.E) (fun x => x'.n - x.k) ⟨0, bcs x'.f x'.n, Ec⟩ ⟨Nat.zero_le _, bcs_len _ _, fun j _ hj => bcs_get x'.f x'.n j hj, hVc⟩ (.cons rfl (.cons rfl (.cons rfl (.cons rfl (.cons rfl (.cons rfl (.cons rfl (.cons rfl (.cons rfl (.cons rfl (.cons rfl (.cons rfl (.cons rfl (.cons rfl (.cons rfl .nil))))))))))))))) (.refl _) ?_
        rintro ⟨k, ys, E⟩ ⟨hk, hyl, hys, hVy⟩
        dsimp only at hk hyl hys hVy
        dsimp only
        refine WC.seq <| WC.region <| ?_
        refine WL.test (v_lss rfl rfl rfl) (.none rfl) rfl rfl (fun h132 => ?_) (fun h132 => ?_)
        ·
         refine WL.nt <| WC.seq <| WC.cond_t rfl <| WC.skip <| WE.then_n <| WC.seq <| WC.block <| WC.seq <| WC.region <| WL.v (v_move rfl rfl) rfl <| WL.v (v_assign rfl rfl) rfl <| WL.nt <| WC.region <| WL.v (v_move rfl rfl) rfl <| ?_
         refine WL.v (v_move rfl rfl) rfl ?_
         rcases hVy with ⟨-, hh, -⟩ | ⟨gc, cs, eca, eE, hcx, hcl, hck⟩
         · omega
         have hcg : cs[k]? = some (.int .u8 (x'.f k)) := (by have := hys k (Nat.le_refl _) (by omega); rw [← hcx, List.getElem?_take] at this; split at this; exact this; cases this)
         rw [eE]
         refine WL.as (L' := .row gc cs :: (.row gS s'.cells :: .row g13 s.tly :: .row gT (TbL.cells ⟨20, tad, tc, es⟩) :: (EO ++ (KO ++ (E2 ++ K2))))) rfl ?_
         refine WL.v (v_indexAddr (b := gc) (off := 0) (lo := k) rfl (by show some (Value.slice ca _ _) = _; rw [eca]) rfl Tryz.underlying41 sz_5 rfl (by omega)) rfl ?_
         refine WL.v (v_load1 rfl rfl one_5 (cellAt (v := .int .u8 (x'.f k)) (by rw [show 0 + k * 1 = k by omega]; exact hcg))) rfl ?_
         refine WL.v (v_xor rfl rfl rfl rfl) rfl ?_
         refine WL.v (v_indexAddr (b := gc) (off := 0) (lo := k) rfl (by show some (Value.slice ca _ _) = _; rw [eca]) rfl Tryz.underlying41 sz_5 rfl (by omega)) rfl ?_
         refine WL.store1 rfl rfl rfl rfl one_5 (by have := (List.getElem?_eq_some_iff.1 hcg).1; omega) (.none rfl) rfl ?_
         refine WL.nil <| WE.block_n <| WE.then_n <| WC.region <| ?_
         refine WL.v (v_add rfl rfl rfl (w_i64 (by omega) (by omega))) rfl ?_
         refine WL.v (v_move rfl rfl) rfl <| WL.nil <| ?_
         exact WE.next ⟨k + 1, ys.set k (.int .u8 (bits .xor .u8 (x'.f k) 255)), [.row gc (cs.set k (.int .u8 (bits .xor .u8 (x'.f k) 255)))]⟩ (by dsimp only; omega) ⟨by dsimp only; omega, by dsimp only; rw [List.length_set]; exact hyl, fun j h1 h2 => by dsimp only at h1 ⊢; rw [List.getElem?_set_ne (by omega)]; exact hys j (by omega) h2, by
         dsimp only
         rw [eca]
         refine Vec.row ?_ (by rw [List.length_set]; exact hcl) hck
         rw [← hcx, List.take_set]⟩ (.int rfl (by dsimp only; omega) (.cons rfl (.eq rfl (by rw [eca]) (.cons rfl (.cons rfl (.cons rfl (.cons rfl (.cons rfl (.cons rfl (.cons rfl (.cons rfl (.cons rfl (.cons rfl (.cons rfl (.cons rfl .nil))))))))))))))) (by rw [show 0 + k * 1 = k by omega]; exact .refl _)
        ·
         refine WL.nt <| WC.seq <| WC.cond_f rfl <| WC.exit <| WE.then_exit <| WE.then_exit <| WE.block_hit <| WE.then_n <| WC.seq <| WC.seq <| WC.region <| WL.v (v_move rfl rfl) rfl <| WL.to (L' := .row gS s'.cells :: .row g13 s.tly :: .row gT (TbL.cells ⟨20, tad, tc, es⟩) :: (EO ++ (KO ++ (E2 ++ K2)))) (fun w hS => hS.dropX E) <| ?_
         refine WL.test (v_lss rfl rfl rfl) (.none rfl) rfl rfl (fun h142 => ?_) (fun h142 => ?_)
         ·
          refine WL.v (v_move rfl rfl) rfl ?_
          iterate 3 refine WL.sk rfl ?_
          refine WL.v (v_pick_t rfl rfl rfl) rfl <| WL.nt <| WC.cond_t rfl <| WC.seq <| WC.seq <| WC.region <| WL.v (v_move rfl rfl) rfl <| ?_
          obtain ⟨hc2, ho2, hs2⟩ := hP.bad (by omega)
          obtain rfl : os = [] := List.map_eq_nil_iff.1 ho2
          obtain rfl := hs2.symm
          refine WL.v ((v_neq rfl rfl rfl).f ((by omega))) rfl ?_
          refine WL.v (v_move rfl rfl) rfl <| WL.val (v_move rfl rfl) (.some rfl rfl rfl) rfl rfl <| WL.val (v_len_slice rfl rfl Tryz.underlying51) (.some rfl rfl rfl) rfl rfl <| WL.val ((v_neq rfl rfl rfl).f ((fun h => h rfl))) (.some rfl rfl rfl) rfl rfl <| WL.v (v_pick_f rfl rfl rfl) rfl <| WL.nt <| WC.cond_f rfl <| WC.skip <| WE.then_n <| WC.exit <| WE.then_exit <| WE.block_hit <| WE.then_n <| WC.region <| ?_
          refine WL.v (v_add rfl rfl rfl (w_i64 (by omega) (by omega))) rfl ?_
          refine WL.v (v_move rfl rfl) rfl <| WL.nil <| ?_
          exact WE.next ⟨i + 1, s⟩ (by dsimp only; omega) ⟨by dsimp only; omega, ⟨st, sp, by dsimp only; omega, by dsimp only; omega, by dsimp only; omega, by dsimp only; omega⟩⟩ (.int rfl (by dsimp only; omega) (.cons rfl (.cons rfl (.cons rfl (.cons rfl (.cons rfl (.cons rfl .nil))))))) (.cons_cons _ (.cons_cons _ (.cons_cons _ (List.sublist_append_of_sublist_right (List.sublist_append_right _ _)))))
         ·
          refine WL.v (v_move rfl rfl) rfl <| WL.val (v_move rfl rfl) (.some rfl rfl rfl) rfl rfl <| WL.val (v_move rfl rfl) (.some rfl rfl rfl) rfl rfl <| ?_
          refine WL.test (v_geq rfl rfl rfl) (.some rfl rfl rfl) rfl rfl (fun h146 => ?_) (fun h146 => ?_)
          ·
           refine WL.v (v_pick_f rfl rfl rfl) rfl <| WL.nt <| WC.cond_t rfl <| WC.seq <| WC.seq <| WC.region <| WL.v (v_move rfl rfl) rfl <| ?_
           obtain ⟨hc2, ho2, hs2⟩ := hP.bad (by omega)
           obtain rfl : os = [] := List.map_eq_nil_iff.1 ho2
           obtain rfl := hs2.symm
           refine WL.v ((v_neq rfl rfl rfl).f ((by omega))) rfl ?_
           refine WL.v (v_move rfl rfl) rfl <| WL.val (v_move rfl rfl) (.some rfl rfl rfl) rfl rfl <| WL.val (v_len_slice rfl rfl Tryz.underlying51) (.some rfl rfl rfl) rfl rfl <| WL.val ((v_neq rfl rfl rfl).f ((fun h => h rfl))) (.some rfl rfl rfl) rfl rfl <| WL.v (v_pick_f rfl rfl rfl) rfl <| WL.nt <| WC.cond_f rfl <| WC.skip <| WE.then_n <| WC.exit <| WE.then_exit <| WE.block_hit <| WE.then_n <| WC.region <| ?_
           refine WL.v (v_add rfl rfl rfl (w_i64 (by omega) (by omega))) rfl ?_
           refine WL.v (v_move rfl rfl) rfl <| WL.nil <| ?_
           exact WE.next ⟨i + 1, s⟩ (by dsimp only; omega) ⟨by dsimp only; omega, ⟨st, sp, by dsimp only; omega, by dsimp only; omega, by dsimp only; omega, by dsimp only; omega⟩⟩ (.int rfl (by dsimp only; omega) (.cons rfl (.cons rfl (.cons rfl (.cons rfl (.cons rfl (.cons rfl .nil))))))) (.cons_cons _ (.cons_cons _ (.cons_cons _ (List.sublist_append_of_sublist_right (List.sublist_append_right _ _)))))
          ·
           refine WL.v (v_pick_f rfl rfl rfl) rfl <| WL.nt <| WC.cond_f rfl <| WC.skip <| WE.then_n <| WC.seq <| WC.region <| ?_
           have hpr : 0 ≤ port ∧ port < s.ports := (by omega)
           have hsi' : SwI gT ports (i + 1) s' := SwI.step ⟨st, sp, si1, so1, sw1, sn1⟩ hP
           refine WL.v (v_fieldAddr0 rfl rfl fld_47_0) rfl <| WL.v (v_load1 rfl rfl one_3 (cellAt (v := .int .i64 s.in_) rfl)) rfl <| ?_
           refine WL.v (v_add rfl rfl rfl (w_i64 (by omega) (by omega))) rfl ?_
           refine WL.v (v_fieldAddr0 rfl rfl fld_47_0) rfl <| WL.store1 rfl rfl rfl rfl one_3 (Nat.le_of_ble_eq_true rfl) (.none rfl) rfl <| WL.rowFb (g := g13) (cs' := SwL.tly { s with in_ := s.in_ + 1 }) rfl <| WL.nt <| WC.seq <| WC.region <| WL.v (v_move rfl rfl) rfl <| WL.v (v_move rfl rfl) rfl <| WL.call rfl rfl ck_21 (.none rfl) rfl rfl <| ?_
           intro w1 hS
           refine (Parse_c w1 port x'.ad x'.n x'.c x'.f (rdOOld (fun _ h => h) hxo.rd w1 hS) hxo.byt hxo.le).mono ?_
           rintro e w' ⟨V, rfl, hVp, hF⟩
           obtain ⟨H1, W1, rw1, po1, en1, rfl⟩ : ∃ H1 W1 rw1 po1 en1, V = packV H1 W1 rw1 po1 en1 := (by
             rcases hVp with ⟨h1, h2⟩ | ⟨h1, h2⟩
             · exact ⟨_, _, _, _, _, h2⟩
             · exact ⟨_, _, _, _, _, h2⟩)
           refine ⟨_, _, rfl, hS.ext hF, ?_⟩
           refine WL.v (v_move rfl rfl) rfl <| WL.v (v_extract rfl rfl rfl) rfl <| WL.v (v_extract rfl rfl rfl) rfl <| WL.alloc rfl zero_61 (.none rfl) rfl rfl <| ?_
           intro g21 hg21
           refine WL.storeW rfl rfl rfl rfl many_61 rfl rfl (.none rfl) rfl <| WL.v (v_assign rfl rfl) rfl <| WL.nt <| WC.seq <| WC.seq <| WC.region <| WL.v (v_move rfl rfl) rfl <| ?_
           refine WL.test (v_neq rfl rfl rfl) (.none rfl) rfl rfl (fun h166 => ?_) (fun h166 => ?_)
           ·
            refine WL.nt <| WC.cond_t rfl <| WC.seq <| WC.region <| ?_
            obtain ⟨hc2, ho2, hs2⟩ := hP.err hpr h166
            obtain rfl : os = [] := List.map_eq_nil_iff.1 ho2
            refine WL.v (v_fieldAddr0 rfl rfl fld_47_2) rfl <| WL.v (v_load1 rfl rfl one_3 (cellAt (v := .int .i64 s.wrong) rfl)) rfl <| ?_
            refine WL.v (v_add rfl rfl rfl (w_i64 (by omega) (by omega))) rfl ?_
            refine WL.v (v_fieldAddr0 rfl rfl fld_47_2) rfl <| WL.store1 rfl rfl rfl rfl one_3 (Nat.le_of_ble_eq_true rfl) (.none rfl) rfl <| ?_
            refine WL.rowFb (g := g13) (cs' := s'.tly) (by rw [hs2]; rfl) ?_
            refine WL.nt <| WC.seq <| WC.seq <| WC.region <| WL.v (v_move rfl rfl) rfl <| WL.v (v_move rfl rfl) rfl <| WL.v ((v_neq rfl rfl rfl).f ((fun h => h hc2))) rfl <| WL.v (v_move rfl rfl) rfl <| WL.val (v_move rfl rfl) (.some rfl rfl rfl) rfl rfl <| WL.val (v_len_slice rfl rfl Tryz.underlying51) (.some rfl rfl rfl) rfl rfl <| WL.val ((v_neq rfl rfl rfl).f ((fun h => h rfl))) (.some rfl rfl rfl) rfl rfl <| WL.v (v_pick_f rfl rfl rfl) rfl <| WL.nt <| WC.cond_f rfl <| ?_
            refine WC.skip <| WE.then_n <| WC.exit <| WE.then_exit <| WE.block_hit <| WE.then_n <| WC.region <| ?_
            refine WL.v (v_add rfl rfl rfl (w_i64 (by omega) (by omega))) rfl ?_
            refine WL.v (v_move rfl rfl) rfl <| WL.nil <| ?_
            exact WE.next ⟨i + 1, s'⟩ (by dsimp only; omega) ⟨by dsimp only; omega, hsi'⟩ (.int rfl (by dsimp only; omega) (.cons rfl (.cons rfl (.cons rfl (.cons rfl (.cons rfl (.cons rfl .nil))))))) (.cons _ (.cons_cons _ (.cons_cons _ (.cons_cons _ (List.sublist_append_of_sublist_right (List.sublist_append_right _ _))))))
           ·
            refine WL.nt <| WC.cond_f rfl <| WC.skip <| WE.then_n <| WC.seq <| WC.region <| ?_
            have h0 : prErr port x'.f x'.n = 0 := Decidable.of_not_not h166
            obtain ⟨hc2, hsrt, hol, ⟨hs, hrun, hrt, hmem⟩, hs2⟩ := hP.ok hpr h0
            rw [List.length_map] at hol hs2
            rw [sp] at hmem
            obtain ⟨hq, h14n, hn15⟩ := prErr_n h0
            have hHr : (prHd port x'.f).Rt := ⟨prHd_In hxo.byt hq, prHd_okB hxo.byt hq⟩
            have hlen := out_len hxo.byt h0 hrun hrt hsrt hmem
            refine WL.rowFb (g := g21) (cs' := pkL (prHd port x'.f) (prHd port x'.f) (str x'.f x'.n) (prPorts x'.f) (prEnd x'.f)) (pack_inj (by rcases hVp with ⟨k, _⟩ | ⟨_, k⟩; exact absurd h0 k; exact k)) ?_
            refine WL.v (v_assign rfl rfl) rfl <| WL.nt <| WC.seq <| WC.seq <| WC.held ([.row g21 (pkL (prHd port x'.f) (prHd port x'.f) (str x'.f x'.n) (prPorts x'.f) (prEnd x'.f)), .row gS s'.cells]) mixed <| ?_
            refine WRH.first (g := 2) [0, 1, 2, 3, 4, 5, 8] (by kernel_rfl) (by kernel_rfl) (fun w hS => hS.sub (by repeat (first | exact List.Sublist.refl _ | exact List.nil_sublist _ | refine List.Sublist.cons_cons _ ?_ | refine List.Sublist.cons _ ?_ | refine List.sublist_append_of_sublist_right ?_))) ?_
            refine WH.val (v_move rfl rfl) (.none rfl) rfl rfl <| WH.val (v_nilCheck rfl rfl) (.none rfl) rfl rfl <| WH.val (v_fieldAddr0 rfl rfl fld_49_0) (.none rfl) rfl rfl <| ?_
            refine WH.val (v_load1 rfl rfl one_45 (cellAt (v := .pointer (some ⟨gT, 0, none⟩)) (by show some (Value.pointer (some ⟨s'.gT, 0, none⟩)) = _; rw [hsi'.t]))) (.none rfl) rfl rfl ?_
            refine WH.val (v_fieldAddr0 rfl rfl fld_61_0) (.none rfl) rfl rfl <| WH.val (v_loadN (cs := hdL (prHd port x'.f)) rfl rfl many_59 rfl (segAt (g := g21) (m := 19) (new := hdL (prHd port x'.f)) rfl)) (.none rfl) rfl rfl <| WH.val (v_move rfl rfl) (.none rfl) rfl rfl <| WH.nil <| ?_
            refine WRH.one (g := 1) 6 (by kernel_rfl) ?_
            refine WL.call rfl rfl ck_22 (.none rfl) rfl rfl ?_
            intro w1 hS
            have hTR : TabR w1 gT ⟨20, tad, tc, es⟩ := tabOk hen hV2 hK2 hS (fun e he => by simp [he]) (fun e he => by simp [he]) (by simp)
            refine (TRun_c w1 gT ⟨20, tad, tc, es⟩ (prHd port x'.f) hTR.cell hen hHr (hG.keep (fun h => h) hS) (by show es.length ≤ 1000000; omega) hTR.rg hTR.ok).mono ?_
            rintro e w' ⟨mad, mc, ms, EM, rfl, hrun2, -, hml, hVm, hS'⟩
            obtain rfl : hs = ms := hrun.one hrun2
            refine ⟨_, _, rfl, hS.join hS', ?_⟩
            refine WL.nilH (fun w hS => hS.sub (by repeat (first | exact List.Sublist.refl _ | exact List.nil_sublist _ | refine List.Sublist.cons_cons _ ?_ | refine List.Sublist.cons _ ?_ | refine List.sublist_append_of_sublist_right ?_))) ?_
            refine WRH.first (g := 0) [7] (by kernel_rfl) (by kernel_rfl) (fun w hS => hS.sub (by repeat (first | exact List.Sublist.refl _ | exact List.nil_sublist _ | refine List.Sublist.cons_cons _ ?_ | refine List.Sublist.cons _ ?_ | refine List.sublist_append_of_sublist_right ?_))) ?_
            refine WH.val (v_len_slice rfl rfl Tryz.underlying64) (.none rfl) rfl rfl <| WH.nil <| ?_
            refine WRH.done (by kernel_rfl) ?_
            refine WE.then_n <| WC.block <| WC.loop (fun x : CnS => [(187, .int .i64 x.j), (186, .int .i64 hs.length), (185, .slice mad hs.length mc), (23, .int .i64 x.n), (21, .pointer (some ⟨g21, 0, none⟩)), (16, .int .i64 port), (18, .slice oad os.length oc), (19, .int .i64 code2), (102, .int .i64 i), (101, .int .i64 fs.length), (100, .slice fa fs.length fc), (9, .pointer (some ⟨gS, 0, none⟩)), (13, .pointer (some ⟨g13, 0, none⟩)), (0, .int .i64 ports), (3, .slice aa ats.length ac)]) (fun _ => EM ++ (.row g21 (pkL (prHd port x'.f) (prHd port x'.f) (str x'.f x'.n) (prPorts x'.f) (prEnd x'.f)) :: .row gS s'.cells :: .row g13 (SwL.tly { s with in_ := s.in_ + 1 }) :: .row gT (TbL.cells ⟨20, tad, tc, es⟩) :: (EO ++ (KO ++ (E2 ++ K2))))) (fun x => x.j ≤ hs.length ∧ x.n = ((hs.take x.j).filter (goB ports port x'.f x'.n)).length) (fun x => hs.length - x.j) ⟨0, 0⟩ ⟨Nat.zero_le _, rfl⟩ (.cons rfl (.cons rfl (.cons rfl (.cons rfl (.cons rfl (.cons rfl (.cons rfl (.cons rfl (.cons rfl (.cons rfl (.cons rfl (.cons rfl (.cons rfl (.cons rfl (.cons rfl .nil))))))))))))))) (.refl _) <| ?_
            rintro ⟨j, cn⟩ ⟨hj, hcn⟩
            dsimp only at hj hcn
            dsimp only
            refine WC.seq <| WC.region <| ?_
            refine WL.test (v_lss rfl rfl rfl) (.none rfl) rfl rfl (fun h188 => ?_) (fun h188 => ?_)
            ·
             refine WL.nt <| WC.seq <| WC.cond_t rfl <| WC.skip <| WE.then_n <| WC.seq <| WC.block <| WC.seq <| WC.region <| ?_
             obtain ⟨h, hhj⟩ : ∃ x, hs[j]? = some x := ⟨hs[j]'(by omega), List.getElem?_eq_getElem _⟩
             have hhm := List.mem_of_getElem? hhj
             have hhR := hrt h hhm
             obtain ⟨b3, o3, ea3, q3⟩ := hVm.srcR (L := EM ++ (.row g21 (pkL (prHd port x'.f) (prHd port x'.f) (str x'.f x'.n) (prPorts x'.f) (prEnd x'.f)) :: .row gS s'.cells :: .row g13 (SwL.tly { s with in_ := s.in_ + 1 }) :: .row gT (TbL.cells ⟨20, tad, tc, es⟩) :: (EO ++ (KO ++ (E2 ++ K2))))) (fun e he => by simp [he]) (by rw [encL_len hdL_len]; omega)
             refine WL.v ((v_indexAddr (b := b3) (off := o3) (lo := j) rfl (by show some (Value.slice mad _ _) = _; rw [ea3]) rfl Tryz.underlying64 sz_59 rfl (by omega))) rfl ?_
             refine WL.v (v_loadN (cs := hdL h) rfl rfl many_59 rfl (fun w' hS' => Rg.seg hdL_len (q3 _ _ w' hS') hhj)) rfl <| WL.alloc rfl zero_59 (.none rfl) rfl rfl <| ?_
             intro g25 hg25
             refine WL.storeW rfl rfl rfl rfl many_59 rfl rfl (.none rfl) rfl <| WL.as (L' := .row g25 (hdL h) :: (EM ++ (.row g21 (pkL (prHd port x'.f) (prHd port x'.f) (str x'.f x'.n) (prPorts x'.f) (prEnd x'.f)) :: .row gS s'.cells :: .row g13 (SwL.tly { s with in_ := s.in_ + 1 }) :: .row gT (TbL.cells ⟨20, tad, tc, es⟩) :: (EO ++ (KO ++ (E2 ++ K2)))))) rfl <| WL.nt <| WC.seq <| WC.seq <| WC.region <| WL.v (v_fieldAddr0 rfl rfl fld_59_0) rfl <| WL.v (v_load1 rfl rfl one_3 (cellAt (v := .int .i64 h.port) rfl)) rfl <| WL.v (v_move rfl rfl) rfl <| ?_
             refine WL.test (v_eql rfl rfl rfl) (.none rfl) rfl rfl (fun h194 => ?_) (fun h194 => ?_)
             ·
              refine WL.v (v_move rfl rfl) rfl ?_
              iterate 4 refine WL.sk rfl ?_
              refine WL.v (v_pick_t rfl rfl rfl) rfl <| WL.nt <| WC.cond_t rfl <| WC.exit <| WE.then_exit <| WE.block_hit <| WE.then_n <| WC.region <| ?_
              refine WL.v (v_add rfl rfl rfl (w_i64 (by omega) (by omega))) rfl ?_
              refine WL.v (v_move rfl rfl) rfl <| WL.nil <| ?_
              exact WE.next ⟨j + 1, cn⟩ (by dsimp only; omega) ⟨by dsimp only; omega, by dsimp only; rw [cnt_no hhj (fun k => (goB_t.1 k).2.1 h194)]; exact hcn⟩ (.int rfl (by dsimp only; omega) (.cons rfl (.cons rfl (.cons rfl (.cons rfl (.cons rfl (.cons rfl (.cons rfl (.cons rfl (.cons rfl (.cons rfl (.cons rfl (.cons rfl (.cons rfl (.cons rfl .nil))))))))))))))) (.cons _ (.refl _))
             ·
              refine WL.v (v_move rfl rfl) rfl <| WL.val (v_fieldAddr0 rfl rfl fld_59_0) (.some rfl rfl rfl) rfl rfl <| WL.val (v_load1 rfl rfl one_3 (cellAt (v := .int .i64 h.port) rfl)) (.some rfl rfl rfl) rfl rfl <| WL.val (v_move rfl rfl) (.some rfl rfl rfl) rfl rfl <| ?_
              refine WL.test (v_geq rfl rfl rfl) (.some rfl rfl rfl) rfl rfl (fun h199 => ?_) (fun h199 => ?_)
              ·
               refine WL.v (v_pick_f rfl rfl rfl) rfl <| WL.nt <| WC.cond_t rfl <| WC.exit <| WE.then_exit <| WE.block_hit <| WE.then_n <| WC.region <| ?_
               refine WL.v (v_add rfl rfl rfl (w_i64 (by omega) (by omega))) rfl ?_
               refine WL.v (v_move rfl rfl) rfl <| WL.nil <| ?_
               exact WE.next ⟨j + 1, cn⟩ (by dsimp only; omega) ⟨by dsimp only; omega, by dsimp only; rw [cnt_no hhj (fun k => by have := (goB_t.1 k).1; omega)]; exact hcn⟩ (.int rfl (by dsimp only; omega) (.cons rfl (.cons rfl (.cons rfl (.cons rfl (.cons rfl (.cons rfl (.cons rfl (.cons rfl (.cons rfl (.cons rfl (.cons rfl (.cons rfl (.cons rfl (.cons rfl .nil))))))))))))))) (.cons _ (.refl _))
              ·
               refine WL.v (v_pick_f rfl rfl rfl) rfl <| WL.nt <| WC.cond_f rfl <| WC.skip <| WE.then_n <| WC.seq <| WC.region <| WL.v (v_loadN rfl rfl many_61 rfl allAt) rfl <| WL.v (v_loadN rfl rfl many_59 rfl allAt) rfl <| WL.call rfl rfl ck_26 (.none rfl) rfl rfl <| ?_
               intro w1 hS
               refine (Emit_q (h := h) (f := x'.f) (n := x'.n) (port := port) hS (fun h => h) hG hhR hxo.byt h0).mono ?_
               rintro e w' ⟨eo, bs, ec, code3, E3, rfl, hem1, hem2, hVb, hbb, hS'⟩
               refine ⟨_, _, rfl, hS', ?_⟩
               refine WL.v (v_move rfl rfl) rfl <| WL.v (v_extract rfl rfl rfl) rfl <| WL.v (v_extract rfl rfl rfl) rfl <| WL.v (v_assign rfl rfl) rfl <| WL.v (v_assign rfl rfl) rfl <| WL.nt <| WC.seq <| WC.seq <| WC.region <| WL.v (v_move rfl rfl) rfl <| ?_
               refine WL.test (v_neq rfl rfl rfl) (.none rfl) rfl rfl (fun h208 => ?_) (fun h208 => ?_)
               ·
                refine WL.nt <| WC.cond_t rfl <| WC.exit <| WE.then_exit <| WE.block_hit <| WE.then_n <| WC.region <| ?_
                refine WL.v (v_add rfl rfl rfl (w_i64 (by omega) (by omega))) rfl ?_
                refine WL.v (v_move rfl rfl) rfl <| WL.nil <| ?_
                exact WE.next ⟨j + 1, cn⟩ (by dsimp only; omega) ⟨by dsimp only; omega, by dsimp only; rw [cnt_no hhj (fun k => hem2 h208 (goB_t.1 k).2.2)]; exact hcn⟩ (.int rfl (by dsimp only; omega) (.cons rfl (.cons rfl (.cons rfl (.cons rfl (.cons rfl (.cons rfl (.cons rfl (.cons rfl (.cons rfl (.cons rfl (.cons rfl (.cons rfl (.cons rfl (.cons rfl .nil))))))))))))))) (List.sublist_append_of_sublist_right (.cons _ (.refl _)))
               ·
                refine WL.nt <| WC.cond_f rfl <| WC.skip <| WE.then_n <| WC.seq <| WC.region <| WL.v (v_assign rfl rfl) rfl <| WL.nt <| WC.seq <| WC.seq <| WC.region <| ?_
                obtain ⟨hmay, hbs⟩ := hem1 (Decidable.of_not_not h208)
                subst hbs
                have hgo : GoesO ports port x'.f x'.n h := ⟨by omega, h194, hmay⟩
                obtain ⟨o', ho', hod'⟩ := List.mem_map.1 ((hmem _).2 ⟨h, hhm, hgo, rfl⟩)
                obtain ⟨k0, hk0⟩ := List.mem_iff_getElem?.1 ho'
                refine WL.v (v_move rfl rfl) rfl <| WL.v (v_len_slice rfl rfl Tryz.underlying51) rfl <| WL.v (v_move rfl rfl) rfl <| WL.nt <| WC.block <| WC.loop (fun x : FfS => [(211, .int .i64 x.j), (210, .int .i64 os.length), (209, .slice oad os.length oc), (28, .bool x.b), (26, .slice eo (bl (emF x'.f (prHd port x'.f) (poN x'.f) (prEnd x'.f) h) x'.n).length ec), (25, .pointer (some ⟨g25, 0, none⟩)), (187, .int .i64 j), (186, .int .i64 hs.length), (185, .slice mad hs.length mc), (23, .int .i64 cn), (21, .pointer (some ⟨g21, 0, none⟩)), (16, .int .i64 port), (18, .slice oad os.length oc), (19, .int .i64 code2), (102, .int .i64 i), (101, .int .i64 fs.length), (100, .slice fa fs.length fc), (9, .pointer (some ⟨gS, 0, none⟩)), (13, .pointer (some ⟨g13, 0, none⟩)), (0, .int .i64 ports), (3, .slice aa ats.length ac)]) (fun _ => E3 ++ (.row g25 (hdL h) :: (EM ++ (.row g21 (pkL (prHd port x'.f) (prHd port x'.f) (str x'.f x'.n) (prPorts x'.f) (prEnd x'.f)) :: .row gS s'.cells :: .row g13 (SwL.tly { s with in_ := s.in_ + 1 }) :: .row gT (TbL.cells ⟨20, tad, tc, es⟩) :: (EO ++ (KO ++ (E2 ++ K2))))))) (fun x => x.j ≤ os.length ∧ ((∃ i, i < x.j ∧ os[i]? = some o') → x.b = true)) (fun x => os.length - x.j) ⟨0, false⟩ ⟨Nat.zero_le _, fun ⟨i, h1, _⟩ => absurd h1 (Nat.not_lt_zero _)⟩ (.cons rfl (.cons rfl (.cons rfl (.cons rfl (.cons rfl (.cons rfl (.cons rfl (.cons rfl (.cons rfl (.cons rfl (.cons rfl (.cons rfl (.cons rfl (.cons rfl (.cons rfl (.cons rfl (.cons rfl (.cons rfl (.cons rfl (.cons rfl (.cons rfl .nil))))))))))))))))))))) (.refl _) <| ?_
                rintro ⟨k, b⟩ ⟨hk, hinv⟩
                dsimp only at hk hinv
                dsimp only
                refine WC.seq <| WC.region <| ?_
                refine WL.test (v_lss rfl rfl rfl) (.none rfl) rfl rfl (fun h212 => ?_) (fun h212 => ?_)
                ·
                 refine WL.nt <| WC.seq <| WC.cond_t rfl <| WC.skip <| WE.then_n <| WC.seq <| WC.block <| WC.seq <| WC.region <| ?_
                 obtain ⟨o, hok⟩ : ∃ x, os[k]? = some x := ⟨os[k]'(by omega), List.getElem?_eq_getElem _⟩
                 have hom := List.mem_of_getElem? hok
                 obtain ⟨b4, o4, ea4, q4⟩ := hVo.srcR (L := E3 ++ (.row g25 (hdL h) :: (EM ++ (.row g21 (pkL (prHd port x'.f) (prHd port x'.f) (str x'.f x'.n) (prPorts x'.f) (prEnd x'.f)) :: .row gS s'.cells :: .row g13 (SwL.tly { s with in_ := s.in_ + 1 }) :: .row gT (TbL.cells ⟨20, tad, tc, es⟩) :: (EO ++ (KO ++ (E2 ++ K2))))))) (fun e he => by simp [he]) (by rw [encL_len OutL.len]; omega)
                 have hOo := hO o hom
                 obtain ⟨hd, hdm, hdgo, hdod⟩ := (hmem o.d).1 (List.mem_map_of_mem hom)
                 have hob : o.bs = bl (emF x'.f (prHd port x'.f) (poN x'.f) (prEnd x'.f) hd) x'.n := (congrArg OutD.bs hdod :)
                 have hbl : o.bs.length = x'.n := (by rw [hob, bl_len])
                 obtain ⟨b226, hb226⟩ : ∃ q : Bool, decide ((str (emF x'.f (prHd port x'.f) (poN x'.f) (prEnd x'.f) hd) x'.n).toList = (str (emF x'.f (prHd port x'.f) (poN x'.f) (prEnd x'.f) h) x'.n).toList) = q := ⟨_, rfl⟩
                 refine WL.v ((v_indexAddr (b := b4) (off := o4) (lo := k) rfl (by show some (Value.slice oad _ _) = _; rw [ea4]) rfl Tryz.underlying51 sz_67 rfl (by omega))) rfl ?_
                 refine WL.v (v_loadN (cs := o.cells) rfl rfl many_67 rfl (fun w' hS' => Rg.seg OutL.len (q4 _ _ w' hS') hok)) rfl <| WL.alloc rfl zero_67 (.none rfl) rfl rfl <| ?_
                 intro g30 hg30
                 refine WL.storeW rfl rfl rfl rfl many_67 rfl rfl (.none rfl) rfl <| WL.as (L' := .row g30 o.cells :: (E3 ++ (.row g25 (hdL h) :: (EM ++ (.row g21 (pkL (prHd port x'.f) (prHd port x'.f) (str x'.f x'.n) (prPorts x'.f) (prEnd x'.f)) :: .row gS s'.cells :: .row g13 (SwL.tly { s with in_ := s.in_ + 1 }) :: .row gT (TbL.cells ⟨20, tad, tc, es⟩) :: (EO ++ (KO ++ (E2 ++ K2)))))))) rfl <| WL.nt <| WC.region <| WL.v (v_move rfl rfl) rfl <| ?_
                 skip
                 cases b
                 ·
                  refine WL.v (v_move rfl rfl) rfl <| WL.val (v_fieldAddr0 rfl rfl fld_67_0) (.some rfl rfl rfl) rfl rfl <| WL.val (v_load1 rfl rfl one_3 (cellAt (v := .int .i64 o.port) rfl)) (.some rfl rfl rfl) rfl rfl <| WL.val (v_fieldAddr0 rfl rfl fld_59_0) (.some rfl rfl rfl) rfl rfl <| WL.val (v_load1 rfl rfl one_3 (cellAt (v := .int .i64 h.port) rfl)) (.some rfl rfl rfl) rfl rfl <| ?_
                  refine WL.test (v_eql rfl rfl rfl) (.some rfl rfl rfl) rfl rfl (fun h221 => ?_) (fun h221 => ?_)
                  ·
                   refine WL.val (v_move rfl rfl) (.some rfl rfl rfl) rfl rfl <| WL.val (v_fieldAddr0 rfl rfl fld_67_1) (.some rfl rfl rfl) rfl rfl <| WL.val (v_load1 rfl rfl one_41 (cellAt (v := .slice o.ad o.bs.length o.cap) rfl)) (.some rfl rfl rfl) rfl rfl <| WL.val (v_move rfl rfl) (.some rfl rfl rfl) rfl rfl <| WL.call rfl rfl ck_27 (.some rfl rfl rfl) rfl rfl <| ?_
                   intro w1 hS
                   rw [hbl, bl_len]
                   refine (Same_c w1 o.ad eo x'.n x'.n o.cap ec (emF x'.f (prHd port x'.f) (poN x'.f) (prEnd x'.f) hd) (emF x'.f (prHd port x'.f) (poN x'.f) (prEnd x'.f) h) (rd_bl (by rw [← hob]; exact hOo.rg fun e he => hS.holds e (by simp [he]))) (rd_bl (hVb.rg fun e he => hS.holds e (by simp [he]))) b226 hb226).mono ?_
                   rintro e w' ⟨rfl, hF⟩
                   refine ⟨_, _, rfl, hS.ext hF, ?_⟩
                   skip
                   cases b226
                   ·
                    refine WL.val (v_pick_t rfl rfl rfl) (.some rfl rfl rfl) rfl rfl <| WL.v (v_pick_f rfl rfl rfl) rfl <| WL.v (v_assign rfl rfl) rfl <| WL.nil <| WE.block_n <| WE.then_n <| WC.region <| ?_
                    refine WL.v (v_add rfl rfl rfl (w_i64 (by omega) (by omega))) rfl ?_
                    refine WL.v (v_move rfl rfl) rfl <| WL.nil <| ?_
                    exact WE.next ⟨k + 1, false⟩ (by dsimp only; omega) ⟨by dsimp only; omega, fun ⟨i, h1, h2⟩ => (by
                    have h1 : i < k + 1 := h1
                    by_cases e : i = k
                    · subst e
                      rw [hok] at h2
                      cases h2
                      have hbb : bl (emF x'.f (prHd port x'.f) (poN x'.f) (prEnd x'.f) hd) x'.n = bl (emF x'.f (prHd port x'.f) (poN x'.f) (prEnd x'.f) h) x'.n := hob.symm.trans (congrArg OutD.bs hod' :)
                      refine absurd ?_ (of_decide_eq_false hb226)
                      unfold str
                      rw [hbb]
                    · exact hinv ⟨i, by omega, h2⟩)⟩ (.int rfl (by dsimp only; omega) (.cons rfl (.cons rfl (.cons rfl (.cons rfl (.cons rfl (.cons rfl (.cons rfl (.cons rfl (.cons rfl (.cons rfl (.cons rfl (.cons rfl (.cons rfl (.cons rfl (.cons rfl (.cons rfl (.cons rfl (.cons rfl (.cons rfl (.cons rfl .nil))))))))))))))))))))) (.cons _ (.refl _))
                   ·
                    refine WL.val (v_pick_t rfl rfl rfl) (.some rfl rfl rfl) rfl rfl <| WL.v (v_pick_f rfl rfl rfl) rfl <| WL.v (v_assign rfl rfl) rfl <| WL.nil <| WE.block_n <| WE.then_n <| WC.region <| ?_
                    refine WL.v (v_add rfl rfl rfl (w_i64 (by omega) (by omega))) rfl ?_
                    refine WL.v (v_move rfl rfl) rfl <| WL.nil <| ?_
                    exact WE.next ⟨k + 1, true⟩ (by dsimp only; omega) ⟨by dsimp only; omega, fun _ => rfl⟩ (.int rfl (by dsimp only; omega) (.cons rfl (.cons rfl (.cons rfl (.cons rfl (.cons rfl (.cons rfl (.cons rfl (.cons rfl (.cons rfl (.cons rfl (.cons rfl (.cons rfl (.cons rfl (.cons rfl (.cons rfl (.cons rfl (.cons rfl (.cons rfl (.cons rfl (.cons rfl .nil))))))))))))))))))))) (.cons _ (.refl _))
                  ·
                   refine WL.val (v_move rfl rfl) (.some rfl rfl rfl) rfl rfl ?_
                   iterate 4 refine WL.sk rfl ?_
                   refine WL.val (v_pick_f rfl rfl rfl) (.some rfl rfl rfl) rfl rfl <| WL.v (v_pick_f rfl rfl rfl) rfl <| WL.v (v_assign rfl rfl) rfl <| WL.nil <| WE.block_n <| WE.then_n <| WC.region <| ?_
                   refine WL.v (v_add rfl rfl rfl (w_i64 (by omega) (by omega))) rfl ?_
                   refine WL.v (v_move rfl rfl) rfl <| WL.nil <| ?_
                   exact WE.next ⟨k + 1, false⟩ (by dsimp only; omega) ⟨by dsimp only; omega, fun ⟨i, h1, h2⟩ => (by
                   have h1 : i < k + 1 := h1
                   by_cases e : i = k
                   · subst e
                     rw [hok] at h2
                     cases h2
                     exact absurd (congrArg OutD.port hod' :) h221
                   · exact hinv ⟨i, by omega, h2⟩)⟩ (.int rfl (by dsimp only; omega) (.cons rfl (.cons rfl (.cons rfl (.cons rfl (.cons rfl (.cons rfl (.cons rfl (.cons rfl (.cons rfl (.cons rfl (.cons rfl (.cons rfl (.cons rfl (.cons rfl (.cons rfl (.cons rfl (.cons rfl (.cons rfl (.cons rfl (.cons rfl .nil))))))))))))))))))))) (.cons _ (.refl _))
                 ·
                  refine WL.v (v_move rfl rfl) rfl ?_
                  iterate 11 refine WL.sk rfl ?_
                  refine WL.v (v_pick_t rfl rfl rfl) rfl <| WL.v (v_assign rfl rfl) rfl <| WL.nil <| WE.block_n <| WE.then_n <| WC.region <| ?_
                  refine WL.v (v_add rfl rfl rfl (w_i64 (by omega) (by omega))) rfl ?_
                  refine WL.v (v_move rfl rfl) rfl <| WL.nil <| ?_
                  exact WE.next ⟨k + 1, true⟩ (by dsimp only; omega) ⟨by dsimp only; omega, fun _ => rfl⟩ (.int rfl (by dsimp only; omega) (.cons rfl (.cons rfl (.cons rfl (.cons rfl (.cons rfl (.cons rfl (.cons rfl (.cons rfl (.cons rfl (.cons rfl (.cons rfl (.cons rfl (.cons rfl (.cons rfl (.cons rfl (.cons rfl (.cons rfl (.cons rfl (.cons rfl (.cons rfl .nil))))))))))))))))))))) (.cons _ (.refl _))
                ·
                 refine WL.nt <| WC.seq <| WC.cond_f rfl <| WC.exit <| WE.then_exit <| WE.then_exit <| WE.block_hit <| WE.then_n <| WC.seq <| WC.seq <| WC.region <| ?_
                 have hb : b = true := hinv ⟨k0, by have := (List.getElem?_eq_some_iff.1 hk0).1; omega, hk0⟩
                 subst hb
                 refine WL.v (v_move rfl rfl) rfl <| WL.v (v_not rfl rfl rfl) rfl <| WL.nt <| WC.cond_f rfl <| WC.skip <| WE.then_n <| WC.region <| WL.v (v_move rfl rfl) rfl <| ?_
                 refine WL.v (v_add rfl rfl rfl (w_i64 (by omega) (by have := List.length_filter_le (goB ports port x'.f x'.n) (hs.take j); rw [List.length_take] at this; omega))) rfl ?_
                 refine WL.v (v_assign rfl rfl) rfl <| WL.nil <| WE.block_n <| WE.then_n <| WC.region <| ?_
                 refine WL.v (v_add rfl rfl rfl (w_i64 (by omega) (by omega))) rfl ?_
                 refine WL.v (v_move rfl rfl) rfl <| WL.nil <| ?_
                 exact WE.next ⟨j + 1, cn + 1⟩ (by dsimp only; omega) ⟨by dsimp only; omega, by dsimp only; rw [cnt_yes hhj (goB_t.2 hgo), hcn]⟩ (.int rfl (by dsimp only; omega) (.cons rfl (.cons rfl (.int rfl (by dsimp only; omega) (.cons rfl (.cons rfl (.cons rfl (.cons rfl (.cons rfl (.cons rfl (.cons rfl (.cons rfl (.cons rfl (.cons rfl (.cons rfl .nil))))))))))))))) (List.sublist_append_of_sublist_right (.cons _ (.refl _)))
            ·
             refine WL.nt <| WC.seq <| WC.cond_f rfl <| WC.exit <| WE.then_exit <| WE.then_exit <| WE.block_hit <| WE.then_n <| ?_
             refine WC.cut (fun _ : Unit => [(16, .int .i64 port), (18, .slice oad os.length oc), (19, .int .i64 code2), (102, .int .i64 i), (101, .int .i64 fs.length), (100, .slice fa fs.length fc), (9, .pointer (some ⟨gS, 0, none⟩)), (13, .pointer (some ⟨g13, 0, none⟩)), (0, .int .i64 ports), (3, .slice aa ats.length ac)]) (fun _ => .row gS s'.cells :: .row g13 (SwL.tly { s with in_ := s.in_ + 1 }) :: .row gT (TbL.cells ⟨20, tad, tc, es⟩) :: (EO ++ (KO ++ (E2 ++ K2)))) (fun _ => True) ?_ ?_
             ·
              refine WC.seq <| WC.region <| ?_
              obtain rfl : j = hs.length := (by omega)
              rw [List.take_length, ← hlen] at hcn
              subst hcn
              refine WL.v (v_move rfl rfl) rfl <| WL.v (v_len_slice rfl rfl Tryz.underlying51) rfl <| WL.v (v_move rfl rfl) rfl <| ?_
              refine WL.v ((v_gtr rfl rfl rfl).f ((by omega))) rfl ?_
              refine WL.v (v_move rfl rfl) rfl <| WL.val (v_move rfl rfl) (.some rfl rfl rfl) rfl rfl <| ?_
              refine WL.test (v_gtr rfl rfl rfl) (.some rfl rfl rfl) rfl rfl (fun h241 => ?_) (fun h241 => ?_)
              ·
               refine WL.val (v_move rfl rfl) (.some rfl rfl rfl) rfl rfl <| WL.val (v_move rfl rfl) (.some rfl rfl rfl) rfl rfl <| WL.val (v_len_slice rfl rfl Tryz.underlying51) (.some rfl rfl rfl) rfl rfl <| ?_
               refine WL.val ((v_eql rfl rfl rfl).f ((by omega))) (.some rfl rfl rfl) rfl rfl ?_
               refine WL.val (v_pick_t rfl rfl rfl) (.some rfl rfl rfl) rfl rfl <| WL.v (v_pick_f rfl rfl rfl) rfl <| WL.v (v_move rfl rfl) rfl <| WL.val (v_move rfl rfl) (.some rfl rfl rfl) rfl rfl <| WL.val ((v_neq rfl rfl rfl).f ((fun h => h hc2))) (.some rfl rfl rfl) rfl rfl <| WL.v (v_pick_f rfl rfl rfl) rfl <| WL.nt <| WC.cond_f rfl <| WC.skip <| ?_
               exact WE.mid () trivial (.cons rfl (.cons rfl (.cons rfl (.cons rfl (.cons rfl (.cons rfl (.cons rfl (.cons rfl (.cons rfl (.cons rfl .nil)))))))))) (List.sublist_append_of_sublist_right (.cons _ (.refl _)))
              ·
               refine WL.val (v_move rfl rfl) (.some rfl rfl rfl) rfl rfl ?_
               iterate 3 refine WL.sk rfl ?_
               refine WL.val (v_pick_f rfl rfl rfl) (.some rfl rfl rfl) rfl rfl <| WL.v (v_pick_f rfl rfl rfl) rfl <| WL.v (v_move rfl rfl) rfl <| WL.val (v_move rfl rfl) (.some rfl rfl rfl) rfl rfl <| WL.val ((v_neq rfl rfl rfl).f ((fun h => h hc2))) (.some rfl rfl rfl) rfl rfl <| WL.v (v_pick_f rfl rfl rfl) rfl <| WL.nt <| WC.cond_f rfl <| WC.skip <| ?_
               exact WE.mid () trivial (.cons rfl (.cons rfl (.cons rfl (.cons rfl (.cons rfl (.cons rfl (.cons rfl (.cons rfl (.cons rfl (.cons rfl .nil)))))))))) (List.sublist_append_of_sublist_right (.cons _ (.refl _)))
             ·
              intro _ _
              refine WC.seq <| WC.seq <| WC.region <| WL.v (v_assign rfl rfl) rfl <| WL.nt <| WC.block <| WC.loop (fun k : Nat => [(31, .int .i64 k), (16, .int .i64 port), (18, .slice oad os.length oc), (19, .int .i64 code2), (102, .int .i64 i), (101, .int .i64 fs.length), (100, .slice fa fs.length fc), (9, .pointer (some ⟨gS, 0, none⟩)), (13, .pointer (some ⟨g13, 0, none⟩)), (0, .int .i64 ports), (3, .slice aa ats.length ac)]) (fun _ => .row gS s'.cells :: .row g13 (SwL.tly { s with in_ := s.in_ + 1 }) :: .row gT (TbL.cells ⟨20, tad, tc, es⟩) :: (EO ++ (KO ++ (E2 ++ K2)))) (fun k => 1 ≤ k) (fun k => os.length - k) 1 (Nat.le_refl _) (.cons rfl (.cons rfl (.cons rfl (.cons rfl (.cons rfl (.cons rfl (.cons rfl (.cons rfl (.cons rfl (.cons rfl (.cons rfl .nil))))))))))) (.refl _) <| ?_
              intro k hk1
              refine WC.seq <| WC.seq <| WC.region <| WL.v (v_move rfl rfl) rfl <| WL.v (v_move rfl rfl) rfl <| WL.v (v_len_slice rfl rfl Tryz.underlying51) rfl <| ?_
              refine WL.test (v_lss rfl rfl rfl) (.none rfl) rfl rfl (fun h255 => ?_) (fun h255 => ?_)
              ·
               refine WL.nt <| WC.cond_t rfl <| WC.skip <| WE.then_n <| WC.seq <| WC.block <| WC.seq <| ?_
               refine WC.quiet mixed (by kernel_rfl) ?_
               obtain ⟨m, rfl⟩ : ∃ m, k = m + 1 := ⟨k - 1, by omega⟩
               obtain ⟨oa, hoa⟩ : ∃ x, os[m]? = some x := ⟨os[m]'(by omega), List.getElem?_eq_getElem _⟩
               obtain ⟨ob, hob⟩ : ∃ x, os[m + 1]? = some x := ⟨os[m + 1]'(by omega), List.getElem?_eq_getElem _⟩
               obtain ⟨b5, o5, ea5, q5⟩ := hVo.srcR (L := .row gS s'.cells :: .row g13 (SwL.tly { s with in_ := s.in_ + 1 }) :: .row gT (TbL.cells ⟨20, tad, tc, es⟩) :: (EO ++ (KO ++ (E2 ++ K2)))) (fun e he => by simp [he]) (by rw [encL_len OutL.len]; omega)
               have hcmp : ocmp oa.d ob.d < 0 := List.pairwise_iff_getElem.1 hsrt m (m + 1) (by rw [List.length_map]; omega) (by rw [List.length_map]; omega) (by omega) |> fun h => by
                 rw [List.getElem_map, List.getElem_map] at h
                 have e1 := (List.getElem?_eq_some_iff.1 hoa).2
                 have e2 := (List.getElem?_eq_some_iff.1 hob).2
                 rwa [e1, e2] at h
               have hp1 : ¬ oa.port > ob.port := fun h => (by
                 unfold ocmp at hcmp
                 have e : cmpI oa.d.port ob.d.port = 1 := (by unfold cmpI; rw [if_neg (by show ¬ oa.port < ob.port; omega), if_pos (show ob.d.port < oa.d.port from h)])
                 rw [e, if_pos (by decide)] at hcmp
                 omega)
               have hp2 : oa.port = ob.port → lexB oa.bs ob.bs < 0 := fun h => (by
                 unfold ocmp at hcmp
                 rwa [if_neg (fun k => k (cmpI_zero.2 h))] at hcmp)
               have c1 : oa.cells[0]? = some (.int .i64 oa.port) ∧ oa.cells[1]? = some (.slice oa.ad oa.bs.length oa.cap) := ⟨rfl, rfl⟩
               have c2 : ob.cells[0]? = some (.int .i64 ob.port) ∧ ob.cells[1]? = some (.slice ob.ad ob.bs.length ob.cap) := ⟨rfl, rfl⟩
               have rA : ∀ w', St (fun _ => False) w0 w' _ → w'.rangeAt b5 (o5 + m * 2) oa.cells := fun w' hS' => Rg.seg OutL.len (q5 _ _ w' hS') hoa
               have rB : ∀ w', St (fun _ => False) w0 w' _ → w'.rangeAt b5 (o5 + (m + 1) * 2) ob.cells := fun w' hS' => Rg.seg OutL.len (q5 _ _ w' hS') hob
               refine WQ.val (v_move rfl rfl) (.none rfl) rfl rfl <| WQ.val (v_move rfl rfl) (.none rfl) rfl rfl <| ?_
               refine WQ.val (v_sub rfl rfl rfl (w_i64 (by omega) (by omega))) (.none rfl) rfl rfl ?_
               refine WQ.val (v_indexAddr (b := b5) (off := o5) (lo := m) rfl (by show some (Value.slice oad _ _) = _; rw [ea5]) (by first | rfl | (show some (Value.int .i64 _) = _; congr 2; omega)) Tryz.underlying51 sz_67 rfl (by omega)) (.none rfl) rfl rfl ?_
               refine WQ.val (v_fieldAddr rfl rfl fld_67_0) (.none rfl) rfl rfl <| WQ.val (v_load1 rfl rfl one_3 (fun w' hS' => rA w' hS' 0 _ c1.1)) (.none rfl) rfl rfl <| WQ.val (v_move rfl rfl) (.none rfl) rfl rfl <| WQ.val (v_move rfl rfl) (.none rfl) rfl rfl <| ?_
               refine WQ.val (v_indexAddr (b := b5) (off := o5) (lo := m + 1) rfl (by show some (Value.slice oad _ _) = _; rw [ea5]) (by first | rfl | (show some (Value.int .i64 _) = _; congr 2; omega)) Tryz.underlying51 sz_67 rfl (by omega)) (.none rfl) rfl rfl ?_
               refine WQ.val (v_fieldAddr rfl rfl fld_67_0) (.none rfl) rfl rfl <| WQ.val (v_load1 rfl rfl one_3 (fun w' hS' => rB w' hS' 0 _ c2.1)) (.none rfl) rfl rfl <| WQ.val ((v_gtr rfl rfl rfl).f (hp1)) (.none rfl) rfl rfl <| WQ.val (v_move rfl rfl) (.none rfl) rfl rfl <| WQ.val (v_move rfl rfl) (.some rfl rfl rfl) rfl rfl <| WQ.val (v_move rfl rfl) (.some rfl rfl rfl) rfl rfl <| ?_
               refine WQ.val (v_sub rfl rfl rfl (w_i64 (by omega) (by omega))) (.some rfl rfl rfl) rfl rfl ?_
               refine WQ.val (v_indexAddr (b := b5) (off := o5) (lo := m) rfl (by show some (Value.slice oad _ _) = _; rw [ea5]) (by first | rfl | (show some (Value.int .i64 _) = _; congr 2; omega)) Tryz.underlying51 sz_67 rfl (by omega)) (.some rfl rfl rfl) rfl rfl ?_
               refine WQ.val (v_fieldAddr rfl rfl fld_67_0) (.some rfl rfl rfl) rfl rfl <| WQ.val (v_load1 rfl rfl one_3 (fun w' hS' => rA w' hS' 0 _ c1.1)) (.some rfl rfl rfl) rfl rfl <| WQ.val (v_move rfl rfl) (.some rfl rfl rfl) rfl rfl <| WQ.val (v_move rfl rfl) (.some rfl rfl rfl) rfl rfl <| ?_
               refine WQ.val (v_indexAddr (b := b5) (off := o5) (lo := m + 1) rfl (by show some (Value.slice oad _ _) = _; rw [ea5]) (by first | rfl | (show some (Value.int .i64 _) = _; congr 2; omega)) Tryz.underlying51 sz_67 rfl (by omega)) (.some rfl rfl rfl) rfl rfl ?_
               refine WQ.val (v_fieldAddr rfl rfl fld_67_0) (.some rfl rfl rfl) rfl rfl <| WQ.val (v_load1 rfl rfl one_3 (fun w' hS' => rB w' hS' 0 _ c2.1)) (.some rfl rfl rfl) rfl rfl <| ?_
               refine WQ.test (v_eql rfl rfl rfl) (.some rfl rfl rfl) rfl rfl (fun h282 => ?_) (fun h282 => ?_)
               ·
                refine WQ.val (v_move rfl rfl) (.some rfl rfl rfl) rfl rfl <| WQ.val (v_move rfl rfl) (.some rfl rfl rfl) rfl rfl <| WQ.val (v_move rfl rfl) (.some rfl rfl rfl) rfl rfl <| ?_
                refine WQ.val (v_sub rfl rfl rfl (w_i64 (by omega) (by omega))) (.some rfl rfl rfl) rfl rfl ?_
                refine WQ.val (v_indexAddr (b := b5) (off := o5) (lo := m) rfl (by show some (Value.slice oad _ _) = _; rw [ea5]) (by first | rfl | (show some (Value.int .i64 _) = _; congr 2; omega)) Tryz.underlying51 sz_67 rfl (by omega)) (.some rfl rfl rfl) rfl rfl ?_
                refine WQ.val (v_fieldAddr rfl rfl fld_67_1) (.some rfl rfl rfl) rfl rfl <| WQ.val (v_load1 rfl rfl one_41 (fun w' hS' => rA w' hS' 1 _ c1.2)) (.some rfl rfl rfl) rfl rfl <| WQ.val (v_move rfl rfl) (.some rfl rfl rfl) rfl rfl <| WQ.val (v_move rfl rfl) (.some rfl rfl rfl) rfl rfl <| ?_
                refine WQ.val (v_indexAddr (b := b5) (off := o5) (lo := m + 1) rfl (by show some (Value.slice oad _ _) = _; rw [ea5]) (by first | rfl | (show some (Value.int .i64 _) = _; congr 2; omega)) Tryz.underlying51 sz_67 rfl (by omega)) (.some rfl rfl rfl) rfl rfl ?_
                refine WQ.val (v_fieldAddr rfl rfl fld_67_1) (.some rfl rfl rfl) rfl rfl <| WQ.val (v_load1 rfl rfl one_41 (fun w' hS' => rB w' hS' 1 _ c2.2)) (.some rfl rfl rfl) rfl rfl <| ?_
                refine WQ.call _ rfl rfl ck_28 (.some rfl rfl rfl) rfl rfl (fun w hS => Calls.still (BCompare_c w oa.ad ob.ad oa.cap ob.cap oa.bs ob.bs (hO oa (List.mem_of_getElem? hoa)).2 (hO ob (List.mem_of_getElem? hob)).2 ((hO oa (List.mem_of_getElem? hoa)).rg fun e he => hS.holds e (by simp [he])) ((hO ob (List.mem_of_getElem? hob)).rg fun e he => hS.holds e (by simp [he]))) hS) ?_
                refine WQ.val ((v_geq rfl rfl rfl).f ((by have := hp2 h282; omega))) (.some rfl rfl rfl) rfl rfl ?_
                refine WQ.val (v_pick_t rfl rfl rfl) (.some rfl rfl rfl) rfl rfl <| WQ.val (v_pick_f rfl rfl rfl) (.none rfl) rfl rfl <| WQ.nil <| WE.then_n <| WC.cond_f rfl <| WC.skip <| WE.block_n <| WE.then_n <| WC.region <| WL.v (v_move rfl rfl) rfl <| ?_
                refine WL.v (v_add rfl rfl rfl (w_i64 (by omega) (by omega))) rfl ?_
                refine WL.v (v_assign rfl rfl) rfl <| WL.nil <| ?_
                exact WE.next (m + 2) (by omega) (by omega) (.int rfl (by omega) (.cons rfl (.cons rfl (.cons rfl (.cons rfl (.cons rfl (.cons rfl (.cons rfl (.cons rfl (.cons rfl (.cons rfl .nil))))))))))) (.refl _)
               ·
                refine WQ.val (v_move rfl rfl) (.some rfl rfl rfl) rfl rfl ?_
                iterate 13 refine WQ.skip rfl rfl rfl rfl rfl rfl ?_
                refine WQ.val (v_pick_f rfl rfl rfl) (.some rfl rfl rfl) rfl rfl <| WQ.val (v_pick_f rfl rfl rfl) (.none rfl) rfl rfl <| WQ.nil <| WE.then_n <| WC.cond_f rfl <| WC.skip <| WE.block_n <| WE.then_n <| WC.region <| WL.v (v_move rfl rfl) rfl <| ?_
                refine WL.v (v_add rfl rfl rfl (w_i64 (by omega) (by omega))) rfl ?_
                refine WL.v (v_assign rfl rfl) rfl <| WL.nil <| ?_
                exact WE.next (m + 2) (by omega) (by omega) (.int rfl (by omega) (.cons rfl (.cons rfl (.cons rfl (.cons rfl (.cons rfl (.cons rfl (.cons rfl (.cons rfl (.cons rfl (.cons rfl .nil))))))))))) (.refl _)
              ·
               refine WL.nt <| WC.cond_f rfl <| WC.exit <| WE.then_exit <| WE.then_exit <| WE.block_hit <| WE.then_n <| WC.seq <| WC.region <| WL.v (v_fieldAddr0 rfl rfl fld_47_1) rfl <| WL.v (v_load1 rfl rfl one_3 (cellAt (v := .int .i64 s.out) rfl)) rfl <| WL.v (v_move rfl rfl) rfl <| WL.v (v_len_slice rfl rfl Tryz.underlying51) rfl <| ?_
               refine WL.v (v_add rfl rfl rfl (w_i64 (by omega) (by omega))) rfl ?_
               refine WL.v (v_fieldAddr0 rfl rfl fld_47_1) rfl <| WL.store1 rfl rfl rfl rfl one_3 (Nat.le_of_ble_eq_true rfl) (.none rfl) rfl <| WL.rowFb (g := g13) (cs' := SwL.tly { s with in_ := s.in_ + 1, out := s.out + os.length }) rfl <| WL.nt <| WC.seq <| WC.region <| WL.v (v_move rfl rfl) rfl <| WL.v (v_len_slice rfl rfl Tryz.underlying51) rfl <| ?_
               refine WL.test (v_eql rfl rfl rfl) (.none rfl) rfl rfl (fun h307 => ?_) (fun h307 => ?_)
               ·
                refine WL.nt <| WC.cond_t rfl <| WC.region <| WL.v (v_fieldAddr0 rfl rfl fld_47_3) rfl <| WL.v (v_load1 rfl rfl one_3 (cellAt (v := .int .i64 s.nought) rfl)) rfl <| ?_
                refine WL.v (v_add rfl rfl rfl (w_i64 (by omega) (by omega))) rfl ?_
                refine WL.v (v_fieldAddr0 rfl rfl fld_47_3) rfl <| WL.store1 rfl rfl rfl rfl one_3 (Nat.le_of_ble_eq_true rfl) (.none rfl) rfl <| ?_
                refine WL.rowFb (g := g13) (cs' := s'.tly) (by rw [hs2, if_pos (by rw [show os = [] from List.length_eq_zero_iff.1 (by omega)]; rfl)]; rfl) ?_
                refine WL.nil <| WE.block_n <| WE.then_n <| WC.region <| ?_
                refine WL.v (v_add rfl rfl rfl (w_i64 (by omega) (by omega))) rfl ?_
                refine WL.v (v_move rfl rfl) rfl <| WL.nil <| ?_
                exact WE.next ⟨i + 1, s'⟩ (by dsimp only; omega) ⟨by dsimp only; omega, hsi'⟩ (.int rfl (by dsimp only; omega) (.cons rfl (.cons rfl (.cons rfl (.cons rfl (.cons rfl (.cons rfl .nil))))))) (.cons_cons _ (.cons_cons _ (.cons_cons _ (List.sublist_append_of_sublist_right (List.sublist_append_right _ _)))))
               ·
                refine WL.nt <| WC.cond_f rfl <| WC.skip <| WE.block_n <| WE.then_n <| WC.region <| ?_
                refine WL.v (v_add rfl rfl rfl (w_i64 (by omega) (by omega))) rfl ?_
                refine WL.v (v_move rfl rfl) rfl <| WL.nil <| ?_
                refine WE.as (L' := .row gS s'.cells :: .row g13 s'.tly :: .row gT (TbL.cells ⟨20, tad, tc, es⟩) :: (EO ++ (KO ++ (E2 ++ K2)))) (by rw [hs2, if_neg (fun k => h307 (by rw [List.map_eq_nil_iff.1 k]; rfl))]) ?_
                exact WE.next ⟨i + 1, s'⟩ (by dsimp only; omega) ⟨by dsimp only; omega, hsi'⟩ (.int rfl (by dsimp only; omega) (.cons rfl (.cons rfl (.cons rfl (.cons rfl (.cons rfl (.cons rfl .nil))))))) (.cons_cons _ (.cons_cons _ (.cons_cons _ (List.sublist_append_of_sublist_right (List.sublist_append_right _ _)))))
     ·
      refine WL.nt <| WC.seq <| WC.cond_f rfl <| WC.exit <| WE.then_exit <| WE.then_exit <| WE.block_hit <| WE.then_n <| WC.seq <| ?_
      refine WC.quiet mixed (by kernel_rfl) ?_
      refine WQ.val (v_move rfl rfl) (.none rfl) rfl rfl <| WQ.val (v_nilCheck rfl rfl) (.none rfl) rfl rfl <| WQ.val (v_fieldAddr0 rfl rfl fld_49_1) (.none rfl) rfl rfl <| WQ.val (v_loadN (cs := s.tly) rfl rfl many_47 rfl (segAt (g := gS) (m := 4) (new := s.tly) rfl)) (.none rfl) rfl rfl <| WQ.val (v_loadN rfl rfl many_47 rfl allAt) (.none rfl) rfl rfl <| ?_
      refine WQ.val (v_eql_aggT rfl rfl rfl eqk_47 eqg_47 rfl rfl (by rfl)) (.none rfl) rfl rfl ?_
      refine WQ.val (v_assign rfl rfl) (.none rfl) rfl rfl <| WQ.nil <| WE.then_n <| WC.ret <| WE.ret1 (P := Tryz.prog) (.inl rfl) Tryz.results7 rfl <| ?_
      exact fun w' h => ⟨rfl, h.frm⟩
theorem FabricPuts_all (w0 : World) (hG : GW w0) (ports : Int) (ia : Option Addr) (ic : Nat) (ins : List EnL) (hi : Rg w0 ia (ensL ins)) (hI : ∀ x ∈ ins, InOk w0 x) (fa : Option Addr) (fc : Nat) (fs : List FrL) (hr : Rg w0 fa (encL FrL.cells fs)) (hx : ∀ x ∈ fs, FrOk w0 x) (aa : Option Addr) (ac : Nat) (ats : List Int) (ha : Rg w0 aa (encL (fun v => [Value.int .i64 v]) ats)) :
    Calls Tryz.prog 7 #[.int .i64 ports, .slice ia ins.length ic, .slice fa fs.length fc, .slice aa ats.length ac] w0 fun e w' => e = .returned (.bool true) ∧ Frm (fun _ => False) w0 w' := by
  by_cases hpo : 1 ≤ ports ∧ ports ≤ 16
  · exact FabricPuts_ok w0 hG ports hpo ia ic ins hi hI fa fc fs hr hx aa ac ats ha
  · exact FabricPuts_bad w0 hG ports hpo ia ic ins.length fa fc fs.length aa ac ats.length
theorem Arg.ints {w : World} {v : Value} (h : Arg Tryz.prog w 74 v) : ∃ a cap, ∃ xs : List Int, v = .slice a xs.length cap ∧ Rg w a (encL (fun v => [Value.int .i64 v]) xs) := by
  obtain ⟨a, len, cap, rfl, h1, h2, hE⟩ := h.slice (s := 1) Tryz.underlying74 (by kernel_rfl) (by decide)
  obtain ⟨xs, rfl, hr, -⟩ := rgs_of (enc := fun v => [Value.int .i64 v]) (good := fun _ => True) (fun _ => rfl) (fun cs hc hT => by
    match cs, hc with
    | [y], _ =>
      obtain ⟨n, rfl, _⟩ := Tree.int Tryz.underlying3 hT
      exact ⟨n, rfl, trivial⟩) hE
  exact ⟨a, cap, xs, rfl, hr⟩
end Go.Proofs.YtkeonnnhogaggaaGreatDoor
