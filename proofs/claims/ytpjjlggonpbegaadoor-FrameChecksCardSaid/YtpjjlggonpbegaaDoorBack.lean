/- carrefourlaw05.FrameBack. -/
import Derived.Test.YtpjjlggonpbegaaDoorHdArg
import Derived.Test.YtpjjlggonpbegaaDoorLawF
import Derived.Test.YtpjjlggonpbegaaDoorL5
namespace Go.Proofs.YtpjjlggonpbegaaDoor
open Go.RowKit

theorem mvF_byt {e : Nat → Int} {W h : Hd} {po : Nat} {en : Int} (he : Byt e) : Byt (mvF e W h po en) := by
  have key : ∀ old udp, 0 ≤ mvSum old W h → 0 ≤ mvNew old udp W h ∧ mvNew old udp W h ≤ 65535 := fun old udp hs => by
    have := fc_le (mvSum old W h) hs
    unfold mvNew; split <;> omega
  unfold mvF
  split
  · exact he
  · split
    · split
      · exact he
      · by_cases hs : 0 ≤ mvSum (two e (po + 6)) W h
        · exact up2_byt he _ (key _ _ hs).1 (key _ _ hs).2
        · have hfc : 0 ≤ fc (mvSum (two e (po + 6)) W h) ∧ fc (mvSum (two e (po + 6)) W h) ≤ 65535 := by unfold fc; split <;> omega
          exact up2_byt he _ (by unfold mvNew; split <;> omega) (by unfold mvNew; split <;> omega)
    · split
      · exact he
      · have hfc : 0 ≤ fc (mvSum (two e (po + 16)) W h) ∧ fc (mvSum (two e (po + 16)) W h) ≤ 65535 := by unfold fc; split <;> omega
        exact up2_byt he _ (by unfold mvNew; split <;> omega) (by unfold mvNew; split <;> omega)
theorem emF_byt {f : Nat → Int} {W h : Hd} {po : Nat} {en : Int} (hf : Byt f) (hh : h.In) (hho : WOk h) : Byt (emF f W po en h) := by
  have h4 := hho 4 (by decide)
  have h5 := hho 5 (by decide)
  unfold emF
  split
  · exact em0_byt hf hh
  · split
    · exact em3_byt hf hh
    · exact mvF_byt (up2_byt (up2_byt (em3_byt hf hh) _ h4.1 h4.2) _ h5.1 h5.2)
/-- Emit of a frame that was parsed. -/
theorem Emit_p {p : Nat → Prop} {w0 w : World} {L : List Ent} {H h : Hd} {f : Nat → Int} {n : Nat} {port : Int} (hS : St p w0 w L) (hp : ¬ p 0) (hG : GW w0) (hh : h.In) (hf : Byt f) (h1 : prErr port f n = 0) (hm : May (prHd port f) (poN f) (str f n) h) :
    Calls Tryd.prog 7 #[packV H (prHd port f) (str f n) (prPorts f) (prEnd f), .agg (hdCells h)] w fun e w' => ∃ g c r, e = .returned (.tuple #[.slice (some ⟨g, 0, none⟩) n c, .int .i64 0]) ∧ n ≤ c ∧ w0.heap.size ≤ g ∧ St p w0 w' (.row g (bcs (emF f (prHd port f) (poN f) (prEnd f) h) n ++ r) :: L) := by
  obtain ⟨hpt, h14, hn⟩ := prErr_n h1
  have e1 : h.ty = two f 12 := hm.2.2.1.trans (prHd_ty' _ _)
  rw [poN_eq hf]
  refine Emit_k p w0 w L H _ h f n (poN f) _ hS (fun w hS => hG.keep hp hS) hh hm hf h14 (by omega) ?_ ?_ ?_ (prHd_In hf hpt) (prHd_WOk hf) (okB_WOk hm.2.1 hh)
  · intro h2
    obtain ⟨k1, k2, k3, k4, k5, k6⟩ := pkErr_zero (prErr_ip h1 (by omega))
    have := ihn_eq hf
    omega
  · intro h2
    have := poN_bounds hf h1 (by omega)
    omega
  · intro h2
    obtain ⟨k1, k2, k3, k4, k5, k6⟩ := pkErr_zero (prErr_ip h1 (by omega))
    have : prEnd f = 14 + two f 16 := by unfold prEnd; rw [if_pos (by omega)]
    omega

theorem FrameBack_long (w : World) (a : Option Addr) (n cap : Nat) (H : Hd) (port : Int) (h : 2000 < n) :
    Calls Tryd.prog 3 #[.slice a n cap, .agg (hdCells H), .int .i64 port] w fun e w' => e = .returned (.bool true) ∧ Frm (fun _ => False) w w' := by
  refine enter Tryd.func3 rfl Tryd.ntmps3 rfl (St.start (fun _ => False) w) ?_
  refine WC.seq ?_
  refine WC.region ?_
  refine WL.box rfl rfl rfl (.none rfl) rfl rfl ?_
  intro g4 hg4
  refine WL.val (v_assign rfl rfl) (.none rfl) rfl rfl ?_
  refine WL.nil ?_
  refine WE.then_n ?_
  refine WC.seq ?_
  refine WC.seq ?_
  refine WC.region ?_
  refine WL.call rfl rfl ck_5 (.none rfl) rfl rfl ?_
  intro w hS
  refine Calls.then (headOk_c w) hS ?_
  refine WL.val (v_not rfl rfl rfl) (.none rfl) rfl rfl ?_
  refine WL.nil ?_
  refine WE.then_n ?_
  refine WC.cond_f rfl ?_
  refine WC.skip ?_
  refine WE.then_n ?_
  refine WC.seq ?_
  refine WC.seq ?_
  refine WC.region ?_
  refine WL.val (v_move rfl rfl) (.none rfl) rfl rfl ?_
  refine WL.val (v_len_slice rfl rfl Tryd.underlying22) (.none rfl) rfl rfl ?_
  refine WL.val ((v_gtr rfl rfl rfl).t (by omega)) (.none rfl) rfl rfl ?_
  refine WL.nil ?_
  refine WE.then_n ?_
  refine WC.cond_t rfl ?_
  refine WC.seq ?_
  refine WC.region ?_
  refine WL.val (v_assign rfl rfl) (.none rfl) rfl rfl ?_
  refine WL.nil ?_
  refine WE.then_n ?_
  refine WC.ret ?_
  refine WE.then_ret ?_
  refine WE.ret1 (P := Tryd.prog) (.inl rfl) Tryd.results3 rfl ?_
  exact fun w' h => ⟨rfl, h.frm⟩
theorem FrameBack_e (w : World) (a : Option Addr) (n cap : Nat) (f : Nat → Int) (H : Hd) (port : Int) (hr : RdO w a n f) (hf : Byt f) (hc : n ≤ cap) (hn : n ≤ 2000) (h1 : prErr (port % 256) f n ≠ 0) :
    Calls Tryd.prog 3 #[.slice a n cap, .agg (hdCells H), .int .i64 port] w fun e w' => e = .returned (.bool true) ∧ Frm (fun _ => False) w w' := by
  refine enter Tryd.func3 rfl Tryd.ntmps3 rfl (St.start (fun _ => False) w) ?_
  refine WC.seq ?_
  refine WC.region ?_
  refine WL.box rfl rfl rfl (.none rfl) rfl rfl ?_
  intro g4 hg4
  refine WL.val (v_assign rfl rfl) (.none rfl) rfl rfl ?_
  refine WL.nil ?_
  refine WE.then_n ?_
  refine WC.seq ?_
  refine WC.seq ?_
  refine WC.region ?_
  refine WL.call rfl rfl ck_5 (.none rfl) rfl rfl ?_
  intro w hS
  refine Calls.then (headOk_c w) hS ?_
  refine WL.val (v_not rfl rfl rfl) (.none rfl) rfl rfl ?_
  refine WL.nil ?_
  refine WE.then_n ?_
  refine WC.cond_f rfl ?_
  refine WC.skip ?_
  refine WE.then_n ?_
  refine WC.seq ?_
  refine WC.seq ?_
  refine WC.region ?_
  refine WL.val (v_move rfl rfl) (.none rfl) rfl rfl ?_
  refine WL.val (v_len_slice rfl rfl Tryd.underlying22) (.none rfl) rfl rfl ?_
  refine WL.val ((v_gtr rfl rfl rfl).f (by omega)) (.none rfl) rfl rfl ?_
  refine WL.nil ?_
  refine WE.then_n ?_
  refine WC.cond_f rfl ?_
  refine WC.skip ?_
  refine WE.then_n ?_
  refine WC.seq ?_
  refine WC.region ?_
  refine WL.val (v_move rfl rfl) (.none rfl) rfl rfl ?_
  refine WL.val (v_and rfl rfl rfl (mask_i64' (i := 8) (m := 256) (by decide) (by decide) (by decide))) (.none rfl) rfl rfl ?_
  refine WL.val (v_assign rfl rfl) (.none rfl) rfl rfl ?_
  refine WL.nil ?_
  refine WE.then_n ?_
  refine WC.seq ?_
  refine WC.region ?_
  refine WL.val (v_move rfl rfl) (.none rfl) rfl rfl ?_
  refine WL.val (v_move rfl rfl) (.none rfl) rfl rfl ?_
  refine WL.call rfl rfl ck_6 (.none rfl) rfl rfl ?_
  intro w hS
  refine Calls.then (Parse_e w (port % 256) a n cap f (rdOOld (fun _ h => h) hr w hS) hf hc h1) hS ?_
  refine WL.val (v_move rfl rfl) (.none rfl) rfl rfl ?_
  refine WL.val (v_extract rfl rfl rfl) (.none rfl) rfl rfl ?_
  refine WL.val (v_extract rfl rfl rfl) (.none rfl) rfl rfl ?_
  refine WL.alloc rfl zero_31 (.none rfl) rfl rfl ?_
  intro g7 hg7
  refine WL.storeW rfl rfl rfl rfl many_31 rfl rfl (.none rfl) rfl ?_
  refine WL.val (v_assign rfl rfl) (.none rfl) rfl rfl ?_
  refine WL.nil ?_
  refine WE.then_n ?_
  refine WC.seq ?_
  refine WC.seq ?_
  refine WC.region ?_
  refine WL.val (v_move rfl rfl) (.none rfl) rfl rfl ?_
  refine WL.val ((v_neq rfl rfl rfl).t (h1)) (.none rfl) rfl rfl ?_
  refine WL.nil ?_
  refine WE.then_n ?_
  refine WC.cond_t rfl ?_
  refine WC.seq ?_
  refine WC.region ?_
  refine WL.val (v_assign rfl rfl) (.none rfl) rfl rfl ?_
  refine WL.nil ?_
  refine WE.then_n ?_
  refine WC.ret ?_
  refine WE.then_ret ?_
  refine WE.ret1 (P := Tryd.prog) (.inl rfl) Tryd.results3 rfl ?_
  exact fun w' h => ⟨rfl, h.frm⟩
theorem rdRow {p : Nat → Prop} {w0 w : World} {L : List Ent} {g n : Nat} {f : Nat → Int} {r : List Value} [At L g (bcs f n ++ r)] (hS : St p w0 w L) : RdO w (some ⟨g, 0, none⟩) n f :=
  fun _ => ⟨g, 0, rfl, rdAt (g := g) (n := n) (f := f) (off := 0) (cs := bcs f n ++ r) (fun i hi => by rw [bget2 (f := f) (m := n) (o := 0) (j := i) (r := r) (by omega), Nat.zero_add]) w hS⟩
theorem hd_at (q : Int) (f : Nat → Int) : (prHd q f).at q = prHd q f := by
  unfold prHd pkHd Hd.at
  split
  · split <;> rfl
  · rfl
set_option maxHeartbeats 1000000 in
theorem FrameBack_x (w : World) (b off n cap : Nat) (f : Nat → Int) (H : Hd) (port : Int) (hr : Rd w b off n f) (hf : Byt f) (hc : n ≤ cap) (hn : n ≤ 2000) (h1 : prErr (port % 256) f n = 0) (hG : GW w) (hH : H.In) (hm : ¬ May (prHd (port % 256) f) (poN f) (str f n) H) :
    Calls Tryd.prog 3 #[.slice (some ⟨b, off, none⟩) n cap, .agg (hdCells H), .int .i64 port] w fun e w' => e = .returned (.bool true) ∧ Frm (fun _ => False) w w' := by
  obtain ⟨hq, h14, h1514⟩ := prErr_n h1
  have hM := May_own hf h1
  have hW := prHd_In hf hq
  have hO := emF_own hf h1
  have hE := emF_prErr hf hW h1 hM hq
  have hEh := emF_hd (port := port % 256) hf h1 hM
  rw [hd_at] at hEh
  have hFb := emF_byt (W := prHd (port % 256) f) (po := poN f) (en := prEnd f) hf hW (prHd_WOk hf)
  refine enter Tryd.func3 rfl Tryd.ntmps3 rfl (St.start (fun _ => False) w) ?_
  refine WC.seq ?_
  refine WC.region ?_
  refine WL.box rfl rfl rfl (.none rfl) rfl rfl ?_
  intro g4 hg4
  refine WL.val (v_assign rfl rfl) (.none rfl) rfl rfl ?_
  refine WL.nil ?_
  refine WE.then_n ?_
  refine WC.seq ?_
  refine WC.seq ?_
  refine WC.region ?_
  refine WL.call rfl rfl ck_5 (.none rfl) rfl rfl ?_
  intro w hS
  refine Calls.then (headOk_c w) hS ?_
  refine WL.val (v_not rfl rfl rfl) (.none rfl) rfl rfl ?_
  refine WL.nil ?_
  refine WE.then_n ?_
  refine WC.cond_f rfl ?_
  refine WC.skip ?_
  refine WE.then_n ?_
  refine WC.seq ?_
  refine WC.seq ?_
  refine WC.region ?_
  refine WL.val (v_move rfl rfl) (.none rfl) rfl rfl ?_
  refine WL.val (v_len_slice rfl rfl Tryd.underlying22) (.none rfl) rfl rfl ?_
  refine WL.val ((v_gtr rfl rfl rfl).f (by omega)) (.none rfl) rfl rfl ?_
  refine WL.nil ?_
  refine WE.then_n ?_
  refine WC.cond_f rfl ?_
  refine WC.skip ?_
  refine WE.then_n ?_
  refine WC.seq ?_
  refine WC.region ?_
  refine WL.val (v_move rfl rfl) (.none rfl) rfl rfl ?_
  refine WL.val (v_and rfl rfl rfl (mask_i64' (i := 8) (m := 256) (by decide) (by decide) (by decide))) (.none rfl) rfl rfl ?_
  refine WL.val (v_assign rfl rfl) (.none rfl) rfl rfl ?_
  refine WL.nil ?_
  refine WE.then_n ?_
  refine WC.seq ?_
  refine WC.region ?_
  refine WL.val (v_move rfl rfl) (.none rfl) rfl rfl ?_
  refine WL.val (v_move rfl rfl) (.none rfl) rfl rfl ?_
  refine WL.call rfl rfl ck_6 (.none rfl) rfl rfl ?_
  intro w hS
  refine Calls.then (Parse_k w (port % 256) (some ⟨b, off, none⟩) n cap f (fun _ => ⟨b, off, rfl, hS.oldRd (fun h => h) hr⟩) hf hc h1) hS ?_
  refine WL.val (v_move rfl rfl) (.none rfl) rfl rfl ?_
  refine WL.val (v_extract rfl rfl rfl) (.none rfl) rfl rfl ?_
  refine WL.val (v_extract rfl rfl rfl) (.none rfl) rfl rfl ?_
  refine WL.alloc rfl zero_31 (.none rfl) rfl rfl ?_
  intro g7 hg7
  refine WL.storeW rfl rfl rfl rfl many_31 rfl rfl (.none rfl) rfl ?_
  refine WL.val (v_assign rfl rfl) (.none rfl) rfl rfl ?_
  refine WL.nil ?_
  refine WE.then_n ?_
  refine WC.seq ?_
  refine WC.seq ?_
  refine WC.region ?_
  refine WL.val (v_move rfl rfl) (.none rfl) rfl rfl ?_
  refine WL.val ((v_neq rfl rfl rfl).f (by omega)) (.none rfl) rfl rfl ?_
  refine WL.nil ?_
  refine WE.then_n ?_
  refine WC.cond_f rfl ?_
  refine WC.skip ?_
  refine WE.then_n ?_
  refine WC.seq ?_
  refine WC.region ?_
  refine WL.val (v_loadN rfl rfl many_31 rfl allAt) (.none rfl) rfl rfl ?_
  refine WL.val (v_fieldAddr0 rfl rfl fld_31_0) (.none rfl) rfl rfl ?_
  refine WL.val (v_loadN rfl rfl many_28 rfl (segAt (m := 19) rfl)) (.none rfl) rfl rfl ?_
  refine WL.call rfl rfl ck_7 (.none rfl) rfl rfl ?_
  intro w1 hS
  refine (Emit_p hS (fun h => h) hG hW hf h1 hM).mono ?_
  rintro e w' ⟨g39, c39, r39, rfl, hc39, hg39, hS'⟩
  refine ⟨_, _, rfl, hS', ?_⟩
  refine WL.val (v_move rfl rfl) (.none rfl) rfl rfl ?_
  refine WL.val (v_extract rfl rfl rfl) (.none rfl) rfl rfl ?_
  refine WL.val (v_extract rfl rfl rfl) (.none rfl) rfl rfl ?_
  refine WL.val (v_assign rfl rfl) (.none rfl) rfl rfl ?_
  refine WL.val (v_assign rfl rfl) (.none rfl) rfl rfl ?_
  refine WL.nil ?_
  refine WE.then_n ?_
  refine WC.seq ?_
  refine WC.region ?_
  refine WL.val (v_move rfl rfl) (.none rfl) rfl rfl ?_
  refine WL.val (v_move rfl rfl) (.none rfl) rfl rfl ?_
  refine WL.call rfl rfl ck_6 (.none rfl) rfl rfl ?_
  intro w hS
  refine Calls.then (Parse_k w (port % 256) (some ⟨g39, 0, none⟩) n c39 (emF f (prHd (port % 256) f) (poN f) (prEnd f) (prHd (port % 256) f)) (rdRow hS) hFb hc39 hE) hS ?_
  refine WL.val (v_move rfl rfl) (.none rfl) rfl rfl ?_
  refine WL.val (v_extract rfl rfl rfl) (.none rfl) rfl rfl ?_
  refine WL.val (v_extract rfl rfl rfl) (.none rfl) rfl rfl ?_
  refine WL.alloc rfl zero_31 (.none rfl) rfl rfl ?_
  intro g11 hg11
  refine WL.storeW rfl rfl rfl rfl many_31 rfl rfl (.none rfl) rfl ?_
  refine WL.val (v_assign rfl rfl) (.none rfl) rfl rfl ?_
  refine WL.nil ?_
  refine WE.then_n ?_
  refine WC.seq ?_
  refine WC.seq ?_
  refine WC.region ?_
  refine WL.val (v_move rfl rfl) (.none rfl) rfl rfl ?_
  refine WL.val ((v_neq rfl rfl rfl).f (by omega)) (.none rfl) rfl rfl ?_
  refine WL.val (v_move rfl rfl) (.none rfl) rfl rfl ?_
  refine WL.val (v_move rfl rfl) (.some rfl rfl rfl) rfl rfl ?_
  refine WL.val ((v_neq rfl rfl rfl).f (by omega)) (.some rfl rfl rfl) rfl rfl ?_
  refine WL.val (v_pick_f rfl rfl rfl) (.none rfl) rfl rfl ?_
  refine WL.val (v_move rfl rfl) (.none rfl) rfl rfl ?_
  refine WL.val (v_fieldAddr0 rfl rfl fld_31_0) (.some rfl rfl rfl) rfl rfl ?_
  refine WL.val (v_loadN rfl rfl many_28 rfl (segAt (m := 19) rfl)) (.some rfl rfl rfl) rfl rfl ?_
  refine WL.val (v_fieldAddr0 rfl rfl fld_31_0) (.some rfl rfl rfl) rfl rfl ?_
  refine WL.val (v_loadN rfl rfl many_28 rfl (segAt (m := 19) rfl)) (.some rfl rfl rfl) rfl rfl ?_
  refine WL.val (v_neq_aggF rfl rfl rfl eqk_28 eqg_28 rfl rfl (by exact hEh)) (.some rfl rfl rfl) rfl rfl ?_
  refine WL.val (v_pick_f rfl rfl rfl) (.none rfl) rfl rfl ?_
  refine WL.val (v_move rfl rfl) (.none rfl) rfl rfl ?_
  refine WL.val (v_move rfl rfl) (.some rfl rfl rfl) rfl rfl ?_
  refine WL.val (v_len_slice rfl rfl Tryd.underlying22) (.some rfl rfl rfl) rfl rfl ?_
  refine WL.val (v_move rfl rfl) (.some rfl rfl rfl) rfl rfl ?_
  refine WL.val (v_len_slice rfl rfl Tryd.underlying22) (.some rfl rfl rfl) rfl rfl ?_
  refine WL.val ((v_neq rfl rfl rfl).f (by omega)) (.some rfl rfl rfl) rfl rfl ?_
  refine WL.val (v_pick_f rfl rfl rfl) (.none rfl) rfl rfl ?_
  refine WL.nil ?_
  refine WE.then_n ?_
  refine WC.cond_f rfl ?_
  refine WC.skip ?_
  refine WE.then_n ?_
  refine WC.seq ?_
  refine WC.seq ?_
  refine WC.region ?_
  refine WL.val (v_move rfl rfl) (.none rfl) rfl rfl ?_
  refine WL.val (v_len_slice rfl rfl Tryd.underlying22) (.none rfl) rfl rfl ?_
  refine WL.val (v_move rfl rfl) (.none rfl) rfl rfl ?_
  refine WL.nil ?_
  refine WE.then_n ?_
  refine WC.block ?_
  refine WC.loop (fun i : Nat => [(70, .int .i64 i), (69, .int .i64 n), (9, .slice (some ⟨g39, 0, none⟩) n c39), (0, .slice (some ⟨b, off, none⟩) n cap), (7, .pointer (some ⟨g7, 0, none⟩)), (4, .pointer (some ⟨g4, 0, none⟩)), (2, .int .i64 (port % 256))]) (fun _ => [.row g39 (bcs (emF f (prHd (port % 256) f) (poN f) (prEnd f) (prHd (port % 256) f)) n ++ r39), .row g7 (pkL (prHd (port % 256) f) (prHd (port % 256) f) (str f n) (prPorts f) (prEnd f)), .row g4 (hdL H)]) (fun i => i ≤ n) (fun i => n - i) 0 (Nat.zero_le _) (.cons rfl (.cons rfl (.cons rfl (.cons rfl (.cons rfl (.cons rfl (.cons rfl .nil))))))) (.cons _ (.refl _)) ?_
  intro i hi
  refine WC.seq ?_
  refine WC.region ?_
  refine WL.test (v_lss rfl rfl rfl) (.none rfl) rfl rfl (fun h71 => ?_) (fun h71 => ?_)
  · -- 71T
    refine WL.nil ?_
    refine WE.then_n ?_
    refine WC.seq ?_
    refine WC.cond_t rfl ?_
    refine WC.skip ?_
    refine WE.then_n ?_
    refine WC.seq ?_
    refine WC.block ?_
    refine WC.seq ?_
    refine WC.region ?_
    refine WL.val (v_move rfl rfl) (.none rfl) rfl rfl ?_
    refine WL.val (v_assign rfl rfl) (.none rfl) rfl rfl ?_
    refine WL.nil ?_
    refine WE.then_n ?_
    refine WC.seq ?_
    refine WC.quiet mixed (by kernel_rfl) ?_
    refine WQ.val (v_move rfl rfl) (.none rfl) rfl rfl ?_
    refine WQ.val (v_move rfl rfl) (.none rfl) rfl rfl ?_
    refine WQ.val (v_indexAddr (lo := i) rfl rfl rfl Tryd.underlying22 sz_5 (by omega) (by omega)) (.none rfl) rfl rfl ?_
    refine WQ.val ((v_load1 rfl rfl one_5 (cellAt (bget2 (o := 0) (j := i * 1) (by omega)))).eq (v := .int .u8 (emF f (prHd (port % 256) f) (poN f) (prEnd f) (prHd (port % 256) f) i)) (by rw [Nat.zero_add, Nat.mul_one])) (.none rfl) rfl rfl ?_
    refine WQ.val (v_move rfl rfl) (.none rfl) rfl rfl ?_
    refine WQ.val (v_move rfl rfl) (.none rfl) rfl rfl ?_
    refine WQ.val (v_indexAddr (lo := i) rfl rfl rfl Tryd.underlying22 sz_5 (by omega) (by omega)) (.none rfl) rfl rfl ?_
    refine WQ.val (v_load1 rfl rfl one_5 (cellOld (fun h => h) (by rw [Nat.mul_one]; exact hr i (by omega)))) (.none rfl) rfl rfl ?_
    refine WQ.test (v_neq rfl rfl rfl) (.none rfl) rfl rfl (fun h81 => ?_) (fun h81 => ?_)
    · -- 81T
      refine WQ.val (v_move rfl rfl) (.none rfl) rfl rfl ?_
      refine WQ.val (v_move rfl rfl) (.some rfl rfl rfl) rfl rfl ?_
      refine WQ.val (v_move rfl rfl) (.some rfl rfl rfl) rfl rfl ?_
      refine WQ.val (v_indexAddr (lo := i) rfl rfl rfl Tryd.underlying22 sz_5 (by omega) (by omega)) (.some rfl rfl rfl) rfl rfl ?_
      refine WQ.val ((v_load1 rfl rfl one_5 (cellAt (bget2 (o := 0) (j := i * 1) (by omega)))).eq (v := .int .u8 (emF f (prHd (port % 256) f) (poN f) (prEnd f) (prHd (port % 256) f) i)) (by rw [Nat.zero_add, Nat.mul_one])) (.some rfl rfl rfl) rfl rfl ?_
      refine WQ.val (v_move rfl rfl) (.some rfl rfl rfl) rfl rfl ?_
      refine WQ.val (v_move rfl rfl) (.some rfl rfl rfl) rfl rfl ?_
      refine WQ.val (v_indexAddr (lo := i) rfl rfl rfl Tryd.underlying22 sz_5 (by omega) (by omega)) (.some rfl rfl rfl) rfl rfl ?_
      refine WQ.val (v_load1 rfl rfl one_5 (cellOld (fun h => h) (by rw [Nat.mul_one]; exact hr i (by omega)))) (.some rfl rfl rfl) rfl rfl ?_
      refine WQ.val (v_sub rfl rfl rfl (w_u8 (by have := hf i; omega) (by have := hf i; omega))) (.some rfl rfl rfl) rfl rfl ?_
      refine WQ.val ((v_neq rfl rfl rfl).f (fun k => k ((hO i).resolve_left h81))) (.some rfl rfl rfl) rfl rfl ?_
      refine WQ.val (v_pick_t rfl rfl rfl) (.none rfl) rfl rfl ?_
      refine WQ.nil ?_
      refine WE.then_n ?_
      refine WC.cond_f rfl ?_
      refine WC.skip ?_
      refine WE.block_n ?_
      refine WE.then_n ?_
      refine WC.region ?_
      refine WL.val (v_add rfl rfl rfl (w_i64 (by omega) (by omega))) (.none rfl) rfl rfl ?_
      refine WL.val (v_move rfl rfl) (.none rfl) rfl rfl ?_
      refine WL.nil ?_
      exact WE.next (i + 1) (by omega) (by omega) (.int rfl (by omega) (.cons rfl (.cons rfl (.cons rfl (.cons rfl (.cons rfl (.cons rfl .nil))))))) (.refl _)
    · -- 81F
      refine WQ.val (v_move rfl rfl) (.none rfl) rfl rfl ?_
      refine WQ.skip rfl rfl rfl rfl rfl rfl ?_
      refine WQ.skip rfl rfl rfl rfl rfl rfl ?_
      refine WQ.skip rfl rfl rfl rfl rfl rfl ?_
      refine WQ.skip rfl rfl rfl rfl rfl rfl ?_
      refine WQ.skip rfl rfl rfl rfl rfl rfl ?_
      refine WQ.skip rfl rfl rfl rfl rfl rfl ?_
      refine WQ.skip rfl rfl rfl rfl rfl rfl ?_
      refine WQ.skip rfl rfl rfl rfl rfl rfl ?_
      refine WQ.skip rfl rfl rfl rfl rfl rfl ?_
      refine WQ.skip rfl rfl rfl rfl rfl rfl ?_
      refine WQ.val (v_pick_f rfl rfl rfl) (.none rfl) rfl rfl ?_
      refine WQ.nil ?_
      refine WE.then_n ?_
      refine WC.cond_f rfl ?_
      refine WC.skip ?_
      refine WE.block_n ?_
      refine WE.then_n ?_
      refine WC.region ?_
      refine WL.val (v_add rfl rfl rfl (w_i64 (by omega) (by omega))) (.none rfl) rfl rfl ?_
      refine WL.val (v_move rfl rfl) (.none rfl) rfl rfl ?_
      refine WL.nil ?_
      exact WE.next (i + 1) (by omega) (by omega) (.int rfl (by omega) (.cons rfl (.cons rfl (.cons rfl (.cons rfl (.cons rfl (.cons rfl .nil))))))) (.refl _)
  · -- 71F
    refine WL.nil ?_
    refine WE.then_n ?_
    refine WC.seq ?_
    refine WC.cond_f rfl ?_
    refine WC.exit ?_
    refine WE.then_exit ?_
    refine WE.then_exit ?_
    refine WE.block_hit ?_
    refine WE.then_n ?_
    refine WC.seq ?_
    refine WC.region ?_
    refine WL.val (v_loadN rfl rfl many_31 rfl allAt) (.none rfl) rfl rfl ?_
    refine WL.val (v_loadN rfl rfl many_28 rfl allAt) (.none rfl) rfl rfl ?_
    refine WL.call rfl rfl ck_7 (.none rfl) rfl rfl ?_
    intro w hS
    refine Calls.then (Emit_x w _ _ H (str f n) _ _ hH (hG.keep (fun h => h) hS) (by rw [poN_eq hf]; exact hm)) hS ?_
    refine WL.val (v_move rfl rfl) (.none rfl) rfl rfl ?_
    refine WL.val (v_extract rfl rfl rfl) (.none rfl) rfl rfl ?_
    refine WL.val (v_extract rfl rfl rfl) (.none rfl) rfl rfl ?_
    refine WL.val (v_assign rfl rfl) (.none rfl) rfl rfl ?_
    refine WL.val (v_assign rfl rfl) (.none rfl) rfl rfl ?_
    refine WL.nil ?_
    refine WE.then_n ?_
    refine WC.seq ?_
    refine WC.seq ?_
    refine WC.region ?_
    refine WL.val (v_move rfl rfl) (.none rfl) rfl rfl ?_
    refine WL.val ((v_neq rfl rfl rfl).t (by omega)) (.none rfl) rfl rfl ?_
    refine WL.nil ?_
    refine WE.then_n ?_
    refine WC.cond_t rfl ?_
    refine WC.seq ?_
    refine WC.region ?_
    refine WL.val (v_move rfl rfl) (.none rfl) rfl rfl ?_
    refine WL.val (v_len_slice rfl rfl Tryd.underlying22) (.none rfl) rfl rfl ?_
    refine WL.val ((v_eql rfl rfl rfl).t (by omega)) (.none rfl) rfl rfl ?_
    refine WL.val (v_assign rfl rfl) (.none rfl) rfl rfl ?_
    refine WL.nil ?_
    refine WE.then_n ?_
    refine WC.ret ?_
    refine WE.then_ret ?_
    refine WE.ret1 (P := Tryd.prog) (.inl rfl) Tryd.results3 rfl ?_
    exact fun w' h => ⟨rfl, h.frm⟩
set_option maxHeartbeats 2000000 in
theorem FrameBack_k (w : World) (b off n cap : Nat) (f : Nat → Int) (H : Hd) (port : Int) (hr : Rd w b off n f) (hf : Byt f) (hc : n ≤ cap) (hn : n ≤ 2000) (h1 : prErr (port % 256) f n = 0) (hG : GW w) (hH : H.In) (hm : May (prHd (port % 256) f) (poN f) (str f n) H) :
    Calls Tryd.prog 3 #[.slice (some ⟨b, off, none⟩) n cap, .agg (hdCells H), .int .i64 port] w fun e w' => e = .returned (.bool true) ∧ Frm (fun _ => False) w w' := by
  obtain ⟨hq, h14, h1514⟩ := prErr_n h1
  have hM := May_own hf h1
  have hW := prHd_In hf hq
  have hO := emF_own hf h1
  have hE := emF_prErr hf hW h1 hM hq
  have hEh := emF_hd (port := port % 256) hf h1 hM
  rw [hd_at] at hEh
  have hFb := emF_byt (W := prHd (port % 256) f) (po := poN f) (en := prEnd f) hf hW (prHd_WOk hf)
  have h2E := emF_prErr hf hH h1 hm hq
  have h2Eh := emF_hd (port := port % 256) hf h1 hm
  have h2Fb := emF_byt (W := prHd (port % 256) f) (po := poN f) (en := prEnd f) hf hH (okB_WOk hm.2.1 hH)
  have h2B := May_back (port := port % 256) hf h1 hm
  refine enter Tryd.func3 rfl Tryd.ntmps3 rfl (St.start (fun _ => False) w) ?_
  refine WC.seq ?_
  refine WC.region ?_
  refine WL.box rfl rfl rfl (.none rfl) rfl rfl ?_
  intro g4 hg4
  refine WL.val (v_assign rfl rfl) (.none rfl) rfl rfl ?_
  refine WL.nil ?_
  refine WE.then_n ?_
  refine WC.seq ?_
  refine WC.seq ?_
  refine WC.region ?_
  refine WL.call rfl rfl ck_5 (.none rfl) rfl rfl ?_
  intro w hS
  refine Calls.then (headOk_c w) hS ?_
  refine WL.val (v_not rfl rfl rfl) (.none rfl) rfl rfl ?_
  refine WL.nil ?_
  refine WE.then_n ?_
  refine WC.cond_f rfl ?_
  refine WC.skip ?_
  refine WE.then_n ?_
  refine WC.seq ?_
  refine WC.seq ?_
  refine WC.region ?_
  refine WL.val (v_move rfl rfl) (.none rfl) rfl rfl ?_
  refine WL.val (v_len_slice rfl rfl Tryd.underlying22) (.none rfl) rfl rfl ?_
  refine WL.val ((v_gtr rfl rfl rfl).f (by omega)) (.none rfl) rfl rfl ?_
  refine WL.nil ?_
  refine WE.then_n ?_
  refine WC.cond_f rfl ?_
  refine WC.skip ?_
  refine WE.then_n ?_
  refine WC.seq ?_
  refine WC.region ?_
  refine WL.val (v_move rfl rfl) (.none rfl) rfl rfl ?_
  refine WL.val (v_and rfl rfl rfl (mask_i64' (i := 8) (m := 256) (by decide) (by decide) (by decide))) (.none rfl) rfl rfl ?_
  refine WL.val (v_assign rfl rfl) (.none rfl) rfl rfl ?_
  refine WL.nil ?_
  refine WE.then_n ?_
  refine WC.seq ?_
  refine WC.region ?_
  refine WL.val (v_move rfl rfl) (.none rfl) rfl rfl ?_
  refine WL.val (v_move rfl rfl) (.none rfl) rfl rfl ?_
  refine WL.call rfl rfl ck_6 (.none rfl) rfl rfl ?_
  intro w hS
  refine Calls.then (Parse_k w (port % 256) (some ⟨b, off, none⟩) n cap f (fun _ => ⟨b, off, rfl, hS.oldRd (fun h => h) hr⟩) hf hc h1) hS ?_
  refine WL.val (v_move rfl rfl) (.none rfl) rfl rfl ?_
  refine WL.val (v_extract rfl rfl rfl) (.none rfl) rfl rfl ?_
  refine WL.val (v_extract rfl rfl rfl) (.none rfl) rfl rfl ?_
  refine WL.alloc rfl zero_31 (.none rfl) rfl rfl ?_
  intro g7 hg7
  refine WL.storeW rfl rfl rfl rfl many_31 rfl rfl (.none rfl) rfl ?_
  refine WL.val (v_assign rfl rfl) (.none rfl) rfl rfl ?_
  refine WL.nil ?_
  refine WE.then_n ?_
  refine WC.seq ?_
  refine WC.seq ?_
  refine WC.region ?_
  refine WL.val (v_move rfl rfl) (.none rfl) rfl rfl ?_
  refine WL.val ((v_neq rfl rfl rfl).f (by omega)) (.none rfl) rfl rfl ?_
  refine WL.nil ?_
  refine WE.then_n ?_
  refine WC.cond_f rfl ?_
  refine WC.skip ?_
  refine WE.then_n ?_
  refine WC.seq ?_
  refine WC.region ?_
  refine WL.val (v_loadN rfl rfl many_31 rfl allAt) (.none rfl) rfl rfl ?_
  refine WL.val (v_fieldAddr0 rfl rfl fld_31_0) (.none rfl) rfl rfl ?_
  refine WL.val (v_loadN rfl rfl many_28 rfl (segAt (m := 19) rfl)) (.none rfl) rfl rfl ?_
  refine WL.call rfl rfl ck_7 (.none rfl) rfl rfl ?_
  intro w1 hS
  refine (Emit_p hS (fun h => h) hG hW hf h1 hM).mono ?_
  rintro e w' ⟨g39, c39, r39, rfl, hc39, hg39, hS'⟩
  refine ⟨_, _, rfl, hS', ?_⟩
  refine WL.val (v_move rfl rfl) (.none rfl) rfl rfl ?_
  refine WL.val (v_extract rfl rfl rfl) (.none rfl) rfl rfl ?_
  refine WL.val (v_extract rfl rfl rfl) (.none rfl) rfl rfl ?_
  refine WL.val (v_assign rfl rfl) (.none rfl) rfl rfl ?_
  refine WL.val (v_assign rfl rfl) (.none rfl) rfl rfl ?_
  refine WL.nil ?_
  refine WE.then_n ?_
  refine WC.seq ?_
  refine WC.region ?_
  refine WL.val (v_move rfl rfl) (.none rfl) rfl rfl ?_
  refine WL.val (v_move rfl rfl) (.none rfl) rfl rfl ?_
  refine WL.call rfl rfl ck_6 (.none rfl) rfl rfl ?_
  intro w hS
  refine Calls.then (Parse_k w (port % 256) (some ⟨g39, 0, none⟩) n c39 (emF f (prHd (port % 256) f) (poN f) (prEnd f) (prHd (port % 256) f)) (rdRow hS) hFb hc39 hE) hS ?_
  refine WL.val (v_move rfl rfl) (.none rfl) rfl rfl ?_
  refine WL.val (v_extract rfl rfl rfl) (.none rfl) rfl rfl ?_
  refine WL.val (v_extract rfl rfl rfl) (.none rfl) rfl rfl ?_
  refine WL.alloc rfl zero_31 (.none rfl) rfl rfl ?_
  intro g11 hg11
  refine WL.storeW rfl rfl rfl rfl many_31 rfl rfl (.none rfl) rfl ?_
  refine WL.val (v_assign rfl rfl) (.none rfl) rfl rfl ?_
  refine WL.nil ?_
  refine WE.then_n ?_
  refine WC.seq ?_
  refine WC.seq ?_
  refine WC.region ?_
  refine WL.val (v_move rfl rfl) (.none rfl) rfl rfl ?_
  refine WL.val ((v_neq rfl rfl rfl).f (by omega)) (.none rfl) rfl rfl ?_
  refine WL.val (v_move rfl rfl) (.none rfl) rfl rfl ?_
  refine WL.val (v_move rfl rfl) (.some rfl rfl rfl) rfl rfl ?_
  refine WL.val ((v_neq rfl rfl rfl).f (by omega)) (.some rfl rfl rfl) rfl rfl ?_
  refine WL.val (v_pick_f rfl rfl rfl) (.none rfl) rfl rfl ?_
  refine WL.val (v_move rfl rfl) (.none rfl) rfl rfl ?_
  refine WL.val (v_fieldAddr0 rfl rfl fld_31_0) (.some rfl rfl rfl) rfl rfl ?_
  refine WL.val (v_loadN rfl rfl many_28 rfl (segAt (m := 19) rfl)) (.some rfl rfl rfl) rfl rfl ?_
  refine WL.val (v_fieldAddr0 rfl rfl fld_31_0) (.some rfl rfl rfl) rfl rfl ?_
  refine WL.val (v_loadN rfl rfl many_28 rfl (segAt (m := 19) rfl)) (.some rfl rfl rfl) rfl rfl ?_
  refine WL.val (v_neq_aggF rfl rfl rfl eqk_28 eqg_28 rfl rfl (by exact hEh)) (.some rfl rfl rfl) rfl rfl ?_
  refine WL.val (v_pick_f rfl rfl rfl) (.none rfl) rfl rfl ?_
  refine WL.val (v_move rfl rfl) (.none rfl) rfl rfl ?_
  refine WL.val (v_move rfl rfl) (.some rfl rfl rfl) rfl rfl ?_
  refine WL.val (v_len_slice rfl rfl Tryd.underlying22) (.some rfl rfl rfl) rfl rfl ?_
  refine WL.val (v_move rfl rfl) (.some rfl rfl rfl) rfl rfl ?_
  refine WL.val (v_len_slice rfl rfl Tryd.underlying22) (.some rfl rfl rfl) rfl rfl ?_
  refine WL.val ((v_neq rfl rfl rfl).f (by omega)) (.some rfl rfl rfl) rfl rfl ?_
  refine WL.val (v_pick_f rfl rfl rfl) (.none rfl) rfl rfl ?_
  refine WL.nil ?_
  refine WE.then_n ?_
  refine WC.cond_f rfl ?_
  refine WC.skip ?_
  refine WE.then_n ?_
  refine WC.seq ?_
  refine WC.seq ?_
  refine WC.region ?_
  refine WL.val (v_move rfl rfl) (.none rfl) rfl rfl ?_
  refine WL.val (v_len_slice rfl rfl Tryd.underlying22) (.none rfl) rfl rfl ?_
  refine WL.val (v_move rfl rfl) (.none rfl) rfl rfl ?_
  refine WL.nil ?_
  refine WE.then_n ?_
  refine WC.block ?_
  refine WC.loop (fun i : Nat => [(70, .int .i64 i), (69, .int .i64 n), (9, .slice (some ⟨g39, 0, none⟩) n c39), (0, .slice (some ⟨b, off, none⟩) n cap), (7, .pointer (some ⟨g7, 0, none⟩)), (4, .pointer (some ⟨g4, 0, none⟩)), (2, .int .i64 (port % 256))]) (fun _ => [.row g39 (bcs (emF f (prHd (port % 256) f) (poN f) (prEnd f) (prHd (port % 256) f)) n ++ r39), .row g7 (pkL (prHd (port % 256) f) (prHd (port % 256) f) (str f n) (prPorts f) (prEnd f)), .row g4 (hdL H)]) (fun i => i ≤ n) (fun i => n - i) 0 (Nat.zero_le _) (.cons rfl (.cons rfl (.cons rfl (.cons rfl (.cons rfl (.cons rfl (.cons rfl .nil))))))) (.cons _ (.refl _)) ?_
  intro i hi
  refine WC.seq ?_
  refine WC.region ?_
  refine WL.test (v_lss rfl rfl rfl) (.none rfl) rfl rfl (fun h71 => ?_) (fun h71 => ?_)
  · -- 71T
    refine WL.nil ?_
    refine WE.then_n ?_
    refine WC.seq ?_
    refine WC.cond_t rfl ?_
    refine WC.skip ?_
    refine WE.then_n ?_
    refine WC.seq ?_
    refine WC.block ?_
    refine WC.seq ?_
    refine WC.region ?_
    refine WL.val (v_move rfl rfl) (.none rfl) rfl rfl ?_
    refine WL.val (v_assign rfl rfl) (.none rfl) rfl rfl ?_
    refine WL.nil ?_
    refine WE.then_n ?_
    refine WC.seq ?_
    refine WC.quiet mixed (by kernel_rfl) ?_
    refine WQ.val (v_move rfl rfl) (.none rfl) rfl rfl ?_
    refine WQ.val (v_move rfl rfl) (.none rfl) rfl rfl ?_
    refine WQ.val (v_indexAddr (lo := i) rfl rfl rfl Tryd.underlying22 sz_5 (by omega) (by omega)) (.none rfl) rfl rfl ?_
    refine WQ.val ((v_load1 rfl rfl one_5 (cellAt (bget2 (o := 0) (j := i * 1) (by omega)))).eq (v := .int .u8 (emF f (prHd (port % 256) f) (poN f) (prEnd f) (prHd (port % 256) f) i)) (by rw [Nat.zero_add, Nat.mul_one])) (.none rfl) rfl rfl ?_
    refine WQ.val (v_move rfl rfl) (.none rfl) rfl rfl ?_
    refine WQ.val (v_move rfl rfl) (.none rfl) rfl rfl ?_
    refine WQ.val (v_indexAddr (lo := i) rfl rfl rfl Tryd.underlying22 sz_5 (by omega) (by omega)) (.none rfl) rfl rfl ?_
    refine WQ.val (v_load1 rfl rfl one_5 (cellOld (fun h => h) (by rw [Nat.mul_one]; exact hr i (by omega)))) (.none rfl) rfl rfl ?_
    refine WQ.test (v_neq rfl rfl rfl) (.none rfl) rfl rfl (fun h81 => ?_) (fun h81 => ?_)
    · -- 81T
      refine WQ.val (v_move rfl rfl) (.none rfl) rfl rfl ?_
      refine WQ.val (v_move rfl rfl) (.some rfl rfl rfl) rfl rfl ?_
      refine WQ.val (v_move rfl rfl) (.some rfl rfl rfl) rfl rfl ?_
      refine WQ.val (v_indexAddr (lo := i) rfl rfl rfl Tryd.underlying22 sz_5 (by omega) (by omega)) (.some rfl rfl rfl) rfl rfl ?_
      refine WQ.val ((v_load1 rfl rfl one_5 (cellAt (bget2 (o := 0) (j := i * 1) (by omega)))).eq (v := .int .u8 (emF f (prHd (port % 256) f) (poN f) (prEnd f) (prHd (port % 256) f) i)) (by rw [Nat.zero_add, Nat.mul_one])) (.some rfl rfl rfl) rfl rfl ?_
      refine WQ.val (v_move rfl rfl) (.some rfl rfl rfl) rfl rfl ?_
      refine WQ.val (v_move rfl rfl) (.some rfl rfl rfl) rfl rfl ?_
      refine WQ.val (v_indexAddr (lo := i) rfl rfl rfl Tryd.underlying22 sz_5 (by omega) (by omega)) (.some rfl rfl rfl) rfl rfl ?_
      refine WQ.val (v_load1 rfl rfl one_5 (cellOld (fun h => h) (by rw [Nat.mul_one]; exact hr i (by omega)))) (.some rfl rfl rfl) rfl rfl ?_
      refine WQ.val (v_sub rfl rfl rfl (w_u8 (by have := hf i; omega) (by have := hf i; omega))) (.some rfl rfl rfl) rfl rfl ?_
      refine WQ.val ((v_neq rfl rfl rfl).f (fun k => k ((hO i).resolve_left h81))) (.some rfl rfl rfl) rfl rfl ?_
      refine WQ.val (v_pick_t rfl rfl rfl) (.none rfl) rfl rfl ?_
      refine WQ.nil ?_
      refine WE.then_n ?_
      refine WC.cond_f rfl ?_
      refine WC.skip ?_
      refine WE.block_n ?_
      refine WE.then_n ?_
      refine WC.region ?_
      refine WL.val (v_add rfl rfl rfl (w_i64 (by omega) (by omega))) (.none rfl) rfl rfl ?_
      refine WL.val (v_move rfl rfl) (.none rfl) rfl rfl ?_
      refine WL.nil ?_
      exact WE.next (i + 1) (by omega) (by omega) (.int rfl (by omega) (.cons rfl (.cons rfl (.cons rfl (.cons rfl (.cons rfl (.cons rfl .nil))))))) (.refl _)
    · -- 81F
      refine WQ.val (v_move rfl rfl) (.none rfl) rfl rfl ?_
      refine WQ.skip rfl rfl rfl rfl rfl rfl ?_
      refine WQ.skip rfl rfl rfl rfl rfl rfl ?_
      refine WQ.skip rfl rfl rfl rfl rfl rfl ?_
      refine WQ.skip rfl rfl rfl rfl rfl rfl ?_
      refine WQ.skip rfl rfl rfl rfl rfl rfl ?_
      refine WQ.skip rfl rfl rfl rfl rfl rfl ?_
      refine WQ.skip rfl rfl rfl rfl rfl rfl ?_
      refine WQ.skip rfl rfl rfl rfl rfl rfl ?_
      refine WQ.skip rfl rfl rfl rfl rfl rfl ?_
      refine WQ.skip rfl rfl rfl rfl rfl rfl ?_
      refine WQ.val (v_pick_f rfl rfl rfl) (.none rfl) rfl rfl ?_
      refine WQ.nil ?_
      refine WE.then_n ?_
      refine WC.cond_f rfl ?_
      refine WC.skip ?_
      refine WE.block_n ?_
      refine WE.then_n ?_
      refine WC.region ?_
      refine WL.val (v_add rfl rfl rfl (w_i64 (by omega) (by omega))) (.none rfl) rfl rfl ?_
      refine WL.val (v_move rfl rfl) (.none rfl) rfl rfl ?_
      refine WL.nil ?_
      exact WE.next (i + 1) (by omega) (by omega) (.int rfl (by omega) (.cons rfl (.cons rfl (.cons rfl (.cons rfl (.cons rfl (.cons rfl .nil))))))) (.refl _)
  · -- 71F
    refine WL.nil ?_
    refine WE.then_n ?_
    refine WC.seq ?_
    refine WC.cond_f rfl ?_
    refine WC.exit ?_
    refine WE.then_exit ?_
    refine WE.then_exit ?_
    refine WE.block_hit ?_
    refine WE.then_n ?_
    refine WC.seq ?_
    refine WC.region ?_
    refine WL.val (v_loadN rfl rfl many_31 rfl allAt) (.none rfl) rfl rfl ?_
    refine WL.val (v_loadN rfl rfl many_28 rfl allAt) (.none rfl) rfl rfl ?_
    refine WL.call rfl rfl ck_7 (.none rfl) rfl rfl ?_
    intro w1 hS
    refine (Emit_p hS (fun h => h) hG hH hf h1 hm).mono ?_
    rintro e w' ⟨g98, c98, r98, rfl, hc98, hg98, hS'⟩
    refine ⟨_, _, rfl, hS', ?_⟩
    refine WL.val (v_move rfl rfl) (.none rfl) rfl rfl ?_
    refine WL.val (v_extract rfl rfl rfl) (.none rfl) rfl rfl ?_
    refine WL.val (v_extract rfl rfl rfl) (.none rfl) rfl rfl ?_
    refine WL.val (v_assign rfl rfl) (.none rfl) rfl rfl ?_
    refine WL.val (v_assign rfl rfl) (.none rfl) rfl rfl ?_
    refine WL.nil ?_
    refine WE.then_n ?_
    refine WC.seq ?_
    refine WC.seq ?_
    refine WC.region ?_
    refine WL.val (v_move rfl rfl) (.none rfl) rfl rfl ?_
    refine WL.val ((v_neq rfl rfl rfl).f (by omega)) (.none rfl) rfl rfl ?_
    refine WL.nil ?_
    refine WE.then_n ?_
    refine WC.cond_f rfl ?_
    refine WC.skip ?_
    refine WE.then_n ?_
    refine WC.seq ?_
    refine WC.region ?_
    refine WL.val (v_move rfl rfl) (.none rfl) rfl rfl ?_
    refine WL.val (v_fieldAddr0 rfl rfl fld_28_0) (.none rfl) rfl rfl ?_
    refine WL.store1 rfl rfl rfl rfl one_3 (Nat.le_of_ble_eq_true rfl) (.none rfl) rfl ?_
    refine WL.nil ?_
    refine WE.then_n ?_
    refine WC.seq ?_
    refine WC.region ?_
    refine WL.val (v_move rfl rfl) (.none rfl) rfl rfl ?_
    refine WL.val (v_move rfl rfl) (.none rfl) rfl rfl ?_
    refine WL.call rfl rfl ck_6 (.none rfl) rfl rfl ?_
    intro w hS
    refine Calls.then (Parse_k w (port % 256) (some ⟨g98, 0, none⟩) n c98 (emF f (prHd (port % 256) f) (poN f) (prEnd f) H) (rdRow hS) h2Fb hc98 h2E) hS ?_
    refine WL.val (v_move rfl rfl) (.none rfl) rfl rfl ?_
    refine WL.val (v_extract rfl rfl rfl) (.none rfl) rfl rfl ?_
    refine WL.val (v_extract rfl rfl rfl) (.none rfl) rfl rfl ?_
    refine WL.alloc rfl zero_31 (.none rfl) rfl rfl ?_
    intro g16 hg16
    refine WL.storeW rfl rfl rfl rfl many_31 rfl rfl (.none rfl) rfl ?_
    refine WL.val (v_assign rfl rfl) (.none rfl) rfl rfl ?_
    refine WL.nil ?_
    refine WE.then_n ?_
    refine WC.seq ?_
    refine WC.seq ?_
    refine WC.region ?_
    refine WL.val (v_move rfl rfl) (.none rfl) rfl rfl ?_
    refine WL.val ((v_neq rfl rfl rfl).f (by omega)) (.none rfl) rfl rfl ?_
    refine WL.val (v_move rfl rfl) (.none rfl) rfl rfl ?_
    refine WL.val (v_fieldAddr0 rfl rfl fld_31_0) (.some rfl rfl rfl) rfl rfl ?_
    refine WL.val (v_loadN rfl rfl many_28 rfl (segAt (m := 19) rfl)) (.some rfl rfl rfl) rfl rfl ?_
    refine WL.val (v_loadN rfl rfl many_28 rfl allAt) (.some rfl rfl rfl) rfl rfl ?_
    refine WL.val (v_neq_aggF rfl rfl rfl eqk_28 eqg_28 rfl rfl (by exact h2Eh)) (.some rfl rfl rfl) rfl rfl ?_
    refine WL.val (v_pick_f rfl rfl rfl) (.none rfl) rfl rfl ?_
    refine WL.nil ?_
    refine WE.then_n ?_
    refine WC.cond_f rfl ?_
    refine WC.skip ?_
    refine WE.then_n ?_
    refine WC.seq ?_
    refine WC.region ?_
    refine WL.val (v_loadN rfl rfl many_31 rfl allAt) (.none rfl) rfl rfl ?_
    refine WL.val (v_fieldAddr0 rfl rfl fld_31_0) (.none rfl) rfl rfl ?_
    refine WL.val (v_loadN rfl rfl many_28 rfl (segAt (m := 19) rfl)) (.none rfl) rfl rfl ?_
    refine WL.call rfl rfl ck_7 (.none rfl) rfl rfl ?_
    intro w1 hS
    refine (Emit_p hS (fun h => h) hG hW h2Fb h2E h2B).mono ?_
    rintro e w' ⟨g126, c126, r126, rfl, hc126, hg126, hS'⟩
    refine ⟨_, _, rfl, hS', ?_⟩
    refine WL.val (v_move rfl rfl) (.none rfl) rfl rfl ?_
    refine WL.val (v_extract rfl rfl rfl) (.none rfl) rfl rfl ?_
    refine WL.val (v_extract rfl rfl rfl) (.none rfl) rfl rfl ?_
    refine WL.val (v_assign rfl rfl) (.none rfl) rfl rfl ?_
    refine WL.val (v_assign rfl rfl) (.none rfl) rfl rfl ?_
    refine WL.nil ?_
    refine WE.then_n ?_
    refine WC.seq ?_
    refine WC.region ?_
    refine WL.val (v_move rfl rfl) (.none rfl) rfl rfl ?_
    refine WL.val ((v_eql rfl rfl rfl).t (by omega)) (.none rfl) rfl rfl ?_
    refine WL.val (v_move rfl rfl) (.none rfl) rfl rfl ?_
    refine WL.val (v_move rfl rfl) (.some rfl rfl rfl) rfl rfl ?_
    refine WL.val (v_len_slice rfl rfl Tryd.underlying22) (.some rfl rfl rfl) rfl rfl ?_
    refine WL.val (v_move rfl rfl) (.some rfl rfl rfl) rfl rfl ?_
    refine WL.val (v_len_slice rfl rfl Tryd.underlying22) (.some rfl rfl rfl) rfl rfl ?_
    refine WL.val ((v_eql rfl rfl rfl).t (by omega)) (.some rfl rfl rfl) rfl rfl ?_
    refine WL.val (v_pick_t rfl rfl rfl) (.none rfl) rfl rfl ?_
    refine WL.val (v_assign rfl rfl) (.none rfl) rfl rfl ?_
    refine WL.nil ?_
    refine WE.then_n ?_
    refine WC.ret ?_
    refine WE.ret1 (P := Tryd.prog) (.inl rfl) Tryd.results3 rfl ?_
    exact fun w' h => ⟨rfl, h.frm⟩
theorem FrameBack_all (w : World) (a : Option Addr) (n cap : Nat) (f : Nat → Int) (H : Hd) (port : Int) (hr : RdO w a n f) (hf : Byt f) (hc : n ≤ cap) (hG : GW w) (hH : H.In) :
    Calls Tryd.prog 3 #[.slice a n cap, .agg (hdCells H), .int .i64 port] w fun e w' => e = .returned (.bool true) ∧ Frm (fun _ => False) w w' := by
  by_cases h : 2000 < n
  · exact FrameBack_long w a n cap H port h
  by_cases h1 : prErr (port % 256) f n = 0
  · obtain ⟨b, off, rfl, hr'⟩ := hr (by have := (prErr_n h1).2; omega)
    by_cases hm : May (prHd (port % 256) f) (poN f) (str f n) H
    · exact FrameBack_k w b off n cap f H port hr' hf hc (by omega) h1 hG hH hm
    · exact FrameBack_x w b off n cap f H port hr' hf hc (by omega) h1 hG hH hm
  · exact FrameBack_e w a n cap f H port hr hf hc (by omega) h1
end Go.Proofs.YtpjjlggonpbegaaDoor
