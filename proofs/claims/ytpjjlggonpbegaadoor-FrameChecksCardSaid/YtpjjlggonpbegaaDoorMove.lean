/- frame.words, (frame.Pack).move. -/
import Derived.Test.YtpjjlggonpbegaaDoorMay
import Derived.Test.YtpjjlggonpbegaaDoorPut
namespace Go.Proofs.YtpjjlggonpbegaaDoor
open Go.RowKit

/-- A header's addresses and ports, by twos of bytes. -/
def wordsL (h : Hd) : List Value := [.int .i64 (h.sip / 65536), .int .i64 (h.sip % 65536), .int .i64 (h.dip / 65536), .int .i64 (h.dip % 65536), .int .i64 h.sp, .int .i64 h.dp]
def wv (h : Hd) (i : Nat) : Int := [h.sip / 65536, h.sip % 65536, h.dip / 65536, h.dip % 65536, h.sp, h.dp].getD i 0
theorem wget (h : Hd) (i : Nat) (hi : i < 6) : (wordsL h)[i]? = some (.int .i64 (wv h i)) := by
  match i, hi with
  | 0, _ => rfl
  | 1, _ => rfl
  | 2, _ => rfl
  | 3, _ => rfl
  | 4, _ => rfl
  | 5, _ => rfl
theorem words_c (w : World) (h : Hd) (hh : h.In) :
    Calls Tryd.prog 25 #[.agg (hdCells h)] w fun e w' => e = .returned (.agg (wordsL h).toArray) ∧ Frm (fun _ => False) w w' := by
  have h1 := hh.sip; have h2 := hh.dip
  refine enter Tryd.func25 rfl Tryd.ntmps25 rfl (St.start (fun _ => False) w) ?_
  refine WC.seq ?_
  refine WC.region ?_
  refine WL.box rfl rfl rfl (.none rfl) rfl rfl ?_
  intro g1 hg1
  refine WL.alloc rfl zero_56 (.none rfl) rfl rfl ?_
  intro g2 hg2
  refine WL.nil ?_
  refine WE.then_n ?_
  refine WC.seq ?_
  refine WC.region ?_
  refine WL.val (v_fieldAddr0 rfl rfl fld_28_4) (.none rfl) rfl rfl ?_
  refine WL.val (v_load1 rfl rfl one_26 (cellAt rfl)) (.none rfl) rfl rfl ?_
  refine WL.val (v_shr (m := 16) (c := 65536) rfl rfl rfl rfl (by decide) (by decide)) (.none rfl) rfl rfl ?_
  refine WL.val (v_conv rfl rfl Tryd.underlying3 Tryd.underlying26 (w_i64 (by omega) (by omega))) (.none rfl) rfl rfl ?_
  refine WL.val (v_fieldAddr0 rfl rfl fld_28_4) (.none rfl) rfl rfl ?_
  refine WL.val (v_load1 rfl rfl one_26 (cellAt rfl)) (.none rfl) rfl rfl ?_
  refine WL.val (v_and rfl rfl rfl (mask_u32 (i := 16) (m := 65536) (by decide) (by decide) (by decide) (by omega) (by omega))) (.none rfl) rfl rfl ?_
  refine WL.val (v_conv rfl rfl Tryd.underlying3 Tryd.underlying26 (w_i64 (by omega) (by omega))) (.none rfl) rfl rfl ?_
  refine WL.val (v_fieldAddr0 rfl rfl fld_28_5) (.none rfl) rfl rfl ?_
  refine WL.val (v_load1 rfl rfl one_26 (cellAt rfl)) (.none rfl) rfl rfl ?_
  refine WL.val (v_shr (m := 16) (c := 65536) rfl rfl rfl rfl (by decide) (by decide)) (.none rfl) rfl rfl ?_
  refine WL.val (v_conv rfl rfl Tryd.underlying3 Tryd.underlying26 (w_i64 (by omega) (by omega))) (.none rfl) rfl rfl ?_
  refine WL.val (v_fieldAddr0 rfl rfl fld_28_5) (.none rfl) rfl rfl ?_
  refine WL.val (v_load1 rfl rfl one_26 (cellAt rfl)) (.none rfl) rfl rfl ?_
  refine WL.val (v_and rfl rfl rfl (mask_u32 (i := 16) (m := 65536) (by decide) (by decide) (by decide) (by omega) (by omega))) (.none rfl) rfl rfl ?_
  refine WL.val (v_conv rfl rfl Tryd.underlying3 Tryd.underlying26 (w_i64 (by omega) (by omega))) (.none rfl) rfl rfl ?_
  refine WL.val (v_fieldAddr0 rfl rfl fld_28_7) (.none rfl) rfl rfl ?_
  refine WL.val (v_load1 rfl rfl one_3 (cellAt rfl)) (.none rfl) rfl rfl ?_
  refine WL.val (v_fieldAddr0 rfl rfl fld_28_8) (.none rfl) rfl rfl ?_
  refine WL.val (v_load1 rfl rfl one_3 (cellAt rfl)) (.none rfl) rfl rfl ?_
  refine WL.val (v_buildA rfl rfl zero_56 Tryd.underlying56 sz_3 rfl) (.none rfl) rfl rfl ?_
  refine WL.storeW rfl rfl rfl rfl many_56 rfl rfl (.none rfl) rfl ?_
  refine WL.nil ?_
  refine WE.then_n ?_
  refine WC.ret ?_
  refine WE.ret1 (P := Tryd.prog) (.inl rfl) Tryd.results25 (resRow rfl many_56 rfl) ?_
  exact fun w' h => ⟨rfl, h.frm⟩
def psum (g : Nat → Int) : Nat → Int
  | 0 => 0
  | k + 1 => psum g k + g k
/-- All words fit two bytes. -/
def WOk (h : Hd) : Prop := ∀ i, i < 6 → 0 ≤ wv h i ∧ wv h i ≤ 65535
theorem psum_le {g : Nat → Int} {k : Nat} (h : ∀ i, i < k → 0 ≤ g i ∧ g i ≤ 65535) : 0 ≤ psum g k ∧ psum g k ≤ 65535 * k := by
  induction k with
  | zero => exact ⟨Int.le_refl _, by simp [psum]⟩
  | succ k ih =>
    have := ih (fun i hi => h i (by omega)); have := h k (by omega)
    simp only [psum]; omega
def mvSum (old : Int) (W h : Hd) : Int := 65535 - old + psum (fun i => 65535 - wv W i) 6 + psum (wv h) 6
def mvNew (old : Int) (udp : Bool) (W h : Hd) : Int := if udp = true ∧ 65535 - fc (mvSum old W h) = 0 then 65535 else 65535 - fc (mvSum old W h)
/-- The bytes behind (frame.Pack).move. -/
def mvF (e : Nat → Int) (W h : Hd) (po : Nat) (en : Int) : Nat → Int :=
  if two e 20 % 16384 ≠ 0 then e
  else if W.proto = 17 then (if two e (po + 6) = 0 then e else up2 e (po + 6) (mvNew (two e (po + 6)) true W h))
  else if en - po < 20 then e else up2 e (po + 16) (mvNew (two e (po + 16)) false W h)
theorem bget2 {f : Nat → Int} {m o j : Nat} {r : List Value} (h : o + j < m) : (bcs f m ++ r)[o + j]? = some (.int .u8 (f (o + j))) := by
  rw [List.getElem?_append_left (by rw [bcs_len]; exact h), bcs_get f m _ h]
set_option maxHeartbeats 2000000 in
theorem move_f (p : Nat → Prop) (w0 w : World) (L : List Ent) (b n cap : Nat) (e : Nat → Int) (r : List Value) (H W h : Hd) (raw : ByteArray) (po : Nat) (en : Int) (hS : St p w0 w (.row b (bcs e n ++ r) :: L))
    (he : Byt e) (hc : n ≤ cap) (hn : n ≤ 2000) (h22 : 22 ≤ n) (hW : W.In) (hWo : WOk W) (hh : h.In) (hho : WOk h) (hpo : po + 8 ≤ n) (hen : 0 ≤ en ∧ en ≤ n) :
    Calls Tryd.prog 18 #[packV H W raw po en, .slice (some ⟨b, 0, none⟩) n cap, .agg (hdCells h)] w fun e' w' => e' = .returned (.tuple #[]) ∧ St p w0 w' (.row b (bcs (mvF e W h po en) n ++ r) :: L) := by
  have t20 := two_le he 20
  have ta := two_le he (po + 6)
  have tb := two_le he (po + 16)
  have s1 : ∀ k, k ≤ 6 → 0 ≤ psum (fun i => 65535 - wv W i) k ∧ psum (fun i => 65535 - wv W i) k ≤ 65535 * k := fun k hk => psum_le (fun i hi => by have := hWo i (by omega); omega)
  have s2 : ∀ k, k ≤ 6 → 0 ≤ psum (wv h) k ∧ psum (wv h) k ≤ 65535 * k := fun k hk => psum_le (fun i hi => hho i (by omega))
  have s16 := s1 6 (Nat.le_refl _)
  have s26 := s2 6 (Nat.le_refl _)
  refine enter Tryd.func18 rfl Tryd.ntmps18 rfl hS ?_
  refine WC.seq ?_
  refine WC.region ?_
  refine WL.box rfl rfl rfl (.none rfl) rfl rfl ?_
  intro g3 hg3
  refine WL.box rfl rfl rfl (.none rfl) rfl rfl ?_
  intro g5 hg5
  refine WL.nil ?_
  refine WE.then_n ?_
  refine WC.seq ?_
  refine WC.seq ?_
  refine WC.region ?_
  refine WL.val (v_move rfl rfl) (.none rfl) rfl rfl ?_
  refine WL.val (v_slice_loS (lo := 20) rfl rfl rfl Tryd.underlying22 sz_5 rfl (by omega) (by omega)) (.none rfl) rfl rfl ?_
  refine WL.call rfl rfl ck_12 (.none rfl) rfl rfl ?_
  intro w hS
  refine Calls.then (get_c w b _ _ _ (fun i => e (20 + i)) (rdAt (g := b) (cs := bcs e n ++ r) (fun i hi => by rw [Nat.zero_add, Nat.mul_one]; exact bget2 (by omega)) w hS) (he.sub 20) (by omega) (two e 20) rfl) hS ?_
  refine WL.val (v_and rfl rfl rfl (mask_i64' (i := 14) (m := 16384) (by decide) (by decide) (by decide))) (.none rfl) rfl rfl ?_
  refine WL.test (v_neq rfl rfl rfl) (.none rfl) rfl rfl (fun h19 => ?_) (fun h19 => ?_)
  · -- 19T
    refine WL.nil ?_
    refine WE.then_n ?_
    refine WC.cond_t rfl ?_
    refine WC.ret ?_
    refine WE.then_ret ?_
    refine WE.ret0 (P := Tryd.prog) (.inl rfl) Tryd.results18  ?_
    exact fun w' h' => ⟨rfl, by unfold mvF; rw [if_pos h19]; exact h'.sub (.cons _ (.cons _ (.refl _)))⟩
  · -- 19F
    refine WL.nil ?_
    refine WE.then_n ?_
    refine WC.cond_f rfl ?_
    refine WC.skip ?_
    refine WE.then_n ?_
    refine WC.seq ?_
    refine WC.quiet mixed (by kernel_rfl) ?_
    refine WQ.val (v_fieldAddr0 rfl rfl fld_31_3) (.none rfl) rfl rfl ?_
    refine WQ.val (v_load1 rfl rfl one_3 (cellAt rfl)) (.none rfl) rfl rfl ?_
    refine WQ.val (v_add rfl rfl rfl (w_i64 (by omega) (by omega))) (.none rfl) rfl rfl ?_
    refine WQ.val (v_fieldAddr0 rfl rfl fld_31_1) (.none rfl) rfl rfl ?_
    refine WQ.val (v_fieldAddr rfl rfl fld_28_6) (.none rfl) rfl rfl ?_
    refine WQ.val (v_load1 rfl rfl one_3 (cellAt rfl)) (.none rfl) rfl rfl ?_
    refine WQ.test (v_eql rfl rfl rfl) (.none rfl) rfl rfl (fun h26 => ?_) (fun h26 => ?_)
    · -- 26T
      refine WQ.val (v_assign rfl rfl) (.none rfl) rfl rfl ?_
      refine WQ.val (v_assign rfl rfl) (.none rfl) rfl rfl ?_
      refine WQ.nil ?_
      refine WE.then_n ?_
      refine WC.seq ?_
      refine WC.seq ?_
      refine WC.region ?_
      refine WL.val (v_move rfl rfl) (.none rfl) rfl rfl ?_
      refine WL.nil ?_
      refine WE.then_n ?_
      refine WC.cond_t rfl ?_
      refine WC.region ?_
      refine WL.val (v_fieldAddr0 rfl rfl fld_31_3) (.none rfl) rfl rfl ?_
      refine WL.val (v_load1 rfl rfl one_3 (cellAt rfl)) (.none rfl) rfl rfl ?_
      refine WL.val (v_add rfl rfl rfl (w_i64 (by omega) (by omega))) (.none rfl) rfl rfl ?_
      refine WL.val (v_assign rfl rfl) (.none rfl) rfl rfl ?_
      refine WL.nil ?_
      refine WE.then_n ?_
      refine WC.seq ?_
      refine WC.region ?_
      refine WL.val (v_move rfl rfl) (.none rfl) rfl rfl ?_
      refine WL.val (v_move rfl rfl) (.none rfl) rfl rfl ?_
      refine WL.val (v_slice_loS (lo := po + 6) rfl rfl rfl Tryd.underlying22 sz_5 (by omega) (by omega) (by omega)) (.none rfl) rfl rfl ?_
      refine WL.call rfl rfl ck_12 (.none rfl) rfl rfl ?_
      intro w hS
      refine Calls.then (get_c w b _ _ _ (fun i => e (po + 6 + i)) (rdAt (g := b) (cs := bcs e n ++ r) (fun i hi => by rw [Nat.zero_add, Nat.mul_one]; exact bget2 (by omega)) w hS) (he.sub _) (by omega) (two e (po + 6)) rfl) hS ?_
      refine WL.val (v_assign rfl rfl) (.none rfl) rfl rfl ?_
      refine WL.nil ?_
      refine WE.then_n ?_
      refine WC.seq ?_
      refine WC.seq ?_
      refine WC.region ?_
      refine WL.val (v_move rfl rfl) (.none rfl) rfl rfl ?_
      refine WL.val (v_move rfl rfl) (.none rfl) rfl rfl ?_
      refine WL.val (v_move rfl rfl) (.some rfl rfl rfl) rfl rfl ?_
      refine WL.test (v_eql rfl rfl rfl) (.some rfl rfl rfl) rfl rfl (fun h44 => ?_) (fun h44 => ?_)
      · -- 44T
        refine WL.val (v_pick_t rfl rfl rfl) (.none rfl) rfl rfl ?_
        refine WL.nil ?_
        refine WE.then_n ?_
        refine WC.cond_t rfl ?_
        refine WC.ret ?_
        refine WE.then_ret ?_
        refine WE.ret0 (P := Tryd.prog) (.inl rfl) Tryd.results18  ?_
        exact fun w' h' => ⟨rfl, by unfold mvF; rw [if_neg h19, if_pos h26, if_pos h44]; exact h'.sub (.cons _ (.cons _ (.refl _)))⟩
      · -- 44F
        refine WL.val (v_pick_t rfl rfl rfl) (.none rfl) rfl rfl ?_
        refine WL.nil ?_
        refine WE.then_n ?_
        refine WC.cond_f rfl ?_
        refine WC.skip ?_
        refine WE.then_n ?_
        refine WC.seq ?_
        refine WC.region ?_
        refine WL.val (v_move rfl rfl) (.none rfl) rfl rfl ?_
        refine WL.val (v_xor rfl rfl rfl (xor16_i64 (by omega) (by omega))) (.none rfl) rfl rfl ?_
        refine WL.val (v_assign rfl rfl) (.none rfl) rfl rfl ?_
        refine WL.nil ?_
        refine WE.then_n ?_
        refine WC.seq ?_
        refine WC.seq ?_
        refine WC.region ?_
        refine WL.val (v_fieldAddr0 rfl rfl fld_31_1) (.none rfl) rfl rfl ?_
        refine WL.val (v_loadN rfl rfl many_28 rfl (segAt (m := 19) rfl)) (.none rfl) rfl rfl ?_
        refine WL.call rfl rfl ck_25 (.none rfl) rfl rfl ?_
        intro w hS
        refine Calls.then (words_c w W hW) hS ?_
        refine WL.val (v_move rfl rfl) (.none rfl) rfl rfl ?_
        refine WL.nil ?_
        refine WE.then_n ?_
        refine WC.block ?_
        refine WC.loop (fun i : Nat => [(51, .int .i64 i), (50, .agg (wordsL W).toArray), (9, .int .i64 (65535 - two e (po + 6) + psum (fun i => 65535 - wv W i) i)), (7, .bool true), (6, .int .i64 (po + 6)), (1, .slice (some ⟨b, 0, none⟩) n cap), (5, .pointer (some ⟨g5, 0, none⟩))]) (fun _ => .row g5 (hdL h) :: .row g3 (pkL H W raw po en) :: .row b (bcs e n ++ r) :: L) (fun i => i ≤ 6) (fun i => 6 - i) 0 (Nat.zero_le _) (.cons rfl (.cons rfl (.int rfl (by simp only [psum]; omega) (.cons rfl (.cons rfl (.cons rfl (.cons rfl .nil))))))) (.refl _) ?_
        intro i hi
        have s1i := s1 i hi
        refine WC.seq ?_
        refine WC.region ?_
        refine WL.test (v_lss rfl rfl rfl) (.none rfl) rfl rfl (fun h52 => ?_) (fun h52 => ?_)
        · -- 52T
          refine WL.nil ?_
          refine WE.then_n ?_
          refine WC.seq ?_
          refine WC.cond_t rfl ?_
          refine WC.skip ?_
          refine WE.then_n ?_
          refine WC.seq ?_
          refine WC.block ?_
          refine WC.seq ?_
          refine WC.region ?_
          refine WL.val (v_indexV (lo := i) rfl rfl rfl Tryd.underlying56 one_3 (by omega) (by omega) (wget W i (by omega))) (.none rfl) rfl rfl ?_
          have wvi := hWo i (by omega)
          refine WL.val (v_assign rfl rfl) (.none rfl) rfl rfl ?_
          refine WL.nil ?_
          refine WE.then_n ?_
          refine WC.region ?_
          refine WL.val (v_move rfl rfl) (.none rfl) rfl rfl ?_
          refine WL.val (v_move rfl rfl) (.none rfl) rfl rfl ?_
          refine WL.val (v_xor rfl rfl rfl (xor16_i64 (by omega) (by omega))) (.none rfl) rfl rfl ?_
          refine WL.val (v_add rfl rfl rfl (w_i64 (by omega) (by omega))) (.none rfl) rfl rfl ?_
          refine WL.val (v_assign rfl rfl) (.none rfl) rfl rfl ?_
          refine WL.nil ?_
          refine WE.block_n ?_
          refine WE.then_n ?_
          refine WC.region ?_
          refine WL.val (v_add rfl rfl rfl (w_i64 (by omega) (by omega))) (.none rfl) rfl rfl ?_
          refine WL.val (v_move rfl rfl) (.none rfl) rfl rfl ?_
          refine WL.nil ?_
          exact WE.next (i + 1) (by omega) (by omega) (.int rfl (by omega) (.cons rfl (.int rfl (by simp only [psum]; omega) (.cons rfl (.cons rfl (.cons rfl (.cons rfl .nil))))))) (.refl _)
        · -- 52F
          refine WL.nil ?_
          refine WE.then_n ?_
          refine WC.seq ?_
          refine WC.cond_f rfl ?_
          refine WC.exit ?_
          refine WE.then_exit ?_
          refine WE.then_exit ?_
          refine WE.block_hit ?_
          refine WE.then_n ?_
          refine WC.seq ?_
          refine WC.seq ?_
          refine WC.region ?_
          refine WL.val (v_loadN rfl rfl many_28 rfl allAt) (.none rfl) rfl rfl ?_
          refine WL.call rfl rfl ck_25 (.none rfl) rfl rfl ?_
          intro w hS
          refine Calls.then (words_c w h hh) hS ?_
          refine WL.val (v_move rfl rfl) (.none rfl) rfl rfl ?_
          refine WL.nil ?_
          refine WE.then_n ?_
          refine WC.block ?_
          refine WC.loop (fun i : Nat => [(61, .int .i64 i), (60, .agg (wordsL h).toArray), (9, .int .i64 (65535 - two e (po + 6) + psum (fun i => 65535 - wv W i) 6 + psum (wv h) i)), (7, .bool true), (6, .int .i64 (po + 6)), (1, .slice (some ⟨b, 0, none⟩) n cap)]) (fun _ => .row b (bcs e n ++ r) :: L) (fun i => i ≤ 6) (fun i => 6 - i) 0 (Nat.zero_le _) (.cons rfl (.cons rfl (.int rfl (by obtain rfl : i = 6 := (by omega); simp only [psum]; omega) (.cons rfl (.cons rfl (.cons rfl .nil)))))) (.cons _ (.cons _ (.refl _))) ?_
          intro j hj
          have s2j := s2 j hj
          refine WC.seq ?_
          refine WC.region ?_
          refine WL.test (v_lss rfl rfl rfl) (.none rfl) rfl rfl (fun h62 => ?_) (fun h62 => ?_)
          · -- 62T
            refine WL.nil ?_
            refine WE.then_n ?_
            refine WC.seq ?_
            refine WC.cond_t rfl ?_
            refine WC.skip ?_
            refine WE.then_n ?_
            refine WC.seq ?_
            refine WC.block ?_
            refine WC.seq ?_
            refine WC.region ?_
            refine WL.val (v_indexV (lo := j) rfl rfl rfl Tryd.underlying56 one_3 (by omega) (by omega) (wget h j (by omega))) (.none rfl) rfl rfl ?_
            have hvj := hho j (by omega)
            refine WL.val (v_assign rfl rfl) (.none rfl) rfl rfl ?_
            refine WL.nil ?_
            refine WE.then_n ?_
            refine WC.region ?_
            refine WL.val (v_move rfl rfl) (.none rfl) rfl rfl ?_
            refine WL.val (v_move rfl rfl) (.none rfl) rfl rfl ?_
            refine WL.val (v_add rfl rfl rfl (w_i64 (by omega) (by omega))) (.none rfl) rfl rfl ?_
            refine WL.val (v_assign rfl rfl) (.none rfl) rfl rfl ?_
            refine WL.nil ?_
            refine WE.block_n ?_
            refine WE.then_n ?_
            refine WC.region ?_
            refine WL.val (v_add rfl rfl rfl (w_i64 (by omega) (by omega))) (.none rfl) rfl rfl ?_
            refine WL.val (v_move rfl rfl) (.none rfl) rfl rfl ?_
            refine WL.nil ?_
            exact WE.next (j + 1) (by omega) (by omega) (.int rfl (by omega) (.cons rfl (.int rfl (by simp only [psum]; omega) (.cons rfl (.cons rfl (.cons rfl .nil)))))) (.refl _)
          · -- 62F
            refine WL.nil ?_
            refine WE.then_n ?_
            refine WC.seq ?_
            refine WC.cond_f rfl ?_
            refine WC.exit ?_
            refine WE.then_exit ?_
            refine WE.then_exit ?_
            refine WE.block_hit ?_
            refine WE.then_n ?_
            refine WC.seq ?_
            refine WC.region ?_
            refine WL.val (v_move rfl rfl) (.none rfl) rfl rfl ?_
            refine WL.call rfl rfl ck_24 (.none rfl) rfl rfl ?_
            intro w hS
            refine Calls.then (fold_c w _ (by omega) (by omega)) hS ?_
            refine WL.val (v_xor rfl rfl rfl (xor16_i64 (fc_le _ (by omega)).1 (fc_le _ (by omega)).2)) (.none rfl) rfl rfl ?_
            have hfc := fc_le (65535 - two e (po + 6) + psum (fun i => 65535 - wv W i) 6 + psum (wv h) j) (by omega)
            obtain rfl : j = 6 := (by omega)
            refine WL.val (v_assign rfl rfl) (.none rfl) rfl rfl ?_
            refine WL.nil ?_
            refine WE.then_n ?_
            refine WC.seq ?_
            refine WC.seq ?_
            refine WC.region ?_
            refine WL.val (v_move rfl rfl) (.none rfl) rfl rfl ?_
            refine WL.val (v_move rfl rfl) (.none rfl) rfl rfl ?_
            refine WL.val (v_move rfl rfl) (.some rfl rfl rfl) rfl rfl ?_
            refine WL.test (v_eql rfl rfl rfl) (.some rfl rfl rfl) rfl rfl (fun h74 => ?_) (fun h74 => ?_)
            · -- 74T
              refine WL.val (v_pick_t rfl rfl rfl) (.none rfl) rfl rfl ?_
              refine WL.nil ?_
              refine WE.then_n ?_
              refine WC.cond_t rfl ?_
              refine WC.region ?_
              refine WL.val (v_assign rfl rfl) (.none rfl) rfl rfl ?_
              refine WL.nil ?_
              refine WE.then_n ?_
              refine WC.region ?_
              refine WL.val (v_move rfl rfl) (.none rfl) rfl rfl ?_
              refine WL.val (v_move rfl rfl) (.none rfl) rfl rfl ?_
              refine WL.val (v_slice_loS (lo := po + 6) rfl rfl rfl Tryd.underlying22 sz_5 (by omega) (by omega) (by omega)) (.none rfl) rfl rfl ?_
              refine WL.val (v_move rfl rfl) (.none rfl) rfl rfl ?_
              refine WL.call rfl rfl ck_16 (.none rfl) rfl rfl ?_
              intro w hS
              refine Calls.thenS (put_u hS (by omega) (by omega) (by omega) (by omega)) ?_
              refine WL.nil ?_
              refine WE.ret0 (P := Tryd.prog) (.inr rfl) Tryd.results18  ?_
              exact fun w' h' => ⟨rfl, by unfold mvF mvNew mvSum; rw [if_neg h19, if_pos h26, if_neg h44, if_pos ⟨rfl, h74⟩]; rw [Nat.zero_add, Nat.mul_one] at h'; exact h'⟩
            · -- 74F
              refine WL.val (v_pick_t rfl rfl rfl) (.none rfl) rfl rfl ?_
              refine WL.nil ?_
              refine WE.then_n ?_
              refine WC.cond_f rfl ?_
              refine WC.skip ?_
              refine WE.then_n ?_
              refine WC.region ?_
              refine WL.val (v_move rfl rfl) (.none rfl) rfl rfl ?_
              refine WL.val (v_move rfl rfl) (.none rfl) rfl rfl ?_
              refine WL.val (v_slice_loS (lo := po + 6) rfl rfl rfl Tryd.underlying22 sz_5 (by omega) (by omega) (by omega)) (.none rfl) rfl rfl ?_
              refine WL.val (v_move rfl rfl) (.none rfl) rfl rfl ?_
              refine WL.call rfl rfl ck_16 (.none rfl) rfl rfl ?_
              intro w hS
              refine Calls.thenS (put_u hS (by omega) (by omega) (by omega) (by omega)) ?_
              refine WL.nil ?_
              refine WE.ret0 (P := Tryd.prog) (.inr rfl) Tryd.results18  ?_
              exact fun w' h' => ⟨rfl, by unfold mvF mvNew mvSum; rw [if_neg h19, if_pos h26, if_neg h44, if_neg (fun k => h74 k.2)]; rw [Nat.zero_add, Nat.mul_one] at h'; exact h'⟩
    · -- 26F
      refine WQ.val (v_assign rfl rfl) (.none rfl) rfl rfl ?_
      refine WQ.val (v_assign rfl rfl) (.none rfl) rfl rfl ?_
      refine WQ.nil ?_
      refine WE.then_n ?_
      refine WC.seq ?_
      refine WC.seq ?_
      refine WC.region ?_
      refine WL.val (v_move rfl rfl) (.none rfl) rfl rfl ?_
      refine WL.nil ?_
      refine WE.then_n ?_
      refine WC.cond_f rfl ?_
      refine WC.seq ?_
      refine WC.region ?_
      refine WL.val (v_fieldAddr0 rfl rfl fld_31_4) (.none rfl) rfl rfl ?_
      refine WL.val (v_load1 rfl rfl one_3 (cellAt rfl)) (.none rfl) rfl rfl ?_
      refine WL.val (v_fieldAddr0 rfl rfl fld_31_3) (.none rfl) rfl rfl ?_
      refine WL.val (v_load1 rfl rfl one_3 (cellAt rfl)) (.none rfl) rfl rfl ?_
      refine WL.val (v_sub rfl rfl rfl (w_i64 (by omega) (by omega))) (.none rfl) rfl rfl ?_
      refine WL.test (v_lss rfl rfl rfl) (.none rfl) rfl rfl (fun h36 => ?_) (fun h36 => ?_)
      · -- 36T
        refine WL.nil ?_
        refine WE.then_n ?_
        refine WC.cond_t rfl ?_
        refine WC.ret ?_
        refine WE.then_ret ?_
        refine WE.ret0 (P := Tryd.prog) (.inl rfl) Tryd.results18  ?_
        exact fun w' h' => ⟨rfl, by unfold mvF; rw [if_neg h19, if_neg h26, if_pos h36]; exact h'.sub (.cons _ (.cons _ (.refl _)))⟩
      · -- 36F
        refine WL.nil ?_
        refine WE.then_n ?_
        refine WC.cond_f rfl ?_
        refine WC.skip ?_
        refine WE.then_n ?_
        refine WC.seq ?_
        refine WC.region ?_
        refine WL.val (v_move rfl rfl) (.none rfl) rfl rfl ?_
        refine WL.val (v_move rfl rfl) (.none rfl) rfl rfl ?_
        refine WL.val (v_slice_loS (lo := po + 16) rfl rfl rfl Tryd.underlying22 sz_5 (by omega) (by omega) (by omega)) (.none rfl) rfl rfl ?_
        refine WL.call rfl rfl ck_12 (.none rfl) rfl rfl ?_
        intro w hS
        refine Calls.then (get_c w b _ _ _ (fun i => e (po + 16 + i)) (rdAt (g := b) (cs := bcs e n ++ r) (fun i hi => by rw [Nat.zero_add, Nat.mul_one]; exact bget2 (by omega)) w hS) (he.sub _) (by omega) (two e (po + 16)) rfl) hS ?_
        refine WL.val (v_assign rfl rfl) (.none rfl) rfl rfl ?_
        refine WL.nil ?_
        refine WE.then_n ?_
        refine WC.seq ?_
        refine WC.seq ?_
        refine WC.region ?_
        refine WL.val (v_move rfl rfl) (.none rfl) rfl rfl ?_
        refine WL.val (v_move rfl rfl) (.none rfl) rfl rfl ?_
        refine WL.skip rfl rfl rfl rfl rfl rfl ?_
        refine WL.skip rfl rfl rfl rfl rfl rfl ?_
        refine WL.val (v_pick_f rfl rfl rfl) (.none rfl) rfl rfl ?_
        refine WL.nil ?_
        refine WE.then_n ?_
        refine WC.cond_f rfl ?_
        refine WC.skip ?_
        refine WE.then_n ?_
        refine WC.seq ?_
        refine WC.region ?_
        refine WL.val (v_move rfl rfl) (.none rfl) rfl rfl ?_
        refine WL.val (v_xor rfl rfl rfl (xor16_i64 (by omega) (by omega))) (.none rfl) rfl rfl ?_
        refine WL.val (v_assign rfl rfl) (.none rfl) rfl rfl ?_
        refine WL.nil ?_
        refine WE.then_n ?_
        refine WC.seq ?_
        refine WC.seq ?_
        refine WC.region ?_
        refine WL.val (v_fieldAddr0 rfl rfl fld_31_1) (.none rfl) rfl rfl ?_
        refine WL.val (v_loadN rfl rfl many_28 rfl (segAt (m := 19) rfl)) (.none rfl) rfl rfl ?_
        refine WL.call rfl rfl ck_25 (.none rfl) rfl rfl ?_
        intro w hS
        refine Calls.then (words_c w W hW) hS ?_
        refine WL.val (v_move rfl rfl) (.none rfl) rfl rfl ?_
        refine WL.nil ?_
        refine WE.then_n ?_
        refine WC.block ?_
        refine WC.loop (fun i : Nat => [(51, .int .i64 i), (50, .agg (wordsL W).toArray), (9, .int .i64 (65535 - two e (po + 16) + psum (fun i => 65535 - wv W i) i)), (7, .bool false), (6, .int .i64 (po + 16)), (1, .slice (some ⟨b, 0, none⟩) n cap), (5, .pointer (some ⟨g5, 0, none⟩))]) (fun _ => .row g5 (hdL h) :: .row g3 (pkL H W raw po en) :: .row b (bcs e n ++ r) :: L) (fun i => i ≤ 6) (fun i => 6 - i) 0 (Nat.zero_le _) (.cons rfl (.cons rfl (.int rfl (by simp only [psum]; omega) (.cons rfl (.cons rfl (.cons rfl (.cons rfl .nil))))))) (.refl _) ?_
        intro i hi
        have s1i := s1 i hi
        refine WC.seq ?_
        refine WC.region ?_
        refine WL.test (v_lss rfl rfl rfl) (.none rfl) rfl rfl (fun h52 => ?_) (fun h52 => ?_)
        · -- 52T
          refine WL.nil ?_
          refine WE.then_n ?_
          refine WC.seq ?_
          refine WC.cond_t rfl ?_
          refine WC.skip ?_
          refine WE.then_n ?_
          refine WC.seq ?_
          refine WC.block ?_
          refine WC.seq ?_
          refine WC.region ?_
          refine WL.val (v_indexV (lo := i) rfl rfl rfl Tryd.underlying56 one_3 (by omega) (by omega) (wget W i (by omega))) (.none rfl) rfl rfl ?_
          have wvi := hWo i (by omega)
          refine WL.val (v_assign rfl rfl) (.none rfl) rfl rfl ?_
          refine WL.nil ?_
          refine WE.then_n ?_
          refine WC.region ?_
          refine WL.val (v_move rfl rfl) (.none rfl) rfl rfl ?_
          refine WL.val (v_move rfl rfl) (.none rfl) rfl rfl ?_
          refine WL.val (v_xor rfl rfl rfl (xor16_i64 (by omega) (by omega))) (.none rfl) rfl rfl ?_
          refine WL.val (v_add rfl rfl rfl (w_i64 (by omega) (by omega))) (.none rfl) rfl rfl ?_
          refine WL.val (v_assign rfl rfl) (.none rfl) rfl rfl ?_
          refine WL.nil ?_
          refine WE.block_n ?_
          refine WE.then_n ?_
          refine WC.region ?_
          refine WL.val (v_add rfl rfl rfl (w_i64 (by omega) (by omega))) (.none rfl) rfl rfl ?_
          refine WL.val (v_move rfl rfl) (.none rfl) rfl rfl ?_
          refine WL.nil ?_
          exact WE.next (i + 1) (by omega) (by omega) (.int rfl (by omega) (.cons rfl (.int rfl (by simp only [psum]; omega) (.cons rfl (.cons rfl (.cons rfl (.cons rfl .nil))))))) (.refl _)
        · -- 52F
          refine WL.nil ?_
          refine WE.then_n ?_
          refine WC.seq ?_
          refine WC.cond_f rfl ?_
          refine WC.exit ?_
          refine WE.then_exit ?_
          refine WE.then_exit ?_
          refine WE.block_hit ?_
          refine WE.then_n ?_
          refine WC.seq ?_
          refine WC.seq ?_
          refine WC.region ?_
          refine WL.val (v_loadN rfl rfl many_28 rfl allAt) (.none rfl) rfl rfl ?_
          refine WL.call rfl rfl ck_25 (.none rfl) rfl rfl ?_
          intro w hS
          refine Calls.then (words_c w h hh) hS ?_
          refine WL.val (v_move rfl rfl) (.none rfl) rfl rfl ?_
          refine WL.nil ?_
          refine WE.then_n ?_
          refine WC.block ?_
          refine WC.loop (fun i : Nat => [(61, .int .i64 i), (60, .agg (wordsL h).toArray), (9, .int .i64 (65535 - two e (po + 16) + psum (fun i => 65535 - wv W i) 6 + psum (wv h) i)), (7, .bool false), (6, .int .i64 (po + 16)), (1, .slice (some ⟨b, 0, none⟩) n cap)]) (fun _ => .row b (bcs e n ++ r) :: L) (fun i => i ≤ 6) (fun i => 6 - i) 0 (Nat.zero_le _) (.cons rfl (.cons rfl (.int rfl (by obtain rfl : i = 6 := (by omega); simp only [psum]; omega) (.cons rfl (.cons rfl (.cons rfl .nil)))))) (.cons _ (.cons _ (.refl _))) ?_
          intro j hj
          have s2j := s2 j hj
          refine WC.seq ?_
          refine WC.region ?_
          refine WL.test (v_lss rfl rfl rfl) (.none rfl) rfl rfl (fun h62 => ?_) (fun h62 => ?_)
          · -- 62T
            refine WL.nil ?_
            refine WE.then_n ?_
            refine WC.seq ?_
            refine WC.cond_t rfl ?_
            refine WC.skip ?_
            refine WE.then_n ?_
            refine WC.seq ?_
            refine WC.block ?_
            refine WC.seq ?_
            refine WC.region ?_
            refine WL.val (v_indexV (lo := j) rfl rfl rfl Tryd.underlying56 one_3 (by omega) (by omega) (wget h j (by omega))) (.none rfl) rfl rfl ?_
            have hvj := hho j (by omega)
            refine WL.val (v_assign rfl rfl) (.none rfl) rfl rfl ?_
            refine WL.nil ?_
            refine WE.then_n ?_
            refine WC.region ?_
            refine WL.val (v_move rfl rfl) (.none rfl) rfl rfl ?_
            refine WL.val (v_move rfl rfl) (.none rfl) rfl rfl ?_
            refine WL.val (v_add rfl rfl rfl (w_i64 (by omega) (by omega))) (.none rfl) rfl rfl ?_
            refine WL.val (v_assign rfl rfl) (.none rfl) rfl rfl ?_
            refine WL.nil ?_
            refine WE.block_n ?_
            refine WE.then_n ?_
            refine WC.region ?_
            refine WL.val (v_add rfl rfl rfl (w_i64 (by omega) (by omega))) (.none rfl) rfl rfl ?_
            refine WL.val (v_move rfl rfl) (.none rfl) rfl rfl ?_
            refine WL.nil ?_
            exact WE.next (j + 1) (by omega) (by omega) (.int rfl (by omega) (.cons rfl (.int rfl (by simp only [psum]; omega) (.cons rfl (.cons rfl (.cons rfl .nil)))))) (.refl _)
          · -- 62F
            refine WL.nil ?_
            refine WE.then_n ?_
            refine WC.seq ?_
            refine WC.cond_f rfl ?_
            refine WC.exit ?_
            refine WE.then_exit ?_
            refine WE.then_exit ?_
            refine WE.block_hit ?_
            refine WE.then_n ?_
            refine WC.seq ?_
            refine WC.region ?_
            refine WL.val (v_move rfl rfl) (.none rfl) rfl rfl ?_
            refine WL.call rfl rfl ck_24 (.none rfl) rfl rfl ?_
            intro w hS
            refine Calls.then (fold_c w _ (by omega) (by omega)) hS ?_
            refine WL.val (v_xor rfl rfl rfl (xor16_i64 (fc_le _ (by omega)).1 (fc_le _ (by omega)).2)) (.none rfl) rfl rfl ?_
            have hfc := fc_le (65535 - two e (po + 16) + psum (fun i => 65535 - wv W i) 6 + psum (wv h) j) (by omega)
            obtain rfl : j = 6 := (by omega)
            refine WL.val (v_assign rfl rfl) (.none rfl) rfl rfl ?_
            refine WL.nil ?_
            refine WE.then_n ?_
            refine WC.seq ?_
            refine WC.seq ?_
            refine WC.region ?_
            refine WL.val (v_move rfl rfl) (.none rfl) rfl rfl ?_
            refine WL.val (v_move rfl rfl) (.none rfl) rfl rfl ?_
            refine WL.skip rfl rfl rfl rfl rfl rfl ?_
            refine WL.skip rfl rfl rfl rfl rfl rfl ?_
            refine WL.val (v_pick_f rfl rfl rfl) (.none rfl) rfl rfl ?_
            refine WL.nil ?_
            refine WE.then_n ?_
            refine WC.cond_f rfl ?_
            refine WC.skip ?_
            refine WE.then_n ?_
            refine WC.region ?_
            refine WL.val (v_move rfl rfl) (.none rfl) rfl rfl ?_
            refine WL.val (v_move rfl rfl) (.none rfl) rfl rfl ?_
            refine WL.val (v_slice_loS (lo := po + 16) rfl rfl rfl Tryd.underlying22 sz_5 (by omega) (by omega) (by omega)) (.none rfl) rfl rfl ?_
            refine WL.val (v_move rfl rfl) (.none rfl) rfl rfl ?_
            refine WL.call rfl rfl ck_16 (.none rfl) rfl rfl ?_
            intro w hS
            refine Calls.thenS (put_u hS (by omega) (by omega) (by omega) (by omega)) ?_
            refine WL.nil ?_
            refine WE.ret0 (P := Tryd.prog) (.inr rfl) Tryd.results18  ?_
            exact fun w' h' => ⟨rfl, by unfold mvF mvNew mvSum; rw [if_neg h19, if_neg h26, if_neg h36, if_neg (by simp)]; rw [Nat.zero_add, Nat.mul_one] at h'; exact h'⟩
end Go.Proofs.YtpjjlggonpbegaaDoor
