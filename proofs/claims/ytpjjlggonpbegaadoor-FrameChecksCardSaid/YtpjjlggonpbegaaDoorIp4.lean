/- carrefourref05.Ip4. -/
import Derived.Test.YtpjjlggonpbegaaDoorLay
namespace Go.Proofs.YtpjjlggonpbegaaDoor
open Go.RowKit

theorem Vec.bytes {ad : Option Addr} {k c : Nat} {xs : List Value} {E : List Ent} {f : Nat → Int} (h : Vec 1 ad k c xs E) (hk : 0 < k) (hx : xs = bcs f k) : ∃ g r, ad = some ⟨g, 0, none⟩ ∧ E = [.row g (bcs f k ++ r)] ∧ k + r.length = c := by
  rcases h with ⟨_, h0, _⟩ | ⟨g, cs, rfl, rfl, h1, h2, h3⟩
  · omega
  · refine ⟨g, cs.drop k, rfl, ?_, ?_⟩
    · have : cs = bcs f k ++ cs.drop k := by
        rw [← hx, ← h1, Nat.mul_one, List.take_append_drop]
      rw [← this]
    · rw [List.length_drop]; omega
theorem bcs_join (F f : Nat → Int) (a b : Nat) : bcs F a ++ bcs f b = bcs (fun i => if i < a then F i else f (i - a)) (a + b) := by
  apply List.ext_getElem?
  intro i
  by_cases h : i < a
  · rw [List.getElem?_append_left (by rw [bcs_len]; exact h), bcs_get _ _ _ h, bcs_get _ _ _ (by omega), if_pos h]
  · rw [List.getElem?_append_right (by rw [bcs_len]; omega), bcs_len]
    by_cases h2 : i < a + b
    · rw [bcs_get _ _ _ (by omega), bcs_get _ _ _ h2, if_neg h]
    · rw [List.getElem?_eq_none (by rw [bcs_len]; omega), List.getElem?_eq_none (by rw [bcs_len]; omega)]
theorem ip1_byt {H : Hd} (hH : H.In) (hs : 0 ≤ H.sp ∧ H.sp ≤ 65535) (hd : 0 ≤ H.dp ∧ H.dp ≤ 65535) : Byt (ip1 H) :=
  up2_byt (up2_byt (up4_byt (up4_byt (ip0_byt hH.src hH.dst) _ hH.sip.1 hH.sip.2) _ hH.dip.1 hH.dip.2) _ hs.1 hs.2) _ hd.1 hd.2
theorem ip2_byt {H : Hd} {f : Nat → Int} (hf : Byt f) (hH : H.In) (hs : 0 ≤ H.sp ∧ H.sp ≤ 65535) (hd : 0 ≤ H.dp ∧ H.dp ≤ 65535) : Byt (ip2 H f) := fun i => by
  unfold ip2; split
  · exact ip1_byt hH hs hd i
  · exact hf _
theorem ip3_byt {H : Hd} {f : Nat → Int} {m : Nat} (hf : Byt f) (hH : H.In) (hs : 0 ≤ H.sp ∧ H.sp ≤ 65535) (hd : 0 ≤ H.dp ∧ H.dp ≤ 65535) (hm : m ≤ 300) : Byt (ip3 H f m) := up2_byt (ip2_byt hf hH hs hd) _ (by omega) (by omega)
theorem ip4_byt {H : Hd} {f : Nat → Int} {m : Nat} (hf : Byt f) (hH : H.In) (hs : 0 ≤ H.sp ∧ H.sp ≤ 65535) (hd : 0 ≤ H.dp ∧ H.dp ≤ 65535) (hm : m ≤ 300) : Byt (ip4 H f m) := by
  have := fc_le _ (total_le ((ip3_byt hf hH hs hd hm).sub 14) 20).1
  exact up2_byt (ip3_byt hf hH hs hd hm) _ (by omega) (by omega)
theorem ip0_list (src dst : Nat → Int) : (([] ++ bcs dst 6) ++ bcs src 6) ++ ipC.map (fun x => Value.int .u8 x) = bcs (ip0 src dst) 38 := rfl
set_option maxHeartbeats 1000000 in
theorem Ip4_f (p : Nat → Prop) (w0 w : World) (L : List Ent) (H : Hd) (a : Option Addr) (m cap : Nat) (f : Nat → Int) (hS : St p w0 w L) (hr : ∀ w, St p w0 w L → RdO w a m f) (hf : Byt f) (hH : H.In) (hs : 0 ≤ H.sp ∧ H.sp ≤ 65535) (hd : 0 ≤ H.dp ∧ H.dp ≤ 65535) (hm : m ≤ 300) :
    Calls Tryd.prog 9 #[.agg (bcs H.src 6).toArray, .agg (bcs H.dst 6).toArray, .int .u32 H.sip, .int .u32 H.dip, .int .i64 6, .int .i64 H.sp, .int .i64 H.dp, .slice a m cap] w
      fun e w' => ∃ g c r, e = .returned (.slice (some ⟨g, 0, none⟩) (38 + m) c) ∧ 38 + m ≤ c ∧ St p w0 w' (.row g (bcs (ip4 H f m) (38 + m) ++ r) :: L) := by
  have hr0 := hr w hS
  have h1 := hH.sip
  have h2 := hH.dip
  have hb3 := (ip3_byt (m := m) hf hH hs hd hm)
  have hfc := fc_le _ (total_le (hb3.sub 14) 20).1
  refine enter Tryd.func9 rfl Tryd.ntmps9 rfl hS ?_
  refine WC.seq ?_
  refine WC.region ?_
  refine WL.box rfl rfl rfl (.none rfl) rfl rfl ?_
  intro g8 hg8
  refine WL.box rfl rfl rfl (.none rfl) rfl rfl ?_
  intro g9 hg9
  refine WL.val (v_assign rfl rfl) (.none rfl) rfl rfl ?_
  refine WL.nil ?_
  refine WE.then_n ?_
  refine WC.seq ?_
  refine WC.orders mixed ?_
  refine WR.first (g := 4) [1, 3] (by kernel_rfl) (by kernel_rfl) ?_
  refine WP.val (v_slice_arr rfl rfl Tryd.underlying23 sz_5) (.none rfl) rfl rfl ?_
  refine WP.val (v_slice_arr rfl rfl Tryd.underlying23 sz_5) (.none rfl) rfl rfl ?_
  refine WP.nil ?_
  refine WR.ones (g := 1) [0, 2, 4] (by kernel_rfl) ?_
  refine WL.buildSlice rfl rfl Tryd.underlying22 sz_5 zero_5 rfl (by decide) rfl (.none rfl) rfl rfl ?_
  intro g18 hg18
  refine WL.appendL rfl rfl rfl Tryd.underlying22 Tryd.underlying22 sz_5 by_5 zero_5 rfl rfl (E := [.row g18 []]) (Vec.row (k := 0) (s := 1) (c := 0) rfl rfl (by omega)) (new := bcs H.dst 6) (fun _ => ⟨g9, 0, rfl, fun w hS => allAt (g := g9) (cs := bcs H.dst 6) w hS⟩) (by rw [bcs_len]) (bcs_one _ _) (by omega) (.none rfl) rfl rfl ?_
  intro ad20 c20 E20 hV20 hr20
  refine WL.appendL rfl rfl rfl Tryd.underlying22 Tryd.underlying22 sz_5 by_5 zero_5 rfl rfl hV20 (new := bcs H.src 6) (fun _ => ⟨g8, 0, rfl, fun w hS => allAt (g := g8) (cs := bcs H.src 6) w hS⟩) (by rw [bcs_len]) (bcs_one _ _) (by omega) (.none rfl) rfl rfl ?_
  intro ad22 c22 E22 hV22 hr22
  refine WL.nilR ?_
  refine WR.first (g := 0) [5] (by kernel_rfl) (by kernel_rfl) ?_
  refine WP.val (v_assign rfl rfl) (.none rfl) rfl rfl ?_
  refine WP.nil ?_
  refine WR.done (by kernel_rfl) ?_
  refine WE.then_n ?_
  refine WC.seq ?_
  refine WC.region ?_
  refine WL.val (v_move rfl rfl) (.none rfl) rfl rfl ?_
  refine WL.val (v_move rfl rfl) (.none rfl) rfl rfl ?_
  refine WL.val (v_conv rfl rfl Tryd.underlying5 Tryd.underlying3 (by first | exact w_u8 (by omega) (by omega) | exact w_u8m _)) (.none rfl) rfl rfl ?_
  refine WL.buildSlice rfl rfl Tryd.underlying22 sz_5 zero_5 rfl (by decide) rfl (.none rfl) rfl rfl ?_
  intro g26 hg26
  refine WL.to (L' := E22 ++ (.row g26 (ipC.map (fun x => Value.int .u8 x)) :: .row g9 (bcs H.dst 6) :: .row g8 (bcs H.src 6) :: L)) (fun w hS => hS.front [_]) ?_
  refine WL.appendL rfl rfl rfl Tryd.underlying22 Tryd.underlying22 sz_5 by_5 zero_5 rfl rfl hV22 (new := ipC.map (fun x => Value.int .u8 x)) (fun _ => ⟨g26, 0, rfl, fun w hS => allAt (g := g26) w hS⟩) rfl rfl (by omega) (.none rfl) rfl rfl ?_
  intro ad27 c27 E27 hV27 hr27
  obtain ⟨g, r, rfl, rfl, hcr⟩ := hV27.bytes (by omega) (ip0_list H.src H.dst)
  refine WL.as (L' := .row g (bcs (ip0 H.src H.dst) 38 ++ r) :: .row g26 (ipC.map (fun x => Value.int .u8 x)) :: .row g9 (bcs H.dst 6) :: .row g8 (bcs H.src 6) :: L) rfl ?_
  refine WL.val (v_assign rfl rfl) (.none rfl) rfl rfl ?_
  refine WL.nil ?_
  refine WE.then_n ?_
  refine WC.seq ?_
  refine WC.region ?_
  refine WL.val (v_move rfl rfl) (.none rfl) rfl rfl ?_
  refine WL.val (v_move rfl rfl) (.none rfl) rfl rfl ?_
  refine WL.val (v_conv rfl rfl Tryd.underlying3 Tryd.underlying25 (w_i64 (by omega) (by omega))) (.none rfl) rfl rfl ?_
  refine WL.call rfl rfl ck_20 (.none rfl) rfl rfl ?_
  intro w hS
  refine Calls.thenS (rput4_u (at_ := 26) hS (by omega) (by omega) h1.1 h1.2 rfl) ?_
  refine WL.nil ?_
  refine WE.then_n ?_
  refine WC.seq ?_
  refine WC.region ?_
  refine WL.val (v_move rfl rfl) (.none rfl) rfl rfl ?_
  refine WL.val (v_move rfl rfl) (.none rfl) rfl rfl ?_
  refine WL.val (v_conv rfl rfl Tryd.underlying3 Tryd.underlying25 (w_i64 (by omega) (by omega))) (.none rfl) rfl rfl ?_
  refine WL.call rfl rfl ck_20 (.none rfl) rfl rfl ?_
  intro w hS
  refine Calls.thenS (rput4_u (at_ := 30) hS (by omega) (by omega) h2.1 h2.2 rfl) ?_
  refine WL.nil ?_
  refine WE.then_n ?_
  refine WC.seq ?_
  refine WC.region ?_
  refine WL.val (v_move rfl rfl) (.none rfl) rfl rfl ?_
  refine WL.val (v_move rfl rfl) (.none rfl) rfl rfl ?_
  refine WL.call rfl rfl ck_20 (.none rfl) rfl rfl ?_
  intro w hS
  refine Calls.thenS (rput2_u (at_ := 34) hS (by omega) (by omega) hs.1 hs.2 rfl) ?_
  refine WL.nil ?_
  refine WE.then_n ?_
  refine WC.seq ?_
  refine WC.region ?_
  refine WL.val (v_move rfl rfl) (.none rfl) rfl rfl ?_
  refine WL.val (v_move rfl rfl) (.none rfl) rfl rfl ?_
  refine WL.call rfl rfl ck_20 (.none rfl) rfl rfl ?_
  intro w hS
  refine Calls.thenS (rput2_u (at_ := 36) hS (by omega) (by omega) hd.1 hd.2 rfl) ?_
  refine WL.nil ?_
  refine WE.then_n ?_
  refine WC.seq ?_
  refine WC.region ?_
  refine WL.val (v_move rfl rfl) (.none rfl) rfl rfl ?_
  refine WL.val (v_move rfl rfl) (.none rfl) rfl rfl ?_
  refine WL.appendL rfl rfl rfl Tryd.underlying22 Tryd.underlying22 sz_5 by_5 zero_5 rfl rfl (E := [.row g (bcs (ip1 H) 38 ++ r)]) (Vec.row (k := 38) (s := 1) (c := c27) (xs := bcs (ip1 H) 38) (by rw [List.take_left' (by rw [bcs_len])]) (by rw [List.length_append, bcs_len]; omega) (by omega)) (new := bcs f m) (fun h => by obtain ⟨_, _, rfl, _⟩ := hr0 h; exact ⟨_, _, rfl, fun w hS' => by obtain ⟨_, _, e, h'⟩ := hr w (hS'.sub (.cons _ (.cons _ (.cons _ (.cons _ (.refl _)))))) h; cases e; exact h'.range⟩) (by rw [bcs_len]; omega) (bcs_one f m) (by omega) (.none rfl) rfl rfl ?_
  intro ad44 c44 E44 hV44 hr44
  obtain ⟨gb, rb, rfl, rfl, hcb⟩ := hV44.bytes (f := ip2 H f) (by omega) (bcs_join _ _ _ _)
  refine WL.as (L' := .row gb (bcs (ip2 H f) (38 + m) ++ rb) :: .row g26 (ipC.map (fun x => Value.int .u8 x)) :: .row g9 (bcs H.dst 6) :: .row g8 (bcs H.src 6) :: L) rfl ?_
  refine WL.val (v_assign rfl rfl) (.none rfl) rfl rfl ?_
  refine WL.nil ?_
  refine WE.then_n ?_
  refine WC.seq ?_
  refine WC.region ?_
  refine WL.val (v_move rfl rfl) (.none rfl) rfl rfl ?_
  refine WL.val (v_move rfl rfl) (.none rfl) rfl rfl ?_
  refine WL.val (v_len_slice rfl rfl Tryd.underlying22) (.none rfl) rfl rfl ?_
  refine WL.val (v_sub rfl rfl rfl (w_i64 (by omega) (by omega))) (.none rfl) rfl rfl ?_
  refine WL.call rfl rfl ck_20 (.none rfl) rfl rfl ?_
  intro w hS
  refine Calls.thenS (rput2_u (at_ := 16) hS (by omega) (by omega) (by omega) (by omega) rfl) ?_
  refine WL.nil ?_
  refine WE.then_n ?_
  refine WC.seq ?_
  refine WC.region ?_
  refine WL.val (v_move rfl rfl) (.none rfl) rfl rfl ?_
  refine WL.val (v_move rfl rfl) (.none rfl) rfl rfl ?_
  refine WL.val (v_slice_lhS (lo := 14) (hi := 34) rfl rfl rfl rfl Tryd.underlying22 sz_5 rfl rfl (by omega) (by omega) (by omega)) (.none rfl) rfl rfl ?_
  refine WL.call rfl rfl ck_21 (.none rfl) rfl rfl ?_
  intro w hS
  refine Calls.then (Sum_c w gb _ 20 _ (fun i => ip3 H f m (14 + i)) ((rdRowG (f := ip3 H f m) hS).part 14 20 (by omega) (by omega)) (hb3.sub 14) (by omega)) hS ?_
  refine WL.val (v_sub rfl rfl rfl (w_i64 (by omega) (by omega))) (.none rfl) rfl rfl ?_
  refine WL.call rfl rfl ck_20 (.none rfl) rfl rfl ?_
  intro w hS
  refine Calls.thenS (rput2_u (at_ := 24) hS (by omega) (by omega) (by omega) (by omega) rfl) ?_
  refine WL.nil ?_
  refine WE.then_n ?_
  refine WC.seq ?_
  refine WC.region ?_
  refine WL.val (v_move rfl rfl) (.none rfl) rfl rfl ?_
  refine WL.val (v_assign rfl rfl) (.none rfl) rfl rfl ?_
  refine WL.nil ?_
  refine WE.then_n ?_
  refine WC.ret ?_
  refine WE.ret1 (P := Tryd.prog) (.inl rfl) Tryd.results9 rfl ?_
  exact fun w' h => ⟨gb, c44, rb, rfl, by omega, h.sub (.cons_cons _ (.cons _ (.cons _ (.cons _ (.refl _)))))⟩
end Go.Proofs.YtpjjlggonpbegaaDoor
