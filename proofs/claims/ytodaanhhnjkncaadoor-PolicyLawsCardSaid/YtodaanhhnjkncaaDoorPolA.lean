/- policy: run, Run. -/
import Derived.Test.YtodaanhhnjkncaaDoorPol9
namespace Go.Proofs.YtodaanhhnjkncaaDoor
open Go.RowKit

set_option maxHeartbeats 2000000 in
theorem run_step (p : Nat → Prop) (hp : ∀ b, ¬ p b) (w0 : World) (hG : GW w0) (N : Nat) (ih : RunTo p w0 N) : RunTo p w0 (N + 1) := by
  intro t hN pred L w1 H hk hI hAt hH hS0
  have hlen := hI.nums.2.2.2.2
  obtain ⟨_, harg, hform, _⟩ := hk.parts
  have hfl := formE_le hform
  have l13 : t.kind = 13 → 1 ≤ t.kids.length := fun h => by have := hfl.1; rw [h, show leastK 13 = 1 by decide] at this; omega
  have l17 : t.kind = 17 → 3 ≤ t.kids.length := fun h => by have := hfl.1; rw [h, show leastK 17 = 3 by decide] at this; omega
  refine enter Tryd.func56 rfl Tryd.ntmps56 rfl hS0 ?_
  refine WC.seq ?_
  refine WC.region ?_
  refine WL.box rfl rfl rfl (.none rfl) rfl rfl ?_
  intro g2 hg2
  refine WL.box rfl rfl rfl (.none rfl) rfl rfl ?_
  intro g3 hg3
  refine WL.val (v_assign rfl rfl) (.none rfl) rfl rfl ?_
  refine WL.val (v_assign rfl rfl) (.none rfl) rfl rfl ?_
  refine WL.nil ?_
  refine WE.then_n ?_
  refine WC.seq ?_
  refine WC.seq ?_
  refine WC.region ?_
  refine WL.val (v_fieldAddr0 rfl rfl fld_45_0) (.none rfl) rfl rfl ?_
  refine WL.val (v_load1 rfl rfl one_3 (cellAt rfl)) (.none rfl) rfl rfl ?_
  refine WL.nil ?_
  refine WE.then_n ?_
  refine WC.block ?_
  refine WC.seq ?_
  refine WC.region ?_
  refine WL.test (v_eql rfl rfl rfl) (.none rfl) rfl rfl (fun h11 => ?_) (fun h11 => ?_)
  · -- 11T
    refine WL.val (v_assign rfl rfl) (.none rfl) rfl rfl ?_
    refine WL.nil ?_
    refine WE.then_n ?_
    refine WC.cond_t rfl ?_
    refine WC.seq ?_
    refine WC.region ?_
    refine WL.val (v_loadN rfl rfl many_31 rfl allAt) (.none rfl) rfl rfl ?_
    refine WL.buildSlice rfl rfl Tryd.underlying47 sz_31 zero_31 rfl (by decide) rfl (.none rfl) rfl rfl ?_
    intro g13 hg13
    refine WL.val (v_assign rfl rfl) (.none rfl) rfl rfl ?_
    refine WL.val (v_assign rfl rfl) (.none rfl) rfl rfl ?_
    refine WL.nil ?_
    refine WE.then_n ?_
    refine WC.ret ?_
    refine WE.block_ret ?_
    refine WE.then_ret ?_
    refine WE.ret2 (P := Tryd.prog) (.inl rfl) Tryd.results56 rfl rfl ?_
    exact fun w' h => HdsPost.some (Rs := [H]) (by rw [runT_eq, if_pos h11]) (Vec.row rfl rfl (Nat.le_refl _)) (h.sub (List.Sublist.append_left (.cons _ (.cons _ (.refl _))) [_]))
  · -- 11F
    refine WL.val (v_assign rfl rfl) (.none rfl) rfl rfl ?_
    refine WL.nil ?_
    refine WE.then_n ?_
    refine WC.cond_f rfl ?_
    refine WC.seq ?_
    refine WC.region ?_
    refine WL.test (v_eql rfl rfl rfl) (.none rfl) rfl rfl (fun h15 => ?_) (fun h15 => ?_)
    · -- 15T
      refine WL.val (v_assign rfl rfl) (.none rfl) rfl rfl ?_
      refine WL.nil ?_
      refine WE.then_n ?_
      refine WC.cond_t rfl ?_
      refine WC.seq ?_
      refine WC.quiet mixed (by kernel_rfl) ?_
      refine WQ.val (v_fieldAddr0 rfl rfl fld_45_4) (.none rfl) rfl rfl ?_
      refine WQ.val (v_load1 rfl rfl one_43 (cellAt rfl)) (.none rfl) rfl rfl ?_
      have hl := l13 h15
      obtain ⟨u, hu⟩ : ∃ u, t.kids[0]? = some u := ⟨t.kids[0]'(by omega), List.getElem?_eq_getElem _⟩
      obtain ⟨bu, ou, eau, _⟩ := ((hAt _ hS0).kid hu).1
      refine WQ.val (v_indexAddr (b := bu) (off := ou) (lo := 0) rfl (by show some (Value.slice t.ad _ _) = _; rw [eau]) rfl Tryd.underlying43 sz_45 rfl (by omega)) (.none rfl) rfl rfl ?_
      refine WQ.val (v_loadN (cs := ndL u) rfl rfl many_45 rfl (fun w' hS' => (hAt w' hS'.tail.tail).kidAt hu eau)) (.none rfl) rfl rfl ?_
      refine WQ.val (v_loadN rfl rfl many_31 rfl allAt) (.none rfl) rfl rfl ?_
      refine WQ.call _ rfl rfl ck_66 (.none rfl) rfl rfl (fun w hS => Calls.still (holds_c H hH _ u (Nat.le_refl _) w (by have := hk.kid hu; rwa [show predK t.kind 0 = true by unfold predK; rw [decide_eq_true (by omega)]] at this) (hI.kids.get _ _ _ hu) ((hAt w hS.tail.tail).kid hu).2 (hG.keep (hp _) hS)) hS) ?_
      generalize hb21 : holdsT H u = bb0
      cases bb0
      · -- 21F
        refine WQ.nil ?_
        refine WE.then_n ?_
        refine WC.cond_f rfl ?_
        refine WC.skip ?_
        refine WE.block_n ?_
        refine WE.then_n ?_
        refine WC.seq ?_
        refine WC.region ?_
        refine WL.val (v_assign rfl rfl) (.none rfl) rfl rfl ?_
        refine WL.val (v_assign rfl rfl) (.none rfl) rfl rfl ?_
        refine WL.nil ?_
        refine WE.then_n ?_
        refine WC.ret ?_
        refine WE.ret2 (P := Tryd.prog) (.inl rfl) Tryd.results56 rfl rfl ?_
        exact fun w' h => HdsPost.some (Rs := []) (by rw [runT_eq, if_neg h11, if_pos h15, List.getD_eq_getElem?_getD, List.getElem?_map, hu, Option.map_some, Option.getD_some, hb21, if_neg (by decide)]) (Vec.nil 19) (h.sub (.cons _ (.cons _ (.refl _))))
      · -- 21T
        refine WQ.nil ?_
        refine WE.then_n ?_
        refine WC.cond_t rfl ?_
        refine WC.seq ?_
        refine WC.region ?_
        refine WL.val (v_loadN rfl rfl many_31 rfl allAt) (.none rfl) rfl rfl ?_
        refine WL.buildSlice rfl rfl Tryd.underlying47 sz_31 zero_31 rfl (by decide) rfl (.none rfl) rfl rfl ?_
        intro g23 hg23
        refine WL.val (v_assign rfl rfl) (.none rfl) rfl rfl ?_
        refine WL.val (v_assign rfl rfl) (.none rfl) rfl rfl ?_
        refine WL.nil ?_
        refine WE.then_n ?_
        refine WC.ret ?_
        refine WE.block_ret ?_
        refine WE.then_ret ?_
        refine WE.ret2 (P := Tryd.prog) (.inl rfl) Tryd.results56 rfl rfl ?_
        exact fun w' h => HdsPost.some (Rs := [H]) (by rw [runT_eq, if_neg h11, if_pos h15, List.getD_eq_getElem?_getD, List.getElem?_map, hu, Option.map_some, Option.getD_some, hb21, if_pos rfl]) (Vec.row rfl rfl (Nat.le_refl _)) (h.sub (List.Sublist.append_left (.cons _ (.cons _ (.refl _))) [_]))
    · -- 15F
      refine WL.val (v_assign rfl rfl) (.none rfl) rfl rfl ?_
      refine WL.nil ?_
      refine WE.then_n ?_
      refine WC.cond_f rfl ?_
      refine WC.seq ?_
      refine WC.region ?_
      refine WL.test (v_eql rfl rfl rfl) (.none rfl) rfl rfl (fun h25 => ?_) (fun h25 => ?_)
      · -- 25T
        refine WL.val (v_assign rfl rfl) (.none rfl) rfl rfl ?_
        refine WL.nil ?_
        refine WE.then_n ?_
        refine WC.cond_t rfl ?_
        refine WC.seq ?_
        refine WC.region ?_
        obtain ⟨q, eq, hq9, eq2, hqv⟩ := argE_set harg h25
        refine WL.val (v_loadN rfl rfl many_31 rfl allAt) (.none rfl) rfl rfl ?_
        refine WL.val (v_fieldAddr0 rfl rfl fld_45_1) (.none rfl) rfl rfl ?_
        refine WL.val (v_load1 rfl rfl one_37 (cellAt rfl)) (.none rfl) rfl rfl ?_
        refine WL.val (v_fieldAddr0 rfl rfl fld_45_2) (.none rfl) rfl rfl ?_
        refine WL.val (v_load1 rfl rfl one_22 (cellAt rfl)) (.none rfl) rfl rfl ?_
        refine WL.call rfl rfl ck_31 (.none rfl) rfl rfl ?_
        intro w hS
        refine Calls.then (by rw [eq]; exact With_c w H q hq9 t.val hI.nums.2.2.1.1 hqv (hG.keep (hp _) hS)) hS ?_
        refine WL.val (v_move rfl rfl) (.none rfl) rfl rfl ?_
        refine WL.val (v_extract rfl rfl rfl) (.none rfl) rfl rfl ?_
        refine WL.val (v_extract rfl rfl rfl) (.none rfl) rfl rfl ?_
        refine WL.alloc rfl zero_31 (.none rfl) rfl rfl ?_
        intro g6 hg6
        refine WL.storeW rfl rfl rfl rfl many_31 rfl rfl (.none rfl) rfl ?_
        refine WL.val (v_assign rfl rfl) (.none rfl) rfl rfl ?_
        refine WL.nil ?_
        refine WE.then_n ?_
        refine WC.seq ?_
        refine WC.region ?_
        refine WL.val (v_move rfl rfl) (.none rfl) rfl rfl ?_
        refine WL.val ((v_eql rfl rfl rfl).t (rfl)) (.none rfl) rfl rfl ?_
        refine WL.nil ?_
        refine WE.then_n ?_
        refine WC.cond_t rfl ?_
        refine WC.seq ?_
        refine WC.region ?_
        refine WL.val (v_loadN rfl rfl many_31 rfl allAt) (.none rfl) rfl rfl ?_
        refine WL.buildSlice rfl rfl Tryd.underlying47 sz_31 zero_31 rfl (by decide) rfl (.none rfl) rfl rfl ?_
        intro g38 hg38
        refine WL.val (v_assign rfl rfl) (.none rfl) rfl rfl ?_
        refine WL.val (v_assign rfl rfl) (.none rfl) rfl rfl ?_
        refine WL.nil ?_
        refine WE.then_n ?_
        refine WC.ret ?_
        refine WE.block_ret ?_
        refine WE.then_ret ?_
        refine WE.ret2 (P := Tryd.prog) (.inl rfl) Tryd.results56 rfl rfl ?_
        exact fun w' h => HdsPost.some (Rs := [wthF q t.val H]) (by rw [runT_eq, if_neg h11, if_neg h15, if_pos h25, eq2]) (Vec.row rfl rfl (Nat.le_refl _)) (h.sub (List.Sublist.append_left (.cons _ (.cons _ (.cons _ (.refl _)))) [_]))
      · -- 25F
        refine WL.val (v_assign rfl rfl) (.none rfl) rfl rfl ?_
        refine WL.nil ?_
        refine WE.then_n ?_
        refine WC.cond_f rfl ?_
        refine WC.seq ?_
        refine WC.region ?_
        refine WL.test (v_eql rfl rfl rfl) (.none rfl) rfl rfl (fun h40 => ?_) (fun h40 => ?_)
        · -- 40T
          refine WL.val (v_assign rfl rfl) (.none rfl) rfl rfl ?_
          refine WL.nil ?_
          refine WE.then_n ?_
          refine WC.cond_t rfl ?_
          refine WC.seq ?_
          refine WC.region ?_
          refine WL.val (v_loadN rfl rfl many_45 rfl allAt) (.none rfl) rfl rfl ?_
          refine WL.val (v_loadN rfl rfl many_31 rfl allAt) (.none rfl) rfl rfl ?_
          refine WL.call rfl rfl ck_80 (.none rfl) rfl rfl ?_
          intro w1 hS
          refine (par_c p w0 N ih t hN pred (.row g3 (hdL H) :: .row g2 (ndL t) :: L) w1 H hk hI (fun w' hS' => hAt w' hS'.tail.tail) hH hS).mono ?_
          rintro e w' ⟨Rs, ad, c, E, bb, rfl, hV, hS', hc⟩
          refine ⟨_, _, rfl, hS', ?_⟩
          refine WL.val (v_extract rfl rfl rfl) (.none rfl) rfl rfl ?_
          refine WL.val (v_extract rfl rfl rfl) (.none rfl) rfl rfl ?_
          refine WL.val (v_assign rfl rfl) (.none rfl) rfl rfl ?_
          refine WL.val (v_assign rfl rfl) (.none rfl) rfl rfl ?_
          refine WL.nil ?_
          refine WE.then_n ?_
          refine WC.ret ?_
          refine WE.block_ret ?_
          refine WE.then_ret ?_
          refine WE.ret2 (P := Tryd.prog) (.inl rfl) Tryd.results56 rfl rfl ?_
          exact fun w' h => ⟨Rs, ad, c, E, bb, rfl, hV, h.sub (List.Sublist.append_left (.cons _ (.cons _ (.refl _))) _), by rw [runT_eq, if_neg h11, if_neg h15, if_neg h25, if_pos h40]; exact hc⟩
        · -- 40F
          refine WL.val (v_assign rfl rfl) (.none rfl) rfl rfl ?_
          refine WL.nil ?_
          refine WE.then_n ?_
          refine WC.cond_f rfl ?_
          refine WC.seq ?_
          refine WC.region ?_
          refine WL.test (v_eql rfl rfl rfl) (.none rfl) rfl rfl (fun h47 => ?_) (fun h47 => ?_)
          · -- 47T
            refine WL.val (v_assign rfl rfl) (.none rfl) rfl rfl ?_
            refine WL.nil ?_
            refine WE.then_n ?_
            refine WC.cond_t rfl ?_
            refine WC.seq ?_
            refine WC.region ?_
            refine WL.val (v_loadN rfl rfl many_45 rfl allAt) (.none rfl) rfl rfl ?_
            refine WL.val (v_loadN rfl rfl many_31 rfl allAt) (.none rfl) rfl rfl ?_
            refine WL.call rfl rfl ck_81 (.none rfl) rfl rfl ?_
            intro w1 hS
            refine (seq_c p w0 N ih t hN pred (.row g3 (hdL H) :: .row g2 (ndL t) :: L) w1 H hk hI (fun w' hS' => hAt w' hS'.tail.tail) hH hS).mono ?_
            rintro e w' ⟨Rs, ad, c, E, bb, rfl, hV, hS', hc⟩
            refine ⟨_, _, rfl, hS', ?_⟩
            refine WL.val (v_extract rfl rfl rfl) (.none rfl) rfl rfl ?_
            refine WL.val (v_extract rfl rfl rfl) (.none rfl) rfl rfl ?_
            refine WL.val (v_assign rfl rfl) (.none rfl) rfl rfl ?_
            refine WL.val (v_assign rfl rfl) (.none rfl) rfl rfl ?_
            refine WL.nil ?_
            refine WE.then_n ?_
            refine WC.ret ?_
            refine WE.block_ret ?_
            refine WE.then_ret ?_
            refine WE.ret2 (P := Tryd.prog) (.inl rfl) Tryd.results56 rfl rfl ?_
            exact fun w' h => ⟨Rs, ad, c, E, bb, rfl, hV, h.sub (List.Sublist.append_left (.cons _ (.cons _ (.refl _))) _), by rw [runT_eq, if_neg h11, if_neg h15, if_neg h25, if_neg h40, if_pos h47]; exact hc⟩
          · -- 47F
            refine WL.val (v_assign rfl rfl) (.none rfl) rfl rfl ?_
            refine WL.nil ?_
            refine WE.then_n ?_
            refine WC.cond_f rfl ?_
            refine WC.seq ?_
            refine WC.region ?_
            refine WL.test (v_eql rfl rfl rfl) (.none rfl) rfl rfl (fun h54 => ?_) (fun h54 => ?_)
            · -- 54T
              refine WL.val (v_assign rfl rfl) (.none rfl) rfl rfl ?_
              refine WL.nil ?_
              refine WE.then_n ?_
              refine WC.cond_t rfl ?_
              refine WC.seq ?_
              refine WC.seq ?_
              refine WC.quiet mixed (by kernel_rfl) ?_
              refine WQ.val (v_fieldAddr0 rfl rfl fld_45_4) (.none rfl) rfl rfl ?_
              refine WQ.val (v_load1 rfl rfl one_43 (cellAt rfl)) (.none rfl) rfl rfl ?_
              have hl := l17 h54
              obtain ⟨u, hu⟩ : ∃ u, t.kids[0]? = some u := ⟨t.kids[0]'(by omega), List.getElem?_eq_getElem _⟩
              obtain ⟨bu, ou, eau, _⟩ := ((hAt _ hS0).kid hu).1
              obtain ⟨u1, hu1⟩ : ∃ u, t.kids[1]? = some u := ⟨t.kids[1]'(by omega), List.getElem?_eq_getElem _⟩
              obtain ⟨bu1, ou1, eau1, _⟩ := ((hAt _ hS0).kid hu1).1
              obtain ⟨u2, hu2⟩ : ∃ u, t.kids[2]? = some u := ⟨t.kids[2]'(by omega), List.getElem?_eq_getElem _⟩
              obtain ⟨bu2, ou2, eau2, _⟩ := ((hAt _ hS0).kid hu2).1
              refine WQ.val (v_indexAddr (b := bu) (off := ou) (lo := 0) rfl (by show some (Value.slice t.ad _ _) = _; rw [eau]) rfl Tryd.underlying43 sz_45 rfl (by omega)) (.none rfl) rfl rfl ?_
              refine WQ.val (v_loadN (cs := ndL u) rfl rfl many_45 rfl (fun w' hS' => (hAt w' hS'.tail.tail).kidAt hu eau)) (.none rfl) rfl rfl ?_
              refine WQ.val (v_loadN rfl rfl many_31 rfl allAt) (.none rfl) rfl rfl ?_
              refine WQ.call _ rfl rfl ck_66 (.none rfl) rfl rfl (fun w hS => Calls.still (holds_c H hH _ u (Nat.le_refl _) w (by have := hk.kid hu; rwa [show predK t.kind 0 = true by unfold predK; rw [decide_eq_true (by omega)]] at this) (hI.kids.get _ _ _ hu) ((hAt w hS.tail.tail).kid hu).2 (hG.keep (hp _) hS)) hS) ?_
              generalize hb60 : holdsT H u = bb0
              cases bb0
              · -- 60F
                refine WQ.nil ?_
                refine WE.then_n ?_
                refine WC.cond_f rfl ?_
                refine WC.skip ?_
                refine WE.then_n ?_
                refine WC.seq ?_
                refine WC.orders mixed ?_
                refine WR.first (g := 9) [0] (by kernel_rfl) (by kernel_rfl) ?_
                refine WP.val (v_fieldAddr0 rfl rfl fld_45_4) (.none rfl) rfl rfl ?_
                refine WP.nil ?_
                refine WR.read (g := 5) [1, 2, 3, 4] (by kernel_rfl) (by kernel_rfl) (by kernel_rfl) (by kernel_rfl) rfl ?_
                refine WQ.val (v_load1 rfl rfl one_43 (cellAt rfl)) (.none rfl) rfl rfl ?_
                refine WQ.val (v_indexAddr (b := bu2) (off := ou2) (lo := 2) rfl (by show some (Value.slice t.ad _ _) = _; rw [eau2]) rfl Tryd.underlying43 sz_45 rfl (by omega)) (.none rfl) rfl rfl ?_
                refine WQ.val (v_loadN (cs := ndL u2) rfl rfl many_45 rfl (fun w' hS' => (hAt w' hS'.tail.tail).kidAt hu2 eau2)) (.none rfl) rfl rfl ?_
                refine WQ.val (v_loadN rfl rfl many_31 rfl allAt) (.none rfl) rfl rfl ?_
                refine WQ.nilR ?_
                refine WR.ones (g := 4) [5] (by kernel_rfl) ?_
                refine WL.call rfl rfl ck_56 (.none rfl) rfl rfl ?_
                intro w1 hS
                refine (ih u2 (Nd.kidN hN hu2) _ (.row g3 (hdL H) :: .row g2 (ndL t) :: L) w1 H (hk.kid hu2) (hI.kids.get _ _ _ hu2) (fun w' hS' => ((hAt w' hS'.tail.tail).kid hu2).2) hH hS).mono ?_
                rintro e w' ⟨Rs, ad, c, E, bb, rfl, hV, hS', hc⟩
                refine ⟨_, _, rfl, hS', ?_⟩
                refine WL.nilR ?_
                refine WR.first (g := 0) [6, 7, 8, 9] (by kernel_rfl) (by kernel_rfl) ?_
                refine WP.val (v_extract rfl rfl rfl) (.none rfl) rfl rfl ?_
                refine WP.val (v_extract rfl rfl rfl) (.none rfl) rfl rfl ?_
                refine WP.val (v_assign rfl rfl) (.none rfl) rfl rfl ?_
                refine WP.val (v_assign rfl rfl) (.none rfl) rfl rfl ?_
                refine WP.nil ?_
                refine WR.done (by kernel_rfl) ?_
                refine WE.then_n ?_
                refine WC.ret ?_
                refine WE.block_ret ?_
                refine WE.then_ret ?_
                refine WE.ret2 (P := Tryd.prog) (.inl rfl) Tryd.results56 rfl rfl ?_
                exact fun w' h => ⟨Rs, ad, c, E, bb, rfl, hV, h.sub (List.Sublist.append_left (.cons _ (.cons _ (.refl _))) _), by rw [runT_eq, if_neg h11, if_neg h15, if_neg h25, if_neg h40, if_neg h47, if_pos h54, List.getD_eq_getElem?_getD, List.getElem?_map, hu, Option.map_some, Option.getD_some, hb60, if_neg (by decide), nthKs_get _ _ _ _ hu2]; exact hc⟩
              · -- 60T
                refine WQ.nil ?_
                refine WE.then_n ?_
                refine WC.cond_t rfl ?_
                refine WC.seq ?_
                refine WC.orders mixed ?_
                refine WR.first (g := 9) [0] (by kernel_rfl) (by kernel_rfl) ?_
                refine WP.val (v_fieldAddr0 rfl rfl fld_45_4) (.none rfl) rfl rfl ?_
                refine WP.nil ?_
                refine WR.read (g := 5) [1, 2, 3, 4] (by kernel_rfl) (by kernel_rfl) (by kernel_rfl) (by kernel_rfl) rfl ?_
                refine WQ.val (v_load1 rfl rfl one_43 (cellAt rfl)) (.none rfl) rfl rfl ?_
                refine WQ.val (v_indexAddr (b := bu1) (off := ou1) (lo := 1) rfl (by show some (Value.slice t.ad _ _) = _; rw [eau1]) rfl Tryd.underlying43 sz_45 rfl (by omega)) (.none rfl) rfl rfl ?_
                refine WQ.val (v_loadN (cs := ndL u1) rfl rfl many_45 rfl (fun w' hS' => (hAt w' hS'.tail.tail).kidAt hu1 eau1)) (.none rfl) rfl rfl ?_
                refine WQ.val (v_loadN rfl rfl many_31 rfl allAt) (.none rfl) rfl rfl ?_
                refine WQ.nilR ?_
                refine WR.ones (g := 4) [5] (by kernel_rfl) ?_
                refine WL.call rfl rfl ck_56 (.none rfl) rfl rfl ?_
                intro w1 hS
                refine (ih u1 (Nd.kidN hN hu1) _ (.row g3 (hdL H) :: .row g2 (ndL t) :: L) w1 H (hk.kid hu1) (hI.kids.get _ _ _ hu1) (fun w' hS' => ((hAt w' hS'.tail.tail).kid hu1).2) hH hS).mono ?_
                rintro e w' ⟨Rs, ad, c, E, bb, rfl, hV, hS', hc⟩
                refine ⟨_, _, rfl, hS', ?_⟩
                refine WL.nilR ?_
                refine WR.first (g := 0) [6, 7, 8, 9] (by kernel_rfl) (by kernel_rfl) ?_
                refine WP.val (v_extract rfl rfl rfl) (.none rfl) rfl rfl ?_
                refine WP.val (v_extract rfl rfl rfl) (.none rfl) rfl rfl ?_
                refine WP.val (v_assign rfl rfl) (.none rfl) rfl rfl ?_
                refine WP.val (v_assign rfl rfl) (.none rfl) rfl rfl ?_
                refine WP.nil ?_
                refine WR.done (by kernel_rfl) ?_
                refine WE.then_n ?_
                refine WC.ret ?_
                refine WE.then_ret ?_
                refine WE.block_ret ?_
                refine WE.then_ret ?_
                refine WE.ret2 (P := Tryd.prog) (.inl rfl) Tryd.results56 rfl rfl ?_
                exact fun w' h => ⟨Rs, ad, c, E, bb, rfl, hV, h.sub (List.Sublist.append_left (.cons _ (.cons _ (.refl _))) _), by rw [runT_eq, if_neg h11, if_neg h15, if_neg h25, if_neg h40, if_neg h47, if_pos h54, List.getD_eq_getElem?_getD, List.getElem?_map, hu, Option.map_some, Option.getD_some, hb60, if_pos rfl, nthKs_get _ _ _ _ hu1]; exact hc⟩
            · -- 54F
              refine WL.val (v_assign rfl rfl) (.none rfl) rfl rfl ?_
              refine WL.nil ?_
              refine WE.then_n ?_
              refine WC.cond_f rfl ?_
              refine WC.skip ?_
              refine WE.block_n ?_
              refine WE.then_n ?_
              refine WC.seq ?_
              refine WC.region ?_
              refine WL.val (v_assign rfl rfl) (.none rfl) rfl rfl ?_
              refine WL.val (v_assign rfl rfl) (.none rfl) rfl rfl ?_
              refine WL.nil ?_
              refine WE.then_n ?_
              refine WC.ret ?_
              refine WE.ret2 (P := Tryd.prog) (.inl rfl) Tryd.results56 rfl rfl ?_
              exact fun w' h => HdsPost.some (Rs := []) (by rw [runT_eq, if_neg h11, if_neg h15, if_neg h25, if_neg h40, if_neg h47, if_neg h54]) (Vec.nil 19) (h.sub (.cons _ (.cons _ (.refl _))))
theorem run_c (p : Nat → Prop) (hp : ∀ b, ¬ p b) (w0 : World) (hG : GW w0) : ∀ N, RunTo p w0 N
  | 0 => fun t hN => by cases t; simp only [Nd.mk.sizeOf_spec] at hN; omega
  | N + 1 => run_step p hp w0 hG N (run_c p hp w0 hG N)
end Go.Proofs.YtodaanhhnjkncaaDoor
