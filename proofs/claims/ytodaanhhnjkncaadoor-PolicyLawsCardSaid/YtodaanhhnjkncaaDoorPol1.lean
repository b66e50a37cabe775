/- policy: what is wrong with a node; the walk of a tree. -/
import Derived.Test.YtodaanhhnjkncaaDoorPol0
namespace Go.Proofs.YtodaanhhnjkncaaDoor
open Go.RowKit

theorem Form_c (w : World) (t : Nd) (ht : t.In) :
    Calls Tryd.prog 88 #[ndV t] w fun e w' => e = .returned (.int .i64 (formE t)) ∧ Frm (fun _ => False) w w' := by
  have hn := ht.nums.2.2.2.2
  refine enter Tryd.func88 rfl Tryd.ntmps88 rfl (St.start (fun _ => False) w) ?_
  refine WC.seq ?_
  refine WC.region ?_
  refine WL.box rfl rfl rfl (.none rfl) rfl rfl ?_
  intro g1 hg1
  refine WL.val (v_assign rfl rfl) (.none rfl) rfl rfl ?_
  refine WL.nil ?_
  refine WE.then_n ?_
  refine WC.seq ?_
  refine WC.region ?_
  refine WL.val (v_assign rfl rfl) (.none rfl) rfl rfl ?_
  refine WL.val (v_assign rfl rfl) (.none rfl) rfl rfl ?_
  refine WL.nil ?_
  refine WE.then_n ?_
  refine WC.cut (fun x : Int × Int => [(3, .int .i64 x.1), (4, .int .i64 x.2), (1, .pointer (some ⟨g1, 0, none⟩))]) (fun _ => [.row g1 (ndL t)]) (fun x => x.1 = leastK t.kind ∧ x.2 = mostK t.kind) ?_ ?_
  · -- cutb0
    refine WC.seq ?_
    refine WC.region ?_
    refine WL.val (v_fieldAddr0 rfl rfl fld_45_0) (.none rfl) rfl rfl ?_
    refine WL.val (v_load1 rfl rfl one_3 (cellAt rfl)) (.none rfl) rfl rfl ?_
    refine WL.nil ?_
    refine WE.then_n ?_
    refine WC.block ?_
    refine WC.seq ?_
    refine WC.seq ?_
    refine WC.region ?_
    refine WL.test (v_eql rfl rfl rfl) (.none rfl) rfl rfl (fun h8 => ?_) (fun h8 => ?_)
    · -- 8T
      refine WL.val (v_assign rfl rfl) (.none rfl) rfl rfl ?_
      refine WL.nil ?_
      refine WE.then_n ?_
      refine WC.cond_t rfl ?_
      refine WC.skip ?_
      refine WE.then_n ?_
      refine WC.cond_t rfl ?_
      refine WC.region ?_
      refine WL.val (v_assign rfl rfl) (.none rfl) rfl rfl ?_
      refine WL.val (v_assign rfl rfl) (.none rfl) rfl rfl ?_
      refine WL.nil ?_
      refine WE.block_n ?_
      exact WE.mid (1, 1) ⟨by unfold leastK; rw [if_pos (by omega)], by unfold mostK; rw [if_pos (by omega)]⟩ (.cons rfl (.cons rfl (.cons rfl .nil))) (.refl _)
    · -- 8F
      refine WL.val (v_assign rfl rfl) (.none rfl) rfl rfl ?_
      refine WL.nil ?_
      refine WE.then_n ?_
      refine WC.cond_f rfl ?_
      refine WC.region ?_
      refine WL.test (v_eql rfl rfl rfl) (.none rfl) rfl rfl (fun h9 => ?_) (fun h9 => ?_)
      · -- 9T
        refine WL.val (v_assign rfl rfl) (.none rfl) rfl rfl ?_
        refine WL.nil ?_
        refine WE.then_n ?_
        refine WC.cond_t rfl ?_
        refine WC.region ?_
        refine WL.val (v_assign rfl rfl) (.none rfl) rfl rfl ?_
        refine WL.val (v_assign rfl rfl) (.none rfl) rfl rfl ?_
        refine WL.nil ?_
        refine WE.block_n ?_
        exact WE.mid (1, 1) ⟨by unfold leastK; rw [if_pos (by omega)], by unfold mostK; rw [if_pos (by omega)]⟩ (.cons rfl (.cons rfl (.cons rfl .nil))) (.refl _)
      · -- 9F
        refine WL.val (v_assign rfl rfl) (.none rfl) rfl rfl ?_
        refine WL.nil ?_
        refine WE.then_n ?_
        refine WC.cond_f rfl ?_
        refine WC.seq ?_
        refine WC.region ?_
        refine WL.test (v_eql rfl rfl rfl) (.none rfl) rfl rfl (fun h11 => ?_) (fun h11 => ?_)
        · -- 11T
          refine WL.val (v_assign rfl rfl) (.none rfl) rfl rfl ?_
          refine WL.nil ?_
          refine WE.then_n ?_
          refine WC.cond_t rfl ?_
          refine WC.region ?_
          refine WL.val (v_assign rfl rfl) (.none rfl) rfl rfl ?_
          refine WL.val (v_assign rfl rfl) (.none rfl) rfl rfl ?_
          refine WL.nil ?_
          refine WE.block_n ?_
          exact WE.mid (3, 3) ⟨by unfold leastK; rw [if_neg (by omega), if_pos (by omega)], by unfold mostK; rw [if_neg (by omega), if_pos (by omega)]⟩ (.cons rfl (.cons rfl (.cons rfl .nil))) (.refl _)
        · -- 11F
          refine WL.val (v_assign rfl rfl) (.none rfl) rfl rfl ?_
          refine WL.nil ?_
          refine WE.then_n ?_
          refine WC.cond_f rfl ?_
          refine WC.seq ?_
          refine WC.seq ?_
          refine WC.region ?_
          refine WL.test (v_eql rfl rfl rfl) (.none rfl) rfl rfl (fun h13 => ?_) (fun h13 => ?_)
          · -- 13T
            refine WL.val (v_assign rfl rfl) (.none rfl) rfl rfl ?_
            refine WL.nil ?_
            refine WE.then_n ?_
            refine WC.cond_t rfl ?_
            refine WC.skip ?_
            refine WE.then_n ?_
            refine WC.cond_t rfl ?_
            refine WC.region ?_
            refine WL.val (v_assign rfl rfl) (.none rfl) rfl rfl ?_
            refine WL.nil ?_
            refine WE.block_n ?_
            exact WE.mid (0, 64) ⟨by unfold leastK; rw [if_neg (by omega), if_neg (by omega)], by unfold mostK; rw [if_neg (by omega), if_neg (by omega), if_pos (by omega)]⟩ (.cons rfl (.cons rfl (.cons rfl .nil))) (.refl _)
          · -- 13F
            refine WL.val (v_assign rfl rfl) (.none rfl) rfl rfl ?_
            refine WL.nil ?_
            refine WE.then_n ?_
            refine WC.cond_f rfl ?_
            refine WC.seq ?_
            refine WC.region ?_
            refine WL.test (v_eql rfl rfl rfl) (.none rfl) rfl rfl (fun h14 => ?_) (fun h14 => ?_)
            · -- 14T
              refine WL.val (v_assign rfl rfl) (.none rfl) rfl rfl ?_
              refine WL.nil ?_
              refine WE.then_n ?_
              refine WC.cond_t rfl ?_
              refine WC.skip ?_
              refine WE.then_n ?_
              refine WC.cond_t rfl ?_
              refine WC.region ?_
              refine WL.val (v_assign rfl rfl) (.none rfl) rfl rfl ?_
              refine WL.nil ?_
              refine WE.block_n ?_
              exact WE.mid (0, 64) ⟨by unfold leastK; rw [if_neg (by omega), if_neg (by omega)], by unfold mostK; rw [if_neg (by omega), if_neg (by omega), if_pos (by omega)]⟩ (.cons rfl (.cons rfl (.cons rfl .nil))) (.refl _)
            · -- 14F
              refine WL.val (v_assign rfl rfl) (.none rfl) rfl rfl ?_
              refine WL.nil ?_
              refine WE.then_n ?_
              refine WC.cond_f rfl ?_
              refine WC.seq ?_
              refine WC.region ?_
              refine WL.test (v_eql rfl rfl rfl) (.none rfl) rfl rfl (fun h15 => ?_) (fun h15 => ?_)
              · -- 15T
                refine WL.val (v_assign rfl rfl) (.none rfl) rfl rfl ?_
                refine WL.nil ?_
                refine WE.then_n ?_
                refine WC.cond_t rfl ?_
                refine WC.skip ?_
                refine WE.then_n ?_
                refine WC.cond_t rfl ?_
                refine WC.region ?_
                refine WL.val (v_assign rfl rfl) (.none rfl) rfl rfl ?_
                refine WL.nil ?_
                refine WE.block_n ?_
                exact WE.mid (0, 64) ⟨by unfold leastK; rw [if_neg (by omega), if_neg (by omega)], by unfold mostK; rw [if_neg (by omega), if_neg (by omega), if_pos (by omega)]⟩ (.cons rfl (.cons rfl (.cons rfl .nil))) (.refl _)
              · -- 15F
                refine WL.val (v_assign rfl rfl) (.none rfl) rfl rfl ?_
                refine WL.nil ?_
                refine WE.then_n ?_
                refine WC.cond_f rfl ?_
                refine WC.region ?_
                refine WL.test (v_eql rfl rfl rfl) (.none rfl) rfl rfl (fun h16 => ?_) (fun h16 => ?_)
                · -- 16T
                  refine WL.val (v_assign rfl rfl) (.none rfl) rfl rfl ?_
                  refine WL.nil ?_
                  refine WE.then_n ?_
                  refine WC.cond_t rfl ?_
                  refine WC.region ?_
                  refine WL.val (v_assign rfl rfl) (.none rfl) rfl rfl ?_
                  refine WL.nil ?_
                  refine WE.block_n ?_
                  exact WE.mid (0, 64) ⟨by unfold leastK; rw [if_neg (by omega), if_neg (by omega)], by unfold mostK; rw [if_neg (by omega), if_neg (by omega), if_pos (by omega)]⟩ (.cons rfl (.cons rfl (.cons rfl .nil))) (.refl _)
                · -- 16F
                  refine WL.val (v_assign rfl rfl) (.none rfl) rfl rfl ?_
                  refine WL.nil ?_
                  refine WE.then_n ?_
                  refine WC.cond_f rfl ?_
                  refine WC.skip ?_
                  refine WE.block_n ?_
                  exact WE.mid (0, 0) ⟨by unfold leastK; rw [if_neg (by omega), if_neg (by omega)], by unfold mostK; rw [if_neg (by omega), if_neg (by omega), if_neg (by omega)]⟩ (.cons rfl (.cons rfl (.cons rfl .nil))) (.refl _)
  · -- behind cutb0
    rintro ⟨le, mo⟩ ⟨h1, h2⟩
    dsimp only at h1 h2
    dsimp only
    refine WC.seq ?_
    refine WC.seq ?_
    refine WC.region ?_
    refine WL.val (v_fieldAddr0 rfl rfl fld_45_4) (.none rfl) rfl rfl ?_
    refine WL.val (v_load1 rfl rfl one_43 (cellAt rfl)) (.none rfl) rfl rfl ?_
    refine WL.val (v_len_slice rfl rfl Tryd.underlying43) (.none rfl) rfl rfl ?_
    refine WL.val (v_move rfl rfl) (.none rfl) rfl rfl ?_
    refine WL.test (v_lss rfl rfl rfl) (.none rfl) rfl rfl (fun h21 => ?_) (fun h21 => ?_)
    · -- 21T
      refine WL.val (v_move rfl rfl) (.none rfl) rfl rfl ?_
      refine WL.skip rfl rfl rfl rfl rfl rfl ?_
      refine WL.skip rfl rfl rfl rfl rfl rfl ?_
      refine WL.skip rfl rfl rfl rfl rfl rfl ?_
      refine WL.skip rfl rfl rfl rfl rfl rfl ?_
      refine WL.skip rfl rfl rfl rfl rfl rfl ?_
      refine WL.val (v_pick_t rfl rfl rfl) (.none rfl) rfl rfl ?_
      refine WL.nil ?_
      refine WE.then_n ?_
      refine WC.cond_t rfl ?_
      refine WC.seq ?_
      refine WC.region ?_
      refine WL.val (v_assign rfl rfl) (.none rfl) rfl rfl ?_
      refine WL.nil ?_
      refine WE.then_n ?_
      refine WC.ret ?_
      refine WE.then_ret ?_
      refine WE.ret1 (P := Tryd.prog) (.inl rfl) Tryd.results88 rfl ?_
      exact fun w' h => ⟨by unfold formE; first | rw [if_pos (by omega)] | rw [if_neg (by omega)], h.frm⟩
    · -- 21F
      refine WL.val (v_move rfl rfl) (.none rfl) rfl rfl ?_
      refine WL.val (v_fieldAddr0 rfl rfl fld_45_4) (.some rfl rfl rfl) rfl rfl ?_
      refine WL.val (v_load1 rfl rfl one_43 (cellAt rfl)) (.some rfl rfl rfl) rfl rfl ?_
      refine WL.val (v_len_slice rfl rfl Tryd.underlying43) (.some rfl rfl rfl) rfl rfl ?_
      refine WL.val (v_move rfl rfl) (.some rfl rfl rfl) rfl rfl ?_
      refine WL.test (v_gtr rfl rfl rfl) (.some rfl rfl rfl) rfl rfl (fun h27 => ?_) (fun h27 => ?_)
      · -- 27T
        refine WL.val (v_pick_f rfl rfl rfl) (.none rfl) rfl rfl ?_
        refine WL.nil ?_
        refine WE.then_n ?_
        refine WC.cond_t rfl ?_
        refine WC.seq ?_
        refine WC.region ?_
        refine WL.val (v_assign rfl rfl) (.none rfl) rfl rfl ?_
        refine WL.nil ?_
        refine WE.then_n ?_
        refine WC.ret ?_
        refine WE.then_ret ?_
        refine WE.ret1 (P := Tryd.prog) (.inl rfl) Tryd.results88 rfl ?_
        exact fun w' h => ⟨by unfold formE; first | rw [if_pos (by omega)] | rw [if_neg (by omega)], h.frm⟩
      · -- 27F
        refine WL.val (v_pick_f rfl rfl rfl) (.none rfl) rfl rfl ?_
        refine WL.nil ?_
        refine WE.then_n ?_
        refine WC.cond_f rfl ?_
        refine WC.skip ?_
        refine WE.then_n ?_
        refine WC.seq ?_
        refine WC.region ?_
        refine WL.val (v_assign rfl rfl) (.none rfl) rfl rfl ?_
        refine WL.nil ?_
        refine WE.then_n ?_
        refine WC.ret ?_
        refine WE.ret1 (P := Tryd.prog) (.inl rfl) Tryd.results88 rfl ?_
        exact fun w' h => ⟨by unfold formE; first | rw [if_pos (by omega)] | rw [if_neg (by omega)], h.frm⟩
theorem isFld.nat {f : Int} (h : isFld f) : ∃ k : Nat, f = k ∧ k < 9 ∧ f.toNat = k := ⟨f.toNat, by have := h.1; omega, by have := h.2; omega, rfl⟩
theorem Argu_c (w : World) (t : Nd) (ht : t.In) (hG : GW w) :
    Calls Tryd.prog 87 #[ndV t] w fun e w' => e = .returned (.int .i64 (argE t)) ∧ Frm (fun _ => False) w w' := by
  obtain ⟨_, _, hv, hm, _⟩ := ht.nums
  have hfu := fullI_u64 t.f.toNat
  have full : ∀ w, GW w → isFld t.f → Calls Tryd.prog 30 #[.int .i64 t.f] w fun e w' => e = .returned (.int .u64 (fullI t.f.toNat)) ∧ Frm (fun _ => False) w w' := fun w hG h => by
    obtain ⟨k, e, hk, e2⟩ := h.nat
    rw [e2, e]
    exact Full_n w k hk hG
  refine enter Tryd.func87 rfl Tryd.ntmps87 rfl (St.start (fun _ => False) w) ?_
  refine WC.seq ?_
  refine WC.region ?_
  refine WL.box rfl rfl rfl (.none rfl) rfl rfl ?_
  intro g1 hg1
  refine WL.val (v_assign rfl rfl) (.none rfl) rfl rfl ?_
  refine WL.nil ?_
  refine WE.then_n ?_
  refine WC.seq ?_
  refine WC.seq ?_
  refine WC.region ?_
  refine WL.val (v_fieldAddr0 rfl rfl fld_45_0) (.none rfl) rfl rfl ?_
  refine WL.val (v_load1 rfl rfl one_3 (cellAt rfl)) (.none rfl) rfl rfl ?_
  refine WL.nil ?_
  refine WE.then_n ?_
  refine WC.block ?_
  refine WC.seq ?_
  refine WC.region ?_
  refine WL.test (v_eql rfl rfl rfl) (.none rfl) rfl rfl (fun h6 => ?_) (fun h6 => ?_)
  · -- 6T
    refine WL.val (v_assign rfl rfl) (.none rfl) rfl rfl ?_
    refine WL.nil ?_
    refine WE.then_n ?_
    refine WC.cond_t rfl ?_
    refine WC.seq ?_
    refine WC.quiet mixed (by kernel_rfl) ?_
    refine WQ.val (v_fieldAddr0 rfl rfl fld_45_1) (.none rfl) rfl rfl ?_
    refine WQ.val (v_load1 rfl rfl one_37 (cellAt rfl)) (.none rfl) rfl rfl ?_
    refine WQ.call _ rfl rfl ck_119 (.none rfl) rfl rfl (fun w hS => Calls.still (PField_c w t.f) hS) ?_
    generalize hb9 : decide (isFld t.f) = bb
    cases bb
    · -- 9F
      refine WQ.val (v_not rfl rfl rfl) (.none rfl) rfl rfl ?_
      refine WQ.val (v_move rfl rfl) (.none rfl) rfl rfl ?_
      refine WQ.skip rfl rfl rfl rfl rfl rfl ?_
      refine WQ.skip rfl rfl rfl rfl rfl rfl ?_
      refine WQ.skip rfl rfl rfl rfl rfl rfl ?_
      refine WQ.skip rfl rfl rfl rfl rfl rfl ?_
      refine WQ.skip rfl rfl rfl rfl rfl rfl ?_
      refine WQ.skip rfl rfl rfl rfl rfl rfl ?_
      refine WQ.skip rfl rfl rfl rfl rfl rfl ?_
      refine WQ.val (v_pick_t rfl rfl rfl) (.none rfl) rfl rfl ?_
      refine WQ.val (v_move rfl rfl) (.none rfl) rfl rfl ?_
      refine WQ.skip rfl rfl rfl rfl rfl rfl ?_
      refine WQ.skip rfl rfl rfl rfl rfl rfl ?_
      refine WQ.skip rfl rfl rfl rfl rfl rfl ?_
      refine WQ.skip rfl rfl rfl rfl rfl rfl ?_
      refine WQ.skip rfl rfl rfl rfl rfl rfl ?_
      refine WQ.skip rfl rfl rfl rfl rfl rfl ?_
      refine WQ.val (v_pick_t rfl rfl rfl) (.none rfl) rfl rfl ?_
      refine WQ.nil ?_
      refine WE.then_n ?_
      refine WC.cond_t rfl ?_
      refine WC.seq ?_
      refine WC.region ?_
      refine WL.val (v_assign rfl rfl) (.none rfl) rfl rfl ?_
      refine WL.nil ?_
      refine WE.then_n ?_
      refine WC.ret ?_
      refine WE.block_ret ?_
      refine WE.then_ret ?_
      refine WE.ret1 (P := Tryd.prog) (.inl rfl) Tryd.results87 rfl ?_
      exact fun w' h => ⟨by unfold argE; rw [if_pos h6, if_pos (.inl (of_decide_eq_false hb9))], h.frm⟩
    · -- 9T
      refine WQ.val (v_not rfl rfl rfl) (.none rfl) rfl rfl ?_
      refine WQ.val (v_move rfl rfl) (.none rfl) rfl rfl ?_
      refine WQ.val (v_fieldAddr0 rfl rfl fld_45_3) (.some rfl rfl rfl) rfl rfl ?_
      refine WQ.val (v_load1 rfl rfl one_22 (cellAt rfl)) (.some rfl rfl rfl) rfl rfl ?_
      refine WQ.val (v_fieldAddr0 rfl rfl fld_45_1) (.some rfl rfl rfl) rfl rfl ?_
      refine WQ.val (v_load1 rfl rfl one_37 (cellAt rfl)) (.some rfl rfl rfl) rfl rfl ?_
      refine WQ.call _ rfl rfl ck_30 (.some rfl rfl rfl) rfl rfl (fun w hS => Calls.still (full w (hG.keep (fun h => h) hS) (of_decide_eq_true hb9)) hS) ?_
      refine WQ.val (v_andNot rfl rfl rfl (bits_andNot_u64 hm.1 hm.2 hfu.1 hfu.2)) (.some rfl rfl rfl) rfl rfl ?_
      refine WQ.test (v_neq rfl rfl rfl) (.some rfl rfl rfl) rfl rfl (fun h18 => ?_) (fun h18 => ?_)
      · -- 18T
        refine WQ.val (v_pick_f rfl rfl rfl) (.none rfl) rfl rfl ?_
        refine WQ.val (v_move rfl rfl) (.none rfl) rfl rfl ?_
        refine WQ.skip rfl rfl rfl rfl rfl rfl ?_
        refine WQ.skip rfl rfl rfl rfl rfl rfl ?_
        refine WQ.skip rfl rfl rfl rfl rfl rfl ?_
        refine WQ.skip rfl rfl rfl rfl rfl rfl ?_
        refine WQ.skip rfl rfl rfl rfl rfl rfl ?_
        refine WQ.skip rfl rfl rfl rfl rfl rfl ?_
        refine WQ.val (v_pick_t rfl rfl rfl) (.none rfl) rfl rfl ?_
        refine WQ.nil ?_
        refine WE.then_n ?_
        refine WC.cond_t rfl ?_
        refine WC.seq ?_
        refine WC.region ?_
        refine WL.val (v_assign rfl rfl) (.none rfl) rfl rfl ?_
        refine WL.nil ?_
        refine WE.then_n ?_
        refine WC.ret ?_
        refine WE.block_ret ?_
        refine WE.then_ret ?_
        refine WE.ret1 (P := Tryd.prog) (.inl rfl) Tryd.results87 rfl ?_
        exact fun w' h => ⟨by unfold argE; rw [if_pos h6, if_pos (.inr (.inl h18))], h.frm⟩
      · -- 18F
        refine WQ.val (v_pick_f rfl rfl rfl) (.none rfl) rfl rfl ?_
        refine WQ.val (v_move rfl rfl) (.none rfl) rfl rfl ?_
        refine WQ.val (v_fieldAddr0 rfl rfl fld_45_2) (.some rfl rfl rfl) rfl rfl ?_
        refine WQ.val (v_load1 rfl rfl one_22 (cellAt rfl)) (.some rfl rfl rfl) rfl rfl ?_
        refine WQ.val (v_fieldAddr0 rfl rfl fld_45_3) (.some rfl rfl rfl) rfl rfl ?_
        refine WQ.val (v_load1 rfl rfl one_22 (cellAt rfl)) (.some rfl rfl rfl) rfl rfl ?_
        refine WQ.val (v_andNot rfl rfl rfl (bits_andNot_u64 hv.1 hv.2 hm.1 hm.2)) (.some rfl rfl rfl) rfl rfl ?_
        refine WQ.test (v_neq rfl rfl rfl) (.some rfl rfl rfl) rfl rfl (fun h26 => ?_) (fun h26 => ?_)
        · -- 26T
          refine WQ.val (v_pick_f rfl rfl rfl) (.none rfl) rfl rfl ?_
          refine WQ.nil ?_
          refine WE.then_n ?_
          refine WC.cond_t rfl ?_
          refine WC.seq ?_
          refine WC.region ?_
          refine WL.val (v_assign rfl rfl) (.none rfl) rfl rfl ?_
          refine WL.nil ?_
          refine WE.then_n ?_
          refine WC.ret ?_
          refine WE.block_ret ?_
          refine WE.then_ret ?_
          refine WE.ret1 (P := Tryd.prog) (.inl rfl) Tryd.results87 rfl ?_
          exact fun w' h => ⟨by unfold argE; rw [if_pos h6, if_pos (.inr (.inr h26))], h.frm⟩
        · -- 26F
          refine WQ.val (v_pick_f rfl rfl rfl) (.none rfl) rfl rfl ?_
          refine WQ.nil ?_
          refine WE.then_n ?_
          refine WC.cond_f rfl ?_
          refine WC.skip ?_
          refine WE.block_n ?_
          refine WE.then_n ?_
          refine WC.seq ?_
          refine WC.region ?_
          refine WL.val (v_assign rfl rfl) (.none rfl) rfl rfl ?_
          refine WL.nil ?_
          refine WE.then_n ?_
          refine WC.ret ?_
          refine WE.ret1 (P := Tryd.prog) (.inl rfl) Tryd.results87 rfl ?_
          have hb9 := of_decide_eq_true hb9
          exact fun w' h => ⟨by unfold argE; rw [if_pos h6, if_neg (fun q => by rcases q with q | q | q <;> contradiction)], h.frm⟩
  · -- 6F
    refine WL.val (v_assign rfl rfl) (.none rfl) rfl rfl ?_
    refine WL.nil ?_
    refine WE.then_n ?_
    refine WC.cond_f rfl ?_
    refine WC.seq ?_
    refine WC.region ?_
    refine WL.test (v_eql rfl rfl rfl) (.none rfl) rfl rfl (fun h29 => ?_) (fun h29 => ?_)
    · -- 29T
      refine WL.val (v_assign rfl rfl) (.none rfl) rfl rfl ?_
      refine WL.nil ?_
      refine WE.then_n ?_
      refine WC.cond_t rfl ?_
      refine WC.seq ?_
      refine WC.quiet mixed (by kernel_rfl) ?_
      refine WQ.val (v_fieldAddr0 rfl rfl fld_45_1) (.none rfl) rfl rfl ?_
      refine WQ.val (v_load1 rfl rfl one_37 (cellAt rfl)) (.none rfl) rfl rfl ?_
      refine WQ.call _ rfl rfl ck_119 (.none rfl) rfl rfl (fun w hS => Calls.still (PField_c w t.f) hS) ?_
      generalize hb32 : decide (isFld t.f) = bb
      cases bb
      · -- 32F
        refine WQ.val (v_not rfl rfl rfl) (.none rfl) rfl rfl ?_
        refine WQ.val (v_move rfl rfl) (.none rfl) rfl rfl ?_
        refine WQ.skip rfl rfl rfl rfl rfl rfl ?_
        refine WQ.skip rfl rfl rfl rfl rfl rfl ?_
        refine WQ.skip rfl rfl rfl rfl rfl rfl ?_
        refine WQ.val (v_pick_t rfl rfl rfl) (.none rfl) rfl rfl ?_
        refine WQ.val (v_move rfl rfl) (.none rfl) rfl rfl ?_
        refine WQ.skip rfl rfl rfl rfl rfl rfl ?_
        refine WQ.skip rfl rfl rfl rfl rfl rfl ?_
        refine WQ.skip rfl rfl rfl rfl rfl rfl ?_
        refine WQ.val (v_pick_t rfl rfl rfl) (.none rfl) rfl rfl ?_
        refine WQ.val (v_move rfl rfl) (.none rfl) rfl rfl ?_
        refine WQ.skip rfl rfl rfl rfl rfl rfl ?_
        refine WQ.skip rfl rfl rfl rfl rfl rfl ?_
        refine WQ.skip rfl rfl rfl rfl rfl rfl ?_
        refine WQ.skip rfl rfl rfl rfl rfl rfl ?_
        refine WQ.skip rfl rfl rfl rfl rfl rfl ?_
        refine WQ.skip rfl rfl rfl rfl rfl rfl ?_
        refine WQ.val (v_pick_t rfl rfl rfl) (.none rfl) rfl rfl ?_
        refine WQ.nil ?_
        refine WE.then_n ?_
        refine WC.cond_t rfl ?_
        refine WC.seq ?_
        refine WC.region ?_
        refine WL.val (v_assign rfl rfl) (.none rfl) rfl rfl ?_
        refine WL.nil ?_
        refine WE.then_n ?_
        refine WC.ret ?_
        refine WE.block_ret ?_
        refine WE.then_ret ?_
        refine WE.ret1 (P := Tryd.prog) (.inl rfl) Tryd.results87 rfl ?_
        exact fun w' h => ⟨by unfold argE; rw [if_neg h6, if_pos h29, if_pos (.inl (of_decide_eq_false hb32))], h.frm⟩
      · -- 32T
        refine WQ.val (v_not rfl rfl rfl) (.none rfl) rfl rfl ?_
        refine WQ.val (v_move rfl rfl) (.none rfl) rfl rfl ?_
        refine WQ.val (v_fieldAddr0 rfl rfl fld_45_1) (.some rfl rfl rfl) rfl rfl ?_
        refine WQ.val (v_load1 rfl rfl one_37 (cellAt rfl)) (.some rfl rfl rfl) rfl rfl ?_
        refine WQ.test (v_eql rfl rfl rfl) (.some rfl rfl rfl) rfl rfl (fun h37 => ?_) (fun h37 => ?_)
        · -- 37T
          refine WQ.val (v_pick_f rfl rfl rfl) (.none rfl) rfl rfl ?_
          refine WQ.val (v_move rfl rfl) (.none rfl) rfl rfl ?_
          refine WQ.skip rfl rfl rfl rfl rfl rfl ?_
          refine WQ.skip rfl rfl rfl rfl rfl rfl ?_
          refine WQ.skip rfl rfl rfl rfl rfl rfl ?_
          refine WQ.val (v_pick_t rfl rfl rfl) (.none rfl) rfl rfl ?_
          refine WQ.val (v_move rfl rfl) (.none rfl) rfl rfl ?_
          refine WQ.skip rfl rfl rfl rfl rfl rfl ?_
          refine WQ.skip rfl rfl rfl rfl rfl rfl ?_
          refine WQ.skip rfl rfl rfl rfl rfl rfl ?_
          refine WQ.skip rfl rfl rfl rfl rfl rfl ?_
          refine WQ.skip rfl rfl rfl rfl rfl rfl ?_
          refine WQ.skip rfl rfl rfl rfl rfl rfl ?_
          refine WQ.val (v_pick_t rfl rfl rfl) (.none rfl) rfl rfl ?_
          refine WQ.nil ?_
          refine WE.then_n ?_
          refine WC.cond_t rfl ?_
          refine WC.seq ?_
          refine WC.region ?_
          refine WL.val (v_assign rfl rfl) (.none rfl) rfl rfl ?_
          refine WL.nil ?_
          refine WE.then_n ?_
          refine WC.ret ?_
          refine WE.block_ret ?_
          refine WE.then_ret ?_
          refine WE.ret1 (P := Tryd.prog) (.inl rfl) Tryd.results87 rfl ?_
          exact fun w' h => ⟨by unfold argE; rw [if_neg h6, if_pos h29, if_pos (.inr (.inl h37))], h.frm⟩
        · -- 37F
          refine WQ.val (v_pick_f rfl rfl rfl) (.none rfl) rfl rfl ?_
          refine WQ.val (v_move rfl rfl) (.none rfl) rfl rfl ?_
          refine WQ.val (v_fieldAddr0 rfl rfl fld_45_1) (.some rfl rfl rfl) rfl rfl ?_
          refine WQ.val (v_load1 rfl rfl one_37 (cellAt rfl)) (.some rfl rfl rfl) rfl rfl ?_
          refine WQ.test (v_eql rfl rfl rfl) (.some rfl rfl rfl) rfl rfl (fun h42 => ?_) (fun h42 => ?_)
          · -- 42T
            refine WQ.val (v_pick_f rfl rfl rfl) (.none rfl) rfl rfl ?_
            refine WQ.val (v_move rfl rfl) (.none rfl) rfl rfl ?_
            refine WQ.skip rfl rfl rfl rfl rfl rfl ?_
            refine WQ.skip rfl rfl rfl rfl rfl rfl ?_
            refine WQ.skip rfl rfl rfl rfl rfl rfl ?_
            refine WQ.skip rfl rfl rfl rfl rfl rfl ?_
            refine WQ.skip rfl rfl rfl rfl rfl rfl ?_
            refine WQ.skip rfl rfl rfl rfl rfl rfl ?_
            refine WQ.val (v_pick_t rfl rfl rfl) (.none rfl) rfl rfl ?_
            refine WQ.nil ?_
            refine WE.then_n ?_
            refine WC.cond_t rfl ?_
            refine WC.seq ?_
            refine WC.region ?_
            refine WL.val (v_assign rfl rfl) (.none rfl) rfl rfl ?_
            refine WL.nil ?_
            refine WE.then_n ?_
            refine WC.ret ?_
            refine WE.block_ret ?_
            refine WE.then_ret ?_
            refine WE.ret1 (P := Tryd.prog) (.inl rfl) Tryd.results87 rfl ?_
            exact fun w' h => ⟨by unfold argE; rw [if_neg h6, if_pos h29, if_pos (.inr (.inr (.inl h42)))], h.frm⟩
          · -- 42F
            refine WQ.val (v_pick_f rfl rfl rfl) (.none rfl) rfl rfl ?_
            refine WQ.val (v_move rfl rfl) (.none rfl) rfl rfl ?_
            refine WQ.val (v_fieldAddr0 rfl rfl fld_45_2) (.some rfl rfl rfl) rfl rfl ?_
            refine WQ.val (v_load1 rfl rfl one_22 (cellAt rfl)) (.some rfl rfl rfl) rfl rfl ?_
            refine WQ.val (v_fieldAddr0 rfl rfl fld_45_1) (.some rfl rfl rfl) rfl rfl ?_
            refine WQ.val (v_load1 rfl rfl one_37 (cellAt rfl)) (.some rfl rfl rfl) rfl rfl ?_
            refine WQ.call _ rfl rfl ck_30 (.some rfl rfl rfl) rfl rfl (fun w hS => Calls.still (full w (hG.keep (fun h => h) hS) (of_decide_eq_true hb32)) hS) ?_
            refine WQ.test (v_gtr rfl rfl rfl) (.some rfl rfl rfl) rfl rfl (fun h50 => ?_) (fun h50 => ?_)
            · -- 50T
              refine WQ.val (v_pick_f rfl rfl rfl) (.none rfl) rfl rfl ?_
              refine WQ.nil ?_
              refine WE.then_n ?_
              refine WC.cond_t rfl ?_
              refine WC.seq ?_
              refine WC.region ?_
              refine WL.val (v_assign rfl rfl) (.none rfl) rfl rfl ?_
              refine WL.nil ?_
              refine WE.then_n ?_
              refine WC.ret ?_
              refine WE.block_ret ?_
              refine WE.then_ret ?_
              refine WE.ret1 (P := Tryd.prog) (.inl rfl) Tryd.results87 rfl ?_
              exact fun w' h => ⟨by unfold argE; rw [if_neg h6, if_pos h29, if_pos (.inr (.inr (.inr h50)))], h.frm⟩
            · -- 50F
              refine WQ.val (v_pick_f rfl rfl rfl) (.none rfl) rfl rfl ?_
              refine WQ.nil ?_
              refine WE.then_n ?_
              refine WC.cond_f rfl ?_
              refine WC.skip ?_
              refine WE.block_n ?_
              refine WE.then_n ?_
              refine WC.seq ?_
              refine WC.region ?_
              refine WL.val (v_assign rfl rfl) (.none rfl) rfl rfl ?_
              refine WL.nil ?_
              refine WE.then_n ?_
              refine WC.ret ?_
              refine WE.ret1 (P := Tryd.prog) (.inl rfl) Tryd.results87 rfl ?_
              have hb32 := of_decide_eq_true hb32
              exact fun w' h => ⟨by unfold argE; rw [if_neg h6, if_pos h29, if_neg (fun q => by rcases q with q | q | q | q <;> contradiction)], h.frm⟩
    · -- 29F
      refine WL.val (v_assign rfl rfl) (.none rfl) rfl rfl ?_
      refine WL.nil ?_
      refine WE.then_n ?_
      refine WC.cond_f rfl ?_
      refine WC.skip ?_
      refine WE.block_n ?_
      refine WE.then_n ?_
      refine WC.seq ?_
      refine WC.region ?_
      refine WL.val (v_assign rfl rfl) (.none rfl) rfl rfl ?_
      refine WL.nil ?_
      refine WE.then_n ?_
      refine WC.ret ?_
      refine WE.ret1 (P := Tryd.prog) (.inl rfl) Tryd.results87 rfl ?_
      exact fun w' h => ⟨by unfold argE; rw [if_neg h6, if_neg h29], h.frm⟩
end Go.Proofs.YtodaanhhnjkncaaDoor
