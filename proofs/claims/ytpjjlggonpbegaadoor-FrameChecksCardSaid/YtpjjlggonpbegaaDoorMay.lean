/- (frame.Pack).may. -/
import Derived.Test.YtpjjlggonpbegaaDoorF2
import Derived.Test.YtpjjlggonpbegaaDoorHd
namespace Go.Proofs.YtpjjlggonpbegaaDoor
open Go.RowKit

/-- May a frame have this header? -/
def May (W : Hd) (po : Int) (raw : ByteArray) (h : Hd) : Prop :=
  raw.toList ≠ [] ∧ h.okB = true ∧ h.ty = W.ty ∧ h.proto = W.proto ∧ (h.ty = 2048 ∨ (h.sip = 0 ∧ h.dip = 0)) ∧ (po ≠ 0 ∨ (h.sp = 0 ∧ h.dp = 0))
theorem toList_empty : (ByteArray.mk #[]).toList = [] := by rw [bytes_toList]
set_option maxHeartbeats 1000000 in
theorem may_c (w : World) (H W h : Hd) (raw : ByteArray) (po en : Int) (hh : h.In) (hG : GW w) :
    Calls Tryd.prog 14 #[packV H W raw po en, .agg (hdCells h)] w fun e w' => ∃ b, e = .returned (.bool b) ∧ (b = true ↔ May W po raw h) ∧ Frm (fun _ => False) w w' := by
  refine enter Tryd.func14 rfl Tryd.ntmps14 rfl (St.start (fun _ => False) w) ?_
  refine WC.seq ?_
  refine WC.region ?_
  refine WL.box rfl rfl rfl (.none rfl) rfl rfl ?_
  intro g2 hg2
  refine WL.box rfl rfl rfl (.none rfl) rfl rfl ?_
  intro g3 hg3
  refine WL.val (v_assign rfl rfl) (.none rfl) rfl rfl ?_
  refine WL.nil ?_
  refine WE.then_n ?_
  refine WC.seq ?_
  refine WC.seq ?_
  refine WC.region ?_
  refine WL.val (v_fieldAddr0 rfl rfl fld_31_2) (.none rfl) rfl rfl ?_
  refine WL.val (v_load1 rfl rfl one_9 (cellAt rfl)) (.none rfl) rfl rfl ?_
  refine WL.test (v_eql_string rfl rfl rfl Tryd.underlying9) (.none rfl) rfl rfl (fun h7 => ?_) (fun h7 => ?_)
  · -- 7T
    refine WL.val (v_move rfl rfl) (.none rfl) rfl rfl ?_
    refine WL.skip rfl rfl rfl rfl rfl rfl ?_
    refine WL.skip rfl rfl rfl rfl rfl rfl ?_
    refine WL.skip rfl rfl rfl rfl rfl rfl ?_
    refine WL.val (v_pick_t rfl rfl rfl) (.none rfl) rfl rfl ?_
    refine WL.val (v_move rfl rfl) (.none rfl) rfl rfl ?_
    refine WL.skip rfl rfl rfl rfl rfl rfl ?_
    refine WL.skip rfl rfl rfl rfl rfl rfl ?_
    refine WL.skip rfl rfl rfl rfl rfl rfl ?_
    refine WL.skip rfl rfl rfl rfl rfl rfl ?_
    refine WL.skip rfl rfl rfl rfl rfl rfl ?_
    refine WL.skip rfl rfl rfl rfl rfl rfl ?_
    refine WL.val (v_pick_t rfl rfl rfl) (.none rfl) rfl rfl ?_
    refine WL.val (v_move rfl rfl) (.none rfl) rfl rfl ?_
    refine WL.skip rfl rfl rfl rfl rfl rfl ?_
    refine WL.skip rfl rfl rfl rfl rfl rfl ?_
    refine WL.skip rfl rfl rfl rfl rfl rfl ?_
    refine WL.skip rfl rfl rfl rfl rfl rfl ?_
    refine WL.skip rfl rfl rfl rfl rfl rfl ?_
    refine WL.skip rfl rfl rfl rfl rfl rfl ?_
    refine WL.val (v_pick_t rfl rfl rfl) (.none rfl) rfl rfl ?_
    refine WL.nil ?_
    refine WE.then_n ?_
    refine WC.cond_t rfl ?_
    refine WC.seq ?_
    refine WC.region ?_
    refine WL.val (v_assign rfl rfl) (.none rfl) rfl rfl ?_
    refine WL.nil ?_
    refine WE.then_n ?_
    refine WC.ret ?_
    refine WE.then_ret ?_
    refine WE.ret1 (P := Tryd.prog) (.inl rfl) Tryd.results14 rfl ?_
    refine fun w' h => ⟨_, rfl, ?_, h.frm⟩
    have he := toList_empty
    unfold May
    simp_all
  · -- 7F
    refine WL.val (v_move rfl rfl) (.none rfl) rfl rfl ?_
    refine WL.val (v_loadN rfl rfl many_28 rfl allAt) (.some rfl rfl rfl) rfl rfl ?_
    refine WL.call rfl rfl ck_8 (.some rfl rfl rfl) rfl rfl ?_
    intro w hS
    refine Calls.then (HCheck_c w h hh (hG.keep (fun h => h) hS)) hS ?_
    refine WL.test (v_neq rfl rfl rfl) (.some rfl rfl rfl) rfl rfl (fun h11 => ?_) (fun h11 => ?_)
    · -- 11T
      refine WL.val (v_pick_f rfl rfl rfl) (.none rfl) rfl rfl ?_
      refine WL.val (v_move rfl rfl) (.none rfl) rfl rfl ?_
      refine WL.skip rfl rfl rfl rfl rfl rfl ?_
      refine WL.skip rfl rfl rfl rfl rfl rfl ?_
      refine WL.skip rfl rfl rfl rfl rfl rfl ?_
      refine WL.skip rfl rfl rfl rfl rfl rfl ?_
      refine WL.skip rfl rfl rfl rfl rfl rfl ?_
      refine WL.skip rfl rfl rfl rfl rfl rfl ?_
      refine WL.val (v_pick_t rfl rfl rfl) (.none rfl) rfl rfl ?_
      refine WL.val (v_move rfl rfl) (.none rfl) rfl rfl ?_
      refine WL.skip rfl rfl rfl rfl rfl rfl ?_
      refine WL.skip rfl rfl rfl rfl rfl rfl ?_
      refine WL.skip rfl rfl rfl rfl rfl rfl ?_
      refine WL.skip rfl rfl rfl rfl rfl rfl ?_
      refine WL.skip rfl rfl rfl rfl rfl rfl ?_
      refine WL.skip rfl rfl rfl rfl rfl rfl ?_
      refine WL.val (v_pick_t rfl rfl rfl) (.none rfl) rfl rfl ?_
      refine WL.nil ?_
      refine WE.then_n ?_
      refine WC.cond_t rfl ?_
      refine WC.seq ?_
      refine WC.region ?_
      refine WL.val (v_assign rfl rfl) (.none rfl) rfl rfl ?_
      refine WL.nil ?_
      refine WE.then_n ?_
      refine WC.ret ?_
      refine WE.then_ret ?_
      refine WE.ret1 (P := Tryd.prog) (.inl rfl) Tryd.results14 rfl ?_
      refine fun w' h => ⟨_, rfl, ?_, h.frm⟩
      have he := toList_empty
      unfold May
      simp_all
    · -- 11F
      refine WL.val (v_pick_f rfl rfl rfl) (.none rfl) rfl rfl ?_
      refine WL.val (v_move rfl rfl) (.none rfl) rfl rfl ?_
      refine WL.val (v_fieldAddr0 rfl rfl fld_28_3) (.some rfl rfl rfl) rfl rfl ?_
      refine WL.val (v_load1 rfl rfl one_3 (cellAt rfl)) (.some rfl rfl rfl) rfl rfl ?_
      refine WL.val (v_fieldAddr0 rfl rfl fld_31_1) (.some rfl rfl rfl) rfl rfl ?_
      refine WL.val (v_fieldAddr rfl rfl fld_28_3) (.some rfl rfl rfl) rfl rfl ?_
      refine WL.val (v_load1 rfl rfl one_3 (cellAt rfl)) (.some rfl rfl rfl) rfl rfl ?_
      refine WL.test (v_neq rfl rfl rfl) (.some rfl rfl rfl) rfl rfl (fun h19 => ?_) (fun h19 => ?_)
      · -- 19T
        refine WL.val (v_pick_f rfl rfl rfl) (.none rfl) rfl rfl ?_
        refine WL.val (v_move rfl rfl) (.none rfl) rfl rfl ?_
        refine WL.skip rfl rfl rfl rfl rfl rfl ?_
        refine WL.skip rfl rfl rfl rfl rfl rfl ?_
        refine WL.skip rfl rfl rfl rfl rfl rfl ?_
        refine WL.skip rfl rfl rfl rfl rfl rfl ?_
        refine WL.skip rfl rfl rfl rfl rfl rfl ?_
        refine WL.skip rfl rfl rfl rfl rfl rfl ?_
        refine WL.val (v_pick_t rfl rfl rfl) (.none rfl) rfl rfl ?_
        refine WL.nil ?_
        refine WE.then_n ?_
        refine WC.cond_t rfl ?_
        refine WC.seq ?_
        refine WC.region ?_
        refine WL.val (v_assign rfl rfl) (.none rfl) rfl rfl ?_
        refine WL.nil ?_
        refine WE.then_n ?_
        refine WC.ret ?_
        refine WE.then_ret ?_
        refine WE.ret1 (P := Tryd.prog) (.inl rfl) Tryd.results14 rfl ?_
        refine fun w' h => ⟨_, rfl, ?_, h.frm⟩
        have he := toList_empty
        unfold May
        simp_all
      · -- 19F
        refine WL.val (v_pick_f rfl rfl rfl) (.none rfl) rfl rfl ?_
        refine WL.val (v_move rfl rfl) (.none rfl) rfl rfl ?_
        refine WL.val (v_fieldAddr0 rfl rfl fld_28_6) (.some rfl rfl rfl) rfl rfl ?_
        refine WL.val (v_load1 rfl rfl one_3 (cellAt rfl)) (.some rfl rfl rfl) rfl rfl ?_
        refine WL.val (v_fieldAddr0 rfl rfl fld_31_1) (.some rfl rfl rfl) rfl rfl ?_
        refine WL.val (v_fieldAddr rfl rfl fld_28_6) (.some rfl rfl rfl) rfl rfl ?_
        refine WL.val (v_load1 rfl rfl one_3 (cellAt rfl)) (.some rfl rfl rfl) rfl rfl ?_
        refine WL.test (v_neq rfl rfl rfl) (.some rfl rfl rfl) rfl rfl (fun h27 => ?_) (fun h27 => ?_)
        · -- 27T
          refine WL.val (v_pick_f rfl rfl rfl) (.none rfl) rfl rfl ?_
          refine WL.nil ?_
          refine WE.then_n ?_
          refine WC.cond_t rfl ?_
          refine WC.seq ?_
          refine WC.region ?_
          refine WL.val (v_assign rfl rfl) (.none rfl) rfl rfl ?_
          refine WL.nil ?_
          refine WE.then_n ?_
          refine WC.ret ?_
          refine WE.then_ret ?_
          refine WE.ret1 (P := Tryd.prog) (.inl rfl) Tryd.results14 rfl ?_
          refine fun w' h => ⟨_, rfl, ?_, h.frm⟩
          have he := toList_empty
          unfold May
          simp_all
        · -- 27F
          refine WL.val (v_pick_f rfl rfl rfl) (.none rfl) rfl rfl ?_
          refine WL.nil ?_
          refine WE.then_n ?_
          refine WC.cond_f rfl ?_
          refine WC.skip ?_
          refine WE.then_n ?_
          refine WC.seq ?_
          refine WC.seq ?_
          refine WC.region ?_
          refine WL.val (v_fieldAddr0 rfl rfl fld_28_3) (.none rfl) rfl rfl ?_
          refine WL.val (v_load1 rfl rfl one_3 (cellAt rfl)) (.none rfl) rfl rfl ?_
          refine WL.test (v_neq rfl rfl rfl) (.none rfl) rfl rfl (fun h31 => ?_) (fun h31 => ?_)
          · -- 31T
            refine WL.val (v_move rfl rfl) (.none rfl) rfl rfl ?_
            refine WL.val (v_fieldAddr0 rfl rfl fld_28_4) (.some rfl rfl rfl) rfl rfl ?_
            refine WL.val (v_load1 rfl rfl one_26 (cellAt rfl)) (.some rfl rfl rfl) rfl rfl ?_
            refine WL.test (v_neq rfl rfl rfl) (.some rfl rfl rfl) rfl rfl (fun h35 => ?_) (fun h35 => ?_)
            · -- 35T
              refine WL.val (v_move rfl rfl) (.some rfl rfl rfl) rfl rfl ?_
              refine WL.skip rfl rfl rfl rfl rfl rfl ?_
              refine WL.skip rfl rfl rfl rfl rfl rfl ?_
              refine WL.skip rfl rfl rfl rfl rfl rfl ?_
              refine WL.val (v_pick_t rfl rfl rfl) (.some rfl rfl rfl) rfl rfl ?_
              refine WL.val (v_pick_t rfl rfl rfl) (.none rfl) rfl rfl ?_
              refine WL.nil ?_
              refine WE.then_n ?_
              refine WC.cond_t rfl ?_
              refine WC.seq ?_
              refine WC.region ?_
              refine WL.val (v_assign rfl rfl) (.none rfl) rfl rfl ?_
              refine WL.nil ?_
              refine WE.then_n ?_
              refine WC.ret ?_
              refine WE.then_ret ?_
              refine WE.ret1 (P := Tryd.prog) (.inl rfl) Tryd.results14 rfl ?_
              refine fun w' h => ⟨_, rfl, ?_, h.frm⟩
              have he := toList_empty
              unfold May
              simp_all
            · -- 35F
              refine WL.val (v_move rfl rfl) (.some rfl rfl rfl) rfl rfl ?_
              refine WL.val (v_fieldAddr0 rfl rfl fld_28_5) (.some rfl rfl rfl) rfl rfl ?_
              refine WL.val (v_load1 rfl rfl one_26 (cellAt rfl)) (.some rfl rfl rfl) rfl rfl ?_
              refine WL.test (v_neq rfl rfl rfl) (.some rfl rfl rfl) rfl rfl (fun h39 => ?_) (fun h39 => ?_)
              · -- 39T
                refine WL.val (v_pick_f rfl rfl rfl) (.some rfl rfl rfl) rfl rfl ?_
                refine WL.val (v_pick_t rfl rfl rfl) (.none rfl) rfl rfl ?_
                refine WL.nil ?_
                refine WE.then_n ?_
                refine WC.cond_t rfl ?_
                refine WC.seq ?_
                refine WC.region ?_
                refine WL.val (v_assign rfl rfl) (.none rfl) rfl rfl ?_
                refine WL.nil ?_
                refine WE.then_n ?_
                refine WC.ret ?_
                refine WE.then_ret ?_
                refine WE.ret1 (P := Tryd.prog) (.inl rfl) Tryd.results14 rfl ?_
                refine fun w' h => ⟨_, rfl, ?_, h.frm⟩
                have he := toList_empty
                unfold May
                simp_all
              · -- 39F
                refine WL.val (v_pick_f rfl rfl rfl) (.some rfl rfl rfl) rfl rfl ?_
                refine WL.val (v_pick_t rfl rfl rfl) (.none rfl) rfl rfl ?_
                refine WL.nil ?_
                refine WE.then_n ?_
                refine WC.cond_f rfl ?_
                refine WC.skip ?_
                refine WE.then_n ?_
                refine WC.seq ?_
                refine WC.region ?_
                refine WL.val (v_fieldAddr0 rfl rfl fld_31_3) (.none rfl) rfl rfl ?_
                refine WL.val (v_load1 rfl rfl one_3 (cellAt rfl)) (.none rfl) rfl rfl ?_
                refine WL.test (v_neq rfl rfl rfl) (.none rfl) rfl rfl (fun h44 => ?_) (fun h44 => ?_)
                · -- 44T
                  refine WL.val (v_move rfl rfl) (.none rfl) rfl rfl ?_
                  refine WL.skip rfl rfl rfl rfl rfl rfl ?_
                  refine WL.skip rfl rfl rfl rfl rfl rfl ?_
                  refine WL.skip rfl rfl rfl rfl rfl rfl ?_
                  refine WL.skip rfl rfl rfl rfl rfl rfl ?_
                  refine WL.skip rfl rfl rfl rfl rfl rfl ?_
                  refine WL.skip rfl rfl rfl rfl rfl rfl ?_
                  refine WL.skip rfl rfl rfl rfl rfl rfl ?_
                  refine WL.skip rfl rfl rfl rfl rfl rfl ?_
                  refine WL.val (v_pick_t rfl rfl rfl) (.none rfl) rfl rfl ?_
                  refine WL.val (v_assign rfl rfl) (.none rfl) rfl rfl ?_
                  refine WL.nil ?_
                  refine WE.then_n ?_
                  refine WC.ret ?_
                  refine WE.ret1 (P := Tryd.prog) (.inl rfl) Tryd.results14 rfl ?_
                  refine fun w' h => ⟨_, rfl, ?_, h.frm⟩
                  have he := toList_empty
                  unfold May
                  simp_all
                · -- 44F
                  refine WL.val (v_move rfl rfl) (.none rfl) rfl rfl ?_
                  refine WL.val (v_fieldAddr0 rfl rfl fld_28_7) (.some rfl rfl rfl) rfl rfl ?_
                  refine WL.val (v_load1 rfl rfl one_3 (cellAt rfl)) (.some rfl rfl rfl) rfl rfl ?_
                  refine WL.test (v_eql rfl rfl rfl) (.some rfl rfl rfl) rfl rfl (fun h48 => ?_) (fun h48 => ?_)
                  · -- 48T
                    refine WL.val (v_move rfl rfl) (.some rfl rfl rfl) rfl rfl ?_
                    refine WL.val (v_fieldAddr0 rfl rfl fld_28_8) (.some rfl rfl rfl) rfl rfl ?_
                    refine WL.val (v_load1 rfl rfl one_3 (cellAt rfl)) (.some rfl rfl rfl) rfl rfl ?_
                    refine WL.test (v_eql rfl rfl rfl) (.some rfl rfl rfl) rfl rfl (fun h52 => ?_) (fun h52 => ?_)
                    · -- 52T
                      refine WL.val (v_pick_t rfl rfl rfl) (.some rfl rfl rfl) rfl rfl ?_
                      refine WL.val (v_pick_f rfl rfl rfl) (.none rfl) rfl rfl ?_
                      refine WL.val (v_assign rfl rfl) (.none rfl) rfl rfl ?_
                      refine WL.nil ?_
                      refine WE.then_n ?_
                      refine WC.ret ?_
                      refine WE.ret1 (P := Tryd.prog) (.inl rfl) Tryd.results14 rfl ?_
                      refine fun w' h => ⟨_, rfl, ?_, h.frm⟩
                      have he := toList_empty
                      unfold May
                      simp_all
                    · -- 52F
                      refine WL.val (v_pick_t rfl rfl rfl) (.some rfl rfl rfl) rfl rfl ?_
                      refine WL.val (v_pick_f rfl rfl rfl) (.none rfl) rfl rfl ?_
                      refine WL.val (v_assign rfl rfl) (.none rfl) rfl rfl ?_
                      refine WL.nil ?_
                      refine WE.then_n ?_
                      refine WC.ret ?_
                      refine WE.ret1 (P := Tryd.prog) (.inl rfl) Tryd.results14 rfl ?_
                      refine fun w' h => ⟨_, rfl, ?_, h.frm⟩
                      have he := toList_empty
                      unfold May
                      simp_all
                  · -- 48F
                    refine WL.val (v_move rfl rfl) (.some rfl rfl rfl) rfl rfl ?_
                    refine WL.skip rfl rfl rfl rfl rfl rfl ?_
                    refine WL.skip rfl rfl rfl rfl rfl rfl ?_
                    refine WL.skip rfl rfl rfl rfl rfl rfl ?_
                    refine WL.val (v_pick_f rfl rfl rfl) (.some rfl rfl rfl) rfl rfl ?_
                    refine WL.val (v_pick_f rfl rfl rfl) (.none rfl) rfl rfl ?_
                    refine WL.val (v_assign rfl rfl) (.none rfl) rfl rfl ?_
                    refine WL.nil ?_
                    refine WE.then_n ?_
                    refine WC.ret ?_
                    refine WE.ret1 (P := Tryd.prog) (.inl rfl) Tryd.results14 rfl ?_
                    refine fun w' h => ⟨_, rfl, ?_, h.frm⟩
                    have he := toList_empty
                    unfold May
                    simp_all
          · -- 31F
            refine WL.val (v_move rfl rfl) (.none rfl) rfl rfl ?_
            refine WL.skip rfl rfl rfl rfl rfl rfl ?_
            refine WL.skip rfl rfl rfl rfl rfl rfl ?_
            refine WL.skip rfl rfl rfl rfl rfl rfl ?_
            refine WL.skip rfl rfl rfl rfl rfl rfl ?_
            refine WL.skip rfl rfl rfl rfl rfl rfl ?_
            refine WL.skip rfl rfl rfl rfl rfl rfl ?_
            refine WL.skip rfl rfl rfl rfl rfl rfl ?_
            refine WL.skip rfl rfl rfl rfl rfl rfl ?_
            refine WL.val (v_pick_f rfl rfl rfl) (.none rfl) rfl rfl ?_
            refine WL.nil ?_
            refine WE.then_n ?_
            refine WC.cond_f rfl ?_
            refine WC.skip ?_
            refine WE.then_n ?_
            refine WC.seq ?_
            refine WC.region ?_
            refine WL.val (v_fieldAddr0 rfl rfl fld_31_3) (.none rfl) rfl rfl ?_
            refine WL.val (v_load1 rfl rfl one_3 (cellAt rfl)) (.none rfl) rfl rfl ?_
            refine WL.test (v_neq rfl rfl rfl) (.none rfl) rfl rfl (fun h44 => ?_) (fun h44 => ?_)
            · -- 44T
              refine WL.val (v_move rfl rfl) (.none rfl) rfl rfl ?_
              refine WL.skip rfl rfl rfl rfl rfl rfl ?_
              refine WL.skip rfl rfl rfl rfl rfl rfl ?_
              refine WL.skip rfl rfl rfl rfl rfl rfl ?_
              refine WL.skip rfl rfl rfl rfl rfl rfl ?_
              refine WL.skip rfl rfl rfl rfl rfl rfl ?_
              refine WL.skip rfl rfl rfl rfl rfl rfl ?_
              refine WL.skip rfl rfl rfl rfl rfl rfl ?_
              refine WL.skip rfl rfl rfl rfl rfl rfl ?_
              refine WL.val (v_pick_t rfl rfl rfl) (.none rfl) rfl rfl ?_
              refine WL.val (v_assign rfl rfl) (.none rfl) rfl rfl ?_
              refine WL.nil ?_
              refine WE.then_n ?_
              refine WC.ret ?_
              refine WE.ret1 (P := Tryd.prog) (.inl rfl) Tryd.results14 rfl ?_
              refine fun w' h => ⟨_, rfl, ?_, h.frm⟩
              have he := toList_empty
              unfold May
              simp_all
            · -- 44F
              refine WL.val (v_move rfl rfl) (.none rfl) rfl rfl ?_
              refine WL.val (v_fieldAddr0 rfl rfl fld_28_7) (.some rfl rfl rfl) rfl rfl ?_
              refine WL.val (v_load1 rfl rfl one_3 (cellAt rfl)) (.some rfl rfl rfl) rfl rfl ?_
              refine WL.test (v_eql rfl rfl rfl) (.some rfl rfl rfl) rfl rfl (fun h48 => ?_) (fun h48 => ?_)
              · -- 48T
                refine WL.val (v_move rfl rfl) (.some rfl rfl rfl) rfl rfl ?_
                refine WL.val (v_fieldAddr0 rfl rfl fld_28_8) (.some rfl rfl rfl) rfl rfl ?_
                refine WL.val (v_load1 rfl rfl one_3 (cellAt rfl)) (.some rfl rfl rfl) rfl rfl ?_
                refine WL.test (v_eql rfl rfl rfl) (.some rfl rfl rfl) rfl rfl (fun h52 => ?_) (fun h52 => ?_)
                · -- 52T
                  refine WL.val (v_pick_t rfl rfl rfl) (.some rfl rfl rfl) rfl rfl ?_
                  refine WL.val (v_pick_f rfl rfl rfl) (.none rfl) rfl rfl ?_
                  refine WL.val (v_assign rfl rfl) (.none rfl) rfl rfl ?_
                  refine WL.nil ?_
                  refine WE.then_n ?_
                  refine WC.ret ?_
                  refine WE.ret1 (P := Tryd.prog) (.inl rfl) Tryd.results14 rfl ?_
                  refine fun w' h => ⟨_, rfl, ?_, h.frm⟩
                  have he := toList_empty
                  unfold May
                  simp_all
                · -- 52F
                  refine WL.val (v_pick_t rfl rfl rfl) (.some rfl rfl rfl) rfl rfl ?_
                  refine WL.val (v_pick_f rfl rfl rfl) (.none rfl) rfl rfl ?_
                  refine WL.val (v_assign rfl rfl) (.none rfl) rfl rfl ?_
                  refine WL.nil ?_
                  refine WE.then_n ?_
                  refine WC.ret ?_
                  refine WE.ret1 (P := Tryd.prog) (.inl rfl) Tryd.results14 rfl ?_
                  refine fun w' h => ⟨_, rfl, ?_, h.frm⟩
                  have he := toList_empty
                  unfold May
                  simp_all
              · -- 48F
                refine WL.val (v_move rfl rfl) (.some rfl rfl rfl) rfl rfl ?_
                refine WL.skip rfl rfl rfl rfl rfl rfl ?_
                refine WL.skip rfl rfl rfl rfl rfl rfl ?_
                refine WL.skip rfl rfl rfl rfl rfl rfl ?_
                refine WL.val (v_pick_f rfl rfl rfl) (.some rfl rfl rfl) rfl rfl ?_
                refine WL.val (v_pick_f rfl rfl rfl) (.none rfl) rfl rfl ?_
                refine WL.val (v_assign rfl rfl) (.none rfl) rfl rfl ?_
                refine WL.nil ?_
                refine WE.then_n ?_
                refine WC.ret ?_
                refine WE.ret1 (P := Tryd.prog) (.inl rfl) Tryd.results14 rfl ?_
                refine fun w' h => ⟨_, rfl, ?_, h.frm⟩
                have he := toList_empty
                unfold May
                simp_all
end Go.Proofs.YtpjjlggonpbegaaDoor
