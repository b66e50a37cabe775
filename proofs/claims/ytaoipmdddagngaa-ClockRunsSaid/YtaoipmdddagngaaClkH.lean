/- carrefourlaw09: ClockLate, ClockRoom. -/
import Derived.Test.YtaoipmdddagngaaClkG
namespace Go.Proofs.Ytaoipmdddagngaa
open Go.RowKit

theorem till_eq {now u : Int} (h0 : now ≤ u) (h1 : u ≤ 1073741824) : till now u = u := by unfold till; omega
theorem notIn {S : List (Int × Int)} (h : S = []) {P : Int × Int → Prop} : ∀ z ∈ S, P z := fun z hz => by subst h; cases hz
section
variable (w : World) (a b u : Int)
set_option maxHeartbeats 1000000 in
theorem ClockLate_1 : Calls Try.prog 4 #[.int .i64 a, .int .i64 b, .int .i64 u, .bool true] w fun e w' => e = .returned (.bool true) ∧ Frm (fun _ => False) w w' := by
  have hu : till 0 (u % 512) = u % 512 := till_eq (by omega) (by omega)
  have hu2 : till (u % 512) (u % 512) = u % 512 := till_eq (by omega) (by omega)
  refine enter Try.func4 rfl Try.ntmps4 rfl (St.start (fun _ => False) w) ?_
  refine WC.seq ?_
  refine WC.region ?_
  refine WL.val (v_assign rfl rfl) (.none rfl) rfl rfl ?_
  refine WL.nil ?_
  refine WE.then_n ?_
  refine WC.seq ?_
  refine WC.seq ?_
  refine WC.region ?_
  refine WL.call rfl rfl ck_7 (.none rfl) rfl rfl ?_
  intro w hS
  refine Calls.then (ckhead_c w) hS ?_
  refine WL.val (v_not rfl rfl rfl) (.none rfl) rfl rfl ?_
  refine WL.nil ?_
  refine WE.then_n ?_
  refine WC.cond_f rfl ?_
  refine WC.skip ?_
  refine WE.then_n ?_
  refine WC.seq ?_
  refine WC.region ?_
  refine WL.val (v_move rfl rfl) (.none rfl) rfl rfl ?_
  refine WL.val (v_and rfl rfl rfl (mask_i64' (i := 8) (m := 256) (by decide) (by decide) (by decide))) (.none rfl) rfl rfl ?_
  refine WL.val (v_assign rfl rfl) (.none rfl) rfl rfl ?_
  refine WL.nil ?_
  refine WE.then_n ?_
  refine WC.seq ?_
  refine WC.region ?_
  refine WL.val (v_move rfl rfl) (.none rfl) rfl rfl ?_
  refine WL.val (v_and rfl rfl rfl (mask_i64' (i := 8) (m := 256) (by decide) (by decide) (by decide))) (.none rfl) rfl rfl ?_
  refine WL.val (v_assign rfl rfl) (.none rfl) rfl rfl ?_
  refine WL.nil ?_
  refine WE.then_n ?_
  refine WC.seq ?_
  refine WC.region ?_
  refine WL.val (v_move rfl rfl) (.none rfl) rfl rfl ?_
  refine WL.val (v_and rfl rfl rfl (mask_i64' (i := 9) (m := 512) (by decide) (by decide) (by decide))) (.none rfl) rfl rfl ?_
  refine WL.val (v_assign rfl rfl) (.none rfl) rfl rfl ?_
  refine WL.nil ?_
  refine WE.then_n ?_
  refine WC.seq ?_
  refine WC.region ?_
  refine WL.call rfl rfl ck_8 (.none rfl) rfl rfl ?_
  intro w1 hS
  refine (New_b hS).mono ?_
  rintro e w' ⟨gC, d0, rfl, hb0, hS'⟩
  refine ⟨_, _, rfl, hS', ?_⟩
  refine WL.val (v_assign rfl rfl) (.none rfl) rfl rfl ?_
  refine WL.nil ?_
  refine WE.then_n ?_
  refine WC.seq ?_
  refine WC.seq ?_
  refine WC.region ?_
  refine WL.val (v_move rfl rfl) (.none rfl) rfl rfl ?_
  refine WL.val (v_move rfl rfl) (.none rfl) rfl rfl ?_
  refine WL.call rfl rfl ck_9 (.none rfl) rfl rfl ?_
  intro w1 hS
  refine (Set_b hS hb0 1 (a % 256) (by omega) (by omega) (by simp) (by simp)).mono ?_
  rintro e w' ⟨d1, rfl, hb1, hS'⟩
  refine ⟨_, _, rfl, hS', ?_⟩
  refine WL.val ((v_neq rfl rfl rfl).f (by omega)) (.none rfl) rfl rfl ?_
  refine WL.val (v_move rfl rfl) (.none rfl) rfl rfl ?_
  refine WL.val (v_move rfl rfl) (.some rfl rfl rfl) rfl rfl ?_
  refine WL.val (v_move rfl rfl) (.some rfl rfl rfl) rfl rfl ?_
  refine WL.call rfl rfl ck_9 (.some rfl rfl rfl) rfl rfl ?_
  intro w1 hS
  refine (Set_bo (A := []) (B := []) hS 1 (b % 256) hb1 (by omega) (by omega)).mono ?_
  rintro e w' ⟨d2, rfl, hb2, hS'⟩
  refine ⟨_, _, rfl, hS', ?_⟩
  refine WL.val ((v_neq rfl rfl rfl).f (by omega)) (.some rfl rfl rfl) rfl rfl ?_
  refine WL.val (v_pick_f rfl rfl rfl) (.none rfl) rfl rfl ?_
  refine WL.val (v_move rfl rfl) (.none rfl) rfl rfl ?_
  refine WL.val (v_move rfl rfl) (.some rfl rfl rfl) rfl rfl ?_
  refine WL.call rfl rfl ck_12 (.some rfl rfl rfl) rfl rfl ?_
  intro w hS
  refine Calls.then (Len_b hS hb2) hS ?_
  refine WL.val ((v_neq rfl rfl rfl).f (by simp)) (.some rfl rfl rfl) rfl rfl ?_
  refine WL.val (v_pick_f rfl rfl rfl) (.none rfl) rfl rfl ?_
  refine WL.nil ?_
  refine WE.then_n ?_
  refine WC.cond_f rfl ?_
  refine WC.skip ?_
  refine WE.then_n ?_
  refine WC.seq ?_
  refine WC.seq ?_
  refine WC.region ?_
  refine WL.val (v_move rfl rfl) (.none rfl) rfl rfl ?_
  refine WL.val (v_move rfl rfl) (.none rfl) rfl rfl ?_
  refine WL.val (v_move rfl rfl) (.some rfl rfl rfl) rfl rfl ?_
  refine WL.call rfl rfl ck_13 (.some rfl rfl rfl) rfl rfl ?_
  intro w1 hS
  refine (Stop_b (A := []) (B := []) hS 1 hb2).mono ?_
  rintro e w' ⟨d3, rfl, hb3, hS'⟩
  refine ⟨_, _, rfl, hS', ?_⟩
  refine WL.val (v_not rfl rfl rfl) (.some rfl rfl rfl) rfl rfl ?_
  refine WL.val (v_pick_t rfl rfl rfl) (.none rfl) rfl rfl ?_
  refine WL.nil ?_
  refine WE.then_n ?_
  refine WC.cond_f rfl ?_
  refine WC.skip ?_
  refine WE.then_n ?_
  refine WC.seq ?_
  refine WC.region ?_
  refine WL.val (v_move rfl rfl) (.none rfl) rfl rfl ?_
  refine WL.val (v_move rfl rfl) (.none rfl) rfl rfl ?_
  refine WL.call rfl rfl ck_10 (.none rfl) rfl rfl ?_
  intro w1 hS
  refine (Next_bn hS (u % 512) hb3 (notIn rfl)).mono ?_
  rintro e w' ⟨rfl, hS'⟩
  refine ⟨_, _, rfl, hS', ?_⟩
  refine WL.val (v_move rfl rfl) (.none rfl) rfl rfl ?_
  refine WL.val (v_extract rfl rfl rfl) (.none rfl) rfl rfl ?_
  refine WL.val (v_extract rfl rfl rfl) (.none rfl) rfl rfl ?_
  refine WL.val (v_assign rfl rfl) (.none rfl) rfl rfl ?_
  refine WL.val (v_assign rfl rfl) (.none rfl) rfl rfl ?_
  refine WL.nil ?_
  refine WE.then_n ?_
  refine WC.seq ?_
  refine WC.region ?_
  refine WL.val (v_move rfl rfl) (.none rfl) rfl rfl ?_
  refine WL.val (v_move rfl rfl) (.none rfl) rfl rfl ?_
  refine WL.call rfl rfl ck_10 (.none rfl) rfl rfl ?_
  intro w1 hS
  refine (Next_bn hS (u % 512) hb3 (notIn rfl)).mono ?_
  rintro e w' ⟨rfl, hS'⟩
  refine ⟨_, _, rfl, hS', ?_⟩
  refine WL.val (v_move rfl rfl) (.none rfl) rfl rfl ?_
  refine WL.val (v_extract rfl rfl rfl) (.none rfl) rfl rfl ?_
  refine WL.val (v_extract rfl rfl rfl) (.none rfl) rfl rfl ?_
  refine WL.val (v_assign rfl rfl) (.none rfl) rfl rfl ?_
  refine WL.val (v_assign rfl rfl) (.none rfl) rfl rfl ?_
  refine WL.nil ?_
  refine WE.then_n ?_
  refine WC.seq ?_
  refine WC.region ?_
  refine WL.val (v_move rfl rfl) (.none rfl) rfl rfl ?_
  refine WL.val (v_not rfl rfl rfl) (.none rfl) rfl rfl ?_
  refine WL.val (v_move rfl rfl) (.none rfl) rfl rfl ?_
  refine WL.skip rfl rfl rfl rfl rfl rfl ?_
  refine WL.skip rfl rfl rfl rfl rfl rfl ?_
  refine WL.skip rfl rfl rfl rfl rfl rfl ?_
  refine WL.val (v_pick_f rfl rfl rfl) (.none rfl) rfl rfl ?_
  refine WL.val (v_assign rfl rfl) (.none rfl) rfl rfl ?_
  refine WL.nil ?_
  refine WE.then_n ?_
  refine WC.seq ?_
  refine WC.region ?_
  refine WL.val (v_move rfl rfl) (.none rfl) rfl rfl ?_
  refine WL.val (v_move rfl rfl) (.none rfl) rfl rfl ?_
  refine WL.val ((v_eql_bool rfl rfl rfl Try.underlying4).t (rfl)) (.none rfl) rfl rfl ?_
  refine WL.val (v_move rfl rfl) (.none rfl) rfl rfl ?_
  refine WL.val (v_move rfl rfl) (.some rfl rfl rfl) rfl rfl ?_
  refine WL.val (v_not rfl rfl rfl) (.some rfl rfl rfl) rfl rfl ?_
  refine WL.val (v_pick_t rfl rfl rfl) (.none rfl) rfl rfl ?_
  refine WL.val (v_move rfl rfl) (.none rfl) rfl rfl ?_
  refine WL.val (v_move rfl rfl) (.some rfl rfl rfl) rfl rfl ?_
  refine WL.val (v_not rfl rfl rfl) (.some rfl rfl rfl) rfl rfl ?_
  refine WL.val (v_move rfl rfl) (.some rfl rfl rfl) rfl rfl ?_
  refine WL.skip rfl rfl rfl rfl rfl rfl ?_
  refine WL.skip rfl rfl rfl rfl rfl rfl ?_
  refine WL.val (v_pick_t rfl rfl rfl) (.some rfl rfl rfl) rfl rfl ?_
  refine WL.val (v_pick_t rfl rfl rfl) (.none rfl) rfl rfl ?_
  refine WL.val (v_move rfl rfl) (.none rfl) rfl rfl ?_
  refine WL.val (v_move rfl rfl) (.some rfl rfl rfl) rfl rfl ?_
  refine WL.call rfl rfl ck_11 (.some rfl rfl rfl) rfl rfl ?_
  intro w hS
  refine Calls.then (Now_b hS) hS ?_
  refine WL.val (v_move rfl rfl) (.some rfl rfl rfl) rfl rfl ?_
  refine WL.val ((v_eql rfl rfl rfl).t (by rw [hu, hu2])) (.some rfl rfl rfl) rfl rfl ?_
  refine WL.val (v_pick_t rfl rfl rfl) (.none rfl) rfl rfl ?_
  refine WL.val (v_assign rfl rfl) (.none rfl) rfl rfl ?_
  refine WL.nil ?_
  refine WE.then_n ?_
  refine WC.ret ?_
  refine WE.ret1 (P := Try.prog) (.inl rfl) Try.results4 rfl ?_
  exact fun w' h => ⟨rfl, h.frm⟩
set_option maxHeartbeats 1000000 in
theorem ClockLate_2 (h : b % 256 ≤ u % 512) : Calls Try.prog 4 #[.int .i64 a, .int .i64 b, .int .i64 u, .bool false] w fun e w' => e = .returned (.bool true) ∧ Frm (fun _ => False) w w' := by
  have hu : till 0 (u % 512) = u % 512 := till_eq (by omega) (by omega)
  have hu2 : till (b % 256) (u % 512) = u % 512 := till_eq (by omega) (by omega)
  refine enter Try.func4 rfl Try.ntmps4 rfl (St.start (fun _ => False) w) ?_
  refine WC.seq ?_
  refine WC.region ?_
  refine WL.val (v_assign rfl rfl) (.none rfl) rfl rfl ?_
  refine WL.nil ?_
  refine WE.then_n ?_
  refine WC.seq ?_
  refine WC.seq ?_
  refine WC.region ?_
  refine WL.call rfl rfl ck_7 (.none rfl) rfl rfl ?_
  intro w hS
  refine Calls.then (ckhead_c w) hS ?_
  refine WL.val (v_not rfl rfl rfl) (.none rfl) rfl rfl ?_
  refine WL.nil ?_
  refine WE.then_n ?_
  refine WC.cond_f rfl ?_
  refine WC.skip ?_
  refine WE.then_n ?_
  refine WC.seq ?_
  refine WC.region ?_
  refine WL.val (v_move rfl rfl) (.none rfl) rfl rfl ?_
  refine WL.val (v_and rfl rfl rfl (mask_i64' (i := 8) (m := 256) (by decide) (by decide) (by decide))) (.none rfl) rfl rfl ?_
  refine WL.val (v_assign rfl rfl) (.none rfl) rfl rfl ?_
  refine WL.nil ?_
  refine WE.then_n ?_
  refine WC.seq ?_
  refine WC.region ?_
  refine WL.val (v_move rfl rfl) (.none rfl) rfl rfl ?_
  refine WL.val (v_and rfl rfl rfl (mask_i64' (i := 8) (m := 256) (by decide) (by decide) (by decide))) (.none rfl) rfl rfl ?_
  refine WL.val (v_assign rfl rfl) (.none rfl) rfl rfl ?_
  refine WL.nil ?_
  refine WE.then_n ?_
  refine WC.seq ?_
  refine WC.region ?_
  refine WL.val (v_move rfl rfl) (.none rfl) rfl rfl ?_
  refine WL.val (v_and rfl rfl rfl (mask_i64' (i := 9) (m := 512) (by decide) (by decide) (by decide))) (.none rfl) rfl rfl ?_
  refine WL.val (v_assign rfl rfl) (.none rfl) rfl rfl ?_
  refine WL.nil ?_
  refine WE.then_n ?_
  refine WC.seq ?_
  refine WC.region ?_
  refine WL.call rfl rfl ck_8 (.none rfl) rfl rfl ?_
  intro w1 hS
  refine (New_b hS).mono ?_
  rintro e w' ⟨gC, d0, rfl, hb0, hS'⟩
  refine ⟨_, _, rfl, hS', ?_⟩
  refine WL.val (v_assign rfl rfl) (.none rfl) rfl rfl ?_
  refine WL.nil ?_
  refine WE.then_n ?_
  refine WC.seq ?_
  refine WC.seq ?_
  refine WC.region ?_
  refine WL.val (v_move rfl rfl) (.none rfl) rfl rfl ?_
  refine WL.val (v_move rfl rfl) (.none rfl) rfl rfl ?_
  refine WL.call rfl rfl ck_9 (.none rfl) rfl rfl ?_
  intro w1 hS
  refine (Set_b hS hb0 1 (a % 256) (by omega) (by omega) (by simp) (by simp)).mono ?_
  rintro e w' ⟨d1, rfl, hb1, hS'⟩
  refine ⟨_, _, rfl, hS', ?_⟩
  refine WL.val ((v_neq rfl rfl rfl).f (by omega)) (.none rfl) rfl rfl ?_
  refine WL.val (v_move rfl rfl) (.none rfl) rfl rfl ?_
  refine WL.val (v_move rfl rfl) (.some rfl rfl rfl) rfl rfl ?_
  refine WL.val (v_move rfl rfl) (.some rfl rfl rfl) rfl rfl ?_
  refine WL.call rfl rfl ck_9 (.some rfl rfl rfl) rfl rfl ?_
  intro w1 hS
  refine (Set_bo (A := []) (B := []) hS 1 (b % 256) hb1 (by omega) (by omega)).mono ?_
  rintro e w' ⟨d2, rfl, hb2, hS'⟩
  refine ⟨_, _, rfl, hS', ?_⟩
  refine WL.val ((v_neq rfl rfl rfl).f (by omega)) (.some rfl rfl rfl) rfl rfl ?_
  refine WL.val (v_pick_f rfl rfl rfl) (.none rfl) rfl rfl ?_
  refine WL.val (v_move rfl rfl) (.none rfl) rfl rfl ?_
  refine WL.val (v_move rfl rfl) (.some rfl rfl rfl) rfl rfl ?_
  refine WL.call rfl rfl ck_12 (.some rfl rfl rfl) rfl rfl ?_
  intro w hS
  refine Calls.then (Len_b hS hb2) hS ?_
  refine WL.val ((v_neq rfl rfl rfl).f (by simp)) (.some rfl rfl rfl) rfl rfl ?_
  refine WL.val (v_pick_f rfl rfl rfl) (.none rfl) rfl rfl ?_
  refine WL.nil ?_
  refine WE.then_n ?_
  refine WC.cond_f rfl ?_
  refine WC.skip ?_
  refine WE.then_n ?_
  refine WC.seq ?_
  refine WC.seq ?_
  refine WC.region ?_
  refine WL.val (v_move rfl rfl) (.none rfl) rfl rfl ?_
  refine WL.val (v_move rfl rfl) (.none rfl) rfl rfl ?_
  refine WL.skip rfl rfl rfl rfl rfl rfl ?_
  refine WL.skip rfl rfl rfl rfl rfl rfl ?_
  refine WL.skip rfl rfl rfl rfl rfl rfl ?_
  refine WL.val (v_pick_f rfl rfl rfl) (.none rfl) rfl rfl ?_
  refine WL.nil ?_
  refine WE.then_n ?_
  refine WC.cond_f rfl ?_
  refine WC.skip ?_
  refine WE.then_n ?_
  refine WC.seq ?_
  refine WC.region ?_
  refine WL.val (v_move rfl rfl) (.none rfl) rfl rfl ?_
  refine WL.val (v_move rfl rfl) (.none rfl) rfl rfl ?_
  refine WL.call rfl rfl ck_10 (.none rfl) rfl rfl ?_
  intro w1 hS
  refine (Next_b (A := []) (B := []) hS (u % 512) hb2 (notIn rfl) (by rw [hu]; exact h)).mono ?_
  rintro e w' ⟨d3, rfl, hb3, hS'⟩
  refine ⟨_, _, rfl, hS', ?_⟩
  refine WL.val (v_move rfl rfl) (.none rfl) rfl rfl ?_
  refine WL.val (v_extract rfl rfl rfl) (.none rfl) rfl rfl ?_
  refine WL.val (v_extract rfl rfl rfl) (.none rfl) rfl rfl ?_
  refine WL.val (v_assign rfl rfl) (.none rfl) rfl rfl ?_
  refine WL.val (v_assign rfl rfl) (.none rfl) rfl rfl ?_
  refine WL.nil ?_
  refine WE.then_n ?_
  refine WC.seq ?_
  refine WC.region ?_
  refine WL.val (v_move rfl rfl) (.none rfl) rfl rfl ?_
  refine WL.val (v_move rfl rfl) (.none rfl) rfl rfl ?_
  refine WL.call rfl rfl ck_10 (.none rfl) rfl rfl ?_
  intro w1 hS
  refine (Next_bn hS (u % 512) hb3 (notIn rfl)).mono ?_
  rintro e w' ⟨rfl, hS'⟩
  refine ⟨_, _, rfl, hS', ?_⟩
  refine WL.val (v_move rfl rfl) (.none rfl) rfl rfl ?_
  refine WL.val (v_extract rfl rfl rfl) (.none rfl) rfl rfl ?_
  refine WL.val (v_extract rfl rfl rfl) (.none rfl) rfl rfl ?_
  refine WL.val (v_assign rfl rfl) (.none rfl) rfl rfl ?_
  refine WL.val (v_assign rfl rfl) (.none rfl) rfl rfl ?_
  refine WL.nil ?_
  refine WE.then_n ?_
  refine WC.seq ?_
  refine WC.region ?_
  refine WL.val (v_move rfl rfl) (.none rfl) rfl rfl ?_
  refine WL.val (v_not rfl rfl rfl) (.none rfl) rfl rfl ?_
  refine WL.val (v_move rfl rfl) (.none rfl) rfl rfl ?_
  refine WL.val (v_move rfl rfl) (.some rfl rfl rfl) rfl rfl ?_
  refine WL.val (v_move rfl rfl) (.some rfl rfl rfl) rfl rfl ?_
  refine WL.val ((v_leq rfl rfl rfl).t (h)) (.some rfl rfl rfl) rfl rfl ?_
  refine WL.val (v_pick_t rfl rfl rfl) (.none rfl) rfl rfl ?_
  refine WL.val (v_assign rfl rfl) (.none rfl) rfl rfl ?_
  refine WL.nil ?_
  refine WE.then_n ?_
  refine WC.seq ?_
  refine WC.region ?_
  refine WL.val (v_move rfl rfl) (.none rfl) rfl rfl ?_
  refine WL.val (v_move rfl rfl) (.none rfl) rfl rfl ?_
  refine WL.val ((v_eql_bool rfl rfl rfl Try.underlying4).t (rfl)) (.none rfl) rfl rfl ?_
  refine WL.val (v_move rfl rfl) (.none rfl) rfl rfl ?_
  refine WL.val (v_move rfl rfl) (.some rfl rfl rfl) rfl rfl ?_
  refine WL.val (v_not rfl rfl rfl) (.some rfl rfl rfl) rfl rfl ?_
  refine WL.val (v_pick_t rfl rfl rfl) (.none rfl) rfl rfl ?_
  refine WL.val (v_move rfl rfl) (.none rfl) rfl rfl ?_
  refine WL.val (v_move rfl rfl) (.some rfl rfl rfl) rfl rfl ?_
  refine WL.val (v_not rfl rfl rfl) (.some rfl rfl rfl) rfl rfl ?_
  refine WL.val (v_move rfl rfl) (.some rfl rfl rfl) rfl rfl ?_
  refine WL.val (v_move rfl rfl) (.some rfl rfl rfl) rfl rfl ?_
  refine WL.val ((v_eql rfl rfl rfl).t (by omega)) (.some rfl rfl rfl) rfl rfl ?_
  refine WL.val (v_pick_f rfl rfl rfl) (.some rfl rfl rfl) rfl rfl ?_
  refine WL.val (v_pick_t rfl rfl rfl) (.none rfl) rfl rfl ?_
  refine WL.val (v_move rfl rfl) (.none rfl) rfl rfl ?_
  refine WL.val (v_move rfl rfl) (.some rfl rfl rfl) rfl rfl ?_
  refine WL.call rfl rfl ck_11 (.some rfl rfl rfl) rfl rfl ?_
  intro w hS
  refine Calls.then (Now_b hS) hS ?_
  refine WL.val (v_move rfl rfl) (.some rfl rfl rfl) rfl rfl ?_
  refine WL.val ((v_eql rfl rfl rfl).t (hu2)) (.some rfl rfl rfl) rfl rfl ?_
  refine WL.val (v_pick_t rfl rfl rfl) (.none rfl) rfl rfl ?_
  refine WL.val (v_assign rfl rfl) (.none rfl) rfl rfl ?_
  refine WL.nil ?_
  refine WE.then_n ?_
  refine WC.ret ?_
  refine WE.ret1 (P := Try.prog) (.inl rfl) Try.results4 rfl ?_
  exact fun w' h => ⟨rfl, h.frm⟩
set_option maxHeartbeats 1000000 in
theorem ClockLate_3 (h : ¬ b % 256 ≤ u % 512) : Calls Try.prog 4 #[.int .i64 a, .int .i64 b, .int .i64 u, .bool false] w fun e w' => e = .returned (.bool true) ∧ Frm (fun _ => False) w w' := by
  have hu : till 0 (u % 512) = u % 512 := till_eq (by omega) (by omega)
  have hu2 : till (u % 512) (u % 512) = u % 512 := till_eq (by omega) (by omega)
  refine enter Try.func4 rfl Try.ntmps4 rfl (St.start (fun _ => False) w) ?_
  refine WC.seq ?_
  refine WC.region ?_
  refine WL.val (v_assign rfl rfl) (.none rfl) rfl rfl ?_
  refine WL.nil ?_
  refine WE.then_n ?_
  refine WC.seq ?_
  refine WC.seq ?_
  refine WC.region ?_
  refine WL.call rfl rfl ck_7 (.none rfl) rfl rfl ?_
  intro w hS
  refine Calls.then (ckhead_c w) hS ?_
  refine WL.val (v_not rfl rfl rfl) (.none rfl) rfl rfl ?_
  refine WL.nil ?_
  refine WE.then_n ?_
  refine WC.cond_f rfl ?_
  refine WC.skip ?_
  refine WE.then_n ?_
  refine WC.seq ?_
  refine WC.region ?_
  refine WL.val (v_move rfl rfl) (.none rfl) rfl rfl ?_
  refine WL.val (v_and rfl rfl rfl (mask_i64' (i := 8) (m := 256) (by decide) (by decide) (by decide))) (.none rfl) rfl rfl ?_
  refine WL.val (v_assign rfl rfl) (.none rfl) rfl rfl ?_
  refine WL.nil ?_
  refine WE.then_n ?_
  refine WC.seq ?_
  refine WC.region ?_
  refine WL.val (v_move rfl rfl) (.none rfl) rfl rfl ?_
  refine WL.val (v_and rfl rfl rfl (mask_i64' (i := 8) (m := 256) (by decide) (by decide) (by decide))) (.none rfl) rfl rfl ?_
  refine WL.val (v_assign rfl rfl) (.none rfl) rfl rfl ?_
  refine WL.nil ?_
  refine WE.then_n ?_
  refine WC.seq ?_
  refine WC.region ?_
  refine WL.val (v_move rfl rfl) (.none rfl) rfl rfl ?_
  refine WL.val (v_and rfl rfl rfl (mask_i64' (i := 9) (m := 512) (by decide) (by decide) (by decide))) (.none rfl) rfl rfl ?_
  refine WL.val (v_assign rfl rfl) (.none rfl) rfl rfl ?_
  refine WL.nil ?_
  refine WE.then_n ?_
  refine WC.seq ?_
  refine WC.region ?_
  refine WL.call rfl rfl ck_8 (.none rfl) rfl rfl ?_
  intro w1 hS
  refine (New_b hS).mono ?_
  rintro e w' ⟨gC, d0, rfl, hb0, hS'⟩
  refine ⟨_, _, rfl, hS', ?_⟩
  refine WL.val (v_assign rfl rfl) (.none rfl) rfl rfl ?_
  refine WL.nil ?_
  refine WE.then_n ?_
  refine WC.seq ?_
  refine WC.seq ?_
  refine WC.region ?_
  refine WL.val (v_move rfl rfl) (.none rfl) rfl rfl ?_
  refine WL.val (v_move rfl rfl) (.none rfl) rfl rfl ?_
  refine WL.call rfl rfl ck_9 (.none rfl) rfl rfl ?_
  intro w1 hS
  refine (Set_b hS hb0 1 (a % 256) (by omega) (by omega) (by simp) (by simp)).mono ?_
  rintro e w' ⟨d1, rfl, hb1, hS'⟩
  refine ⟨_, _, rfl, hS', ?_⟩
  refine WL.val ((v_neq rfl rfl rfl).f (by omega)) (.none rfl) rfl rfl ?_
  refine WL.val (v_move rfl rfl) (.none rfl) rfl rfl ?_
  refine WL.val (v_move rfl rfl) (.some rfl rfl rfl) rfl rfl ?_
  refine WL.val (v_move rfl rfl) (.some rfl rfl rfl) rfl rfl ?_
  refine WL.call rfl rfl ck_9 (.some rfl rfl rfl) rfl rfl ?_
  intro w1 hS
  refine (Set_bo (A := []) (B := []) hS 1 (b % 256) hb1 (by omega) (by omega)).mono ?_
  rintro e w' ⟨d2, rfl, hb2, hS'⟩
  refine ⟨_, _, rfl, hS', ?_⟩
  refine WL.val ((v_neq rfl rfl rfl).f (by omega)) (.some rfl rfl rfl) rfl rfl ?_
  refine WL.val (v_pick_f rfl rfl rfl) (.none rfl) rfl rfl ?_
  refine WL.val (v_move rfl rfl) (.none rfl) rfl rfl ?_
  refine WL.val (v_move rfl rfl) (.some rfl rfl rfl) rfl rfl ?_
  refine WL.call rfl rfl ck_12 (.some rfl rfl rfl) rfl rfl ?_
  intro w hS
  refine Calls.then (Len_b hS hb2) hS ?_
  refine WL.val ((v_neq rfl rfl rfl).f (by simp)) (.some rfl rfl rfl) rfl rfl ?_
  refine WL.val (v_pick_f rfl rfl rfl) (.none rfl) rfl rfl ?_
  refine WL.nil ?_
  refine WE.then_n ?_
  refine WC.cond_f rfl ?_
  refine WC.skip ?_
  refine WE.then_n ?_
  refine WC.seq ?_
  refine WC.seq ?_
  refine WC.region ?_
  refine WL.val (v_move rfl rfl) (.none rfl) rfl rfl ?_
  refine WL.val (v_move rfl rfl) (.none rfl) rfl rfl ?_
  refine WL.skip rfl rfl rfl rfl rfl rfl ?_
  refine WL.skip rfl rfl rfl rfl rfl rfl ?_
  refine WL.skip rfl rfl rfl rfl rfl rfl ?_
  refine WL.val (v_pick_f rfl rfl rfl) (.none rfl) rfl rfl ?_
  refine WL.nil ?_
  refine WE.then_n ?_
  refine WC.cond_f rfl ?_
  refine WC.skip ?_
  refine WE.then_n ?_
  refine WC.seq ?_
  refine WC.region ?_
  refine WL.val (v_move rfl rfl) (.none rfl) rfl rfl ?_
  refine WL.val (v_move rfl rfl) (.none rfl) rfl rfl ?_
  refine WL.call rfl rfl ck_10 (.none rfl) rfl rfl ?_
  intro w1 hS
  refine (Next_bn hS (u % 512) hb2 (by intro z hz; have : z = (1, b % 256) := (by simpa using hz); subst this; rw [hu]; exact Int.not_le.1 h)).mono ?_
  rintro e w' ⟨rfl, hS'⟩
  rw [hu] at hS'
  refine ⟨_, _, rfl, hS', ?_⟩
  refine WL.val (v_move rfl rfl) (.none rfl) rfl rfl ?_
  refine WL.val (v_extract rfl rfl rfl) (.none rfl) rfl rfl ?_
  refine WL.val (v_extract rfl rfl rfl) (.none rfl) rfl rfl ?_
  refine WL.val (v_assign rfl rfl) (.none rfl) rfl rfl ?_
  refine WL.val (v_assign rfl rfl) (.none rfl) rfl rfl ?_
  refine WL.nil ?_
  refine WE.then_n ?_
  refine WC.seq ?_
  refine WC.region ?_
  refine WL.val (v_move rfl rfl) (.none rfl) rfl rfl ?_
  refine WL.val (v_move rfl rfl) (.none rfl) rfl rfl ?_
  refine WL.call rfl rfl ck_10 (.none rfl) rfl rfl ?_
  intro w1 hS
  refine (Next_bn hS (u % 512) hb2 (by intro z hz; have : z = (1, b % 256) := (by simpa using hz); subst this; rw [hu2]; exact Int.not_le.1 h)).mono ?_
  rintro e w' ⟨rfl, hS'⟩
  refine ⟨_, _, rfl, hS', ?_⟩
  refine WL.val (v_move rfl rfl) (.none rfl) rfl rfl ?_
  refine WL.val (v_extract rfl rfl rfl) (.none rfl) rfl rfl ?_
  refine WL.val (v_extract rfl rfl rfl) (.none rfl) rfl rfl ?_
  refine WL.val (v_assign rfl rfl) (.none rfl) rfl rfl ?_
  refine WL.val (v_assign rfl rfl) (.none rfl) rfl rfl ?_
  refine WL.nil ?_
  refine WE.then_n ?_
  refine WC.seq ?_
  refine WC.region ?_
  refine WL.val (v_move rfl rfl) (.none rfl) rfl rfl ?_
  refine WL.val (v_not rfl rfl rfl) (.none rfl) rfl rfl ?_
  refine WL.val (v_move rfl rfl) (.none rfl) rfl rfl ?_
  refine WL.val (v_move rfl rfl) (.some rfl rfl rfl) rfl rfl ?_
  refine WL.val (v_move rfl rfl) (.some rfl rfl rfl) rfl rfl ?_
  refine WL.val ((v_leq rfl rfl rfl).f (h)) (.some rfl rfl rfl) rfl rfl ?_
  refine WL.val (v_pick_t rfl rfl rfl) (.none rfl) rfl rfl ?_
  refine WL.val (v_assign rfl rfl) (.none rfl) rfl rfl ?_
  refine WL.nil ?_
  refine WE.then_n ?_
  refine WC.seq ?_
  refine WC.region ?_
  refine WL.val (v_move rfl rfl) (.none rfl) rfl rfl ?_
  refine WL.val (v_move rfl rfl) (.none rfl) rfl rfl ?_
  refine WL.val ((v_eql_bool rfl rfl rfl Try.underlying4).t (rfl)) (.none rfl) rfl rfl ?_
  refine WL.val (v_move rfl rfl) (.none rfl) rfl rfl ?_
  refine WL.val (v_move rfl rfl) (.some rfl rfl rfl) rfl rfl ?_
  refine WL.val (v_not rfl rfl rfl) (.some rfl rfl rfl) rfl rfl ?_
  refine WL.val (v_pick_t rfl rfl rfl) (.none rfl) rfl rfl ?_
  refine WL.val (v_move rfl rfl) (.none rfl) rfl rfl ?_
  refine WL.val (v_move rfl rfl) (.some rfl rfl rfl) rfl rfl ?_
  refine WL.val (v_not rfl rfl rfl) (.some rfl rfl rfl) rfl rfl ?_
  refine WL.val (v_move rfl rfl) (.some rfl rfl rfl) rfl rfl ?_
  refine WL.skip rfl rfl rfl rfl rfl rfl ?_
  refine WL.skip rfl rfl rfl rfl rfl rfl ?_
  refine WL.val (v_pick_t rfl rfl rfl) (.some rfl rfl rfl) rfl rfl ?_
  refine WL.val (v_pick_t rfl rfl rfl) (.none rfl) rfl rfl ?_
  refine WL.val (v_move rfl rfl) (.none rfl) rfl rfl ?_
  refine WL.val (v_move rfl rfl) (.some rfl rfl rfl) rfl rfl ?_
  refine WL.call rfl rfl ck_11 (.some rfl rfl rfl) rfl rfl ?_
  intro w hS
  refine Calls.then (Now_b hS) hS ?_
  refine WL.val (v_move rfl rfl) (.some rfl rfl rfl) rfl rfl ?_
  refine WL.val ((v_eql rfl rfl rfl).t (hu2)) (.some rfl rfl rfl) rfl rfl ?_
  refine WL.val (v_pick_t rfl rfl rfl) (.none rfl) rfl rfl ?_
  refine WL.val (v_assign rfl rfl) (.none rfl) rfl rfl ?_
  refine WL.nil ?_
  refine WE.then_n ?_
  refine WC.ret ?_
  refine WE.ret1 (P := Try.prog) (.inl rfl) Try.results4 rfl ?_
  exact fun w' h => ⟨rfl, h.frm⟩
theorem ClockLate_all (s : Bool) : Calls Try.prog 4 #[.int .i64 a, .int .i64 b, .int .i64 u, .bool s] w fun e w' => e = .returned (.bool true) ∧ Frm (fun _ => False) w w' := by
  cases s
  · by_cases h : b % 256 ≤ u % 512
    · exact ClockLate_2 w a b u h
    · exact ClockLate_3 w a b u h
  · exact ClockLate_1 w a b u
end
/-- So many names, each due at its own number. -/
def roomS (i : Nat) : List (Int × Int) := (List.range i).map fun k : Nat => ((k : Int), (k : Int))
theorem roomS_len (i : Nat) : (roomS i).length = i := by simp [roomS]
theorem roomS_succ (i : Nat) : roomS (i + 1) = roomS i ++ [((i : Int), (i : Int))] := by simp [roomS, List.range_succ]
theorem roomS_lt {i : Nat} {y : Int × Int} (h : y ∈ roomS i) : 0 ≤ y.1 ∧ y.1 < i := by
  obtain ⟨k, hk, rfl⟩ := List.mem_map.1 h
  have := List.mem_range.1 hk
  exact ⟨by omega, by omega⟩
theorem roomS_nodup (i : Nat) : ((roomS i).map (·.1)).Nodup := by
  unfold roomS
  rw [List.map_map]
  exact List.Pairwise.map _ (fun a b h => by simp only [Function.comp]; have : a ≠ b := h; omega) List.nodup_range
set_option maxHeartbeats 1000000 in
theorem ClockRoom_c (w : World) (n0 : Int) : Calls Try.prog 6 #[.int .i64 n0] w fun e w' => e = .returned (.bool true) ∧ Frm (fun _ => False) w w' := by
  obtain ⟨n, hn, hn2⟩ : ∃ n : Nat, n0 % 256 = n ∧ n < 256 := ⟨(n0 % 256).toNat, by omega, by omega⟩
  obtain ⟨A, B, hAB⟩ := List.append_of_mem (show ((n : Int), (n : Int)) ∈ roomS 256 from List.mem_map.2 ⟨n, List.mem_range.2 hn2, rfl⟩)
  have hlen : A.length + B.length = 255 := by have := roomS_len 256; rw [hAB] at this; simp at this; omega
  have hlt : ∀ y ∈ A ++ B, 0 ≤ y.1 ∧ y.1 < 256 := fun y hy => by
    have := roomS_lt (i := 256) (y := y) (by rw [hAB]; rcases List.mem_append.1 hy with h | h; exact List.mem_append_left _ h; exact List.mem_append_right _ (List.mem_cons_of_mem _ h))
    omega
  have hne : ∀ y ∈ A ++ B, y.1 ≠ n := fun y hy h => by
    have hd := roomS_nodup 256
    rw [hAB] at hd
    have hp : ((A ++ ((n : Int), (n : Int)) :: B).map (·.1)).Perm ((n : Int) :: (A ++ B).map (·.1)) := (List.perm_middle.map _)
    have := hp.nodup_iff.1 hd
    rw [List.nodup_cons] at this
    exact this.1 (List.mem_map.2 ⟨y, hy, h⟩)
  refine enter Try.func6 rfl Try.ntmps6 rfl (St.start (fun _ => False) w) ?_
  refine WC.seq ?_
  refine WC.region ?_
  refine WL.val (v_assign rfl rfl) (.none rfl) rfl rfl ?_
  refine WL.nil ?_
  refine WE.then_n ?_
  refine WC.seq ?_
  refine WC.seq ?_
  refine WC.region ?_
  refine WL.call rfl rfl ck_7 (.none rfl) rfl rfl ?_
  intro w hS
  refine Calls.then (ckhead_c w) hS ?_
  refine WL.val (v_not rfl rfl rfl) (.none rfl) rfl rfl ?_
  refine WL.nil ?_
  refine WE.then_n ?_
  refine WC.cond_f rfl ?_
  refine WC.skip ?_
  refine WE.then_n ?_
  refine WC.seq ?_
  refine WC.region ?_
  refine WL.val (v_move rfl rfl) (.none rfl) rfl rfl ?_
  refine WL.val ((v_and rfl rfl rfl (mask_i64' (i := 8) (m := 256) (by decide) (by decide) (by decide))).int hn) (.none rfl) rfl rfl ?_
  refine WL.val (v_assign rfl rfl) (.none rfl) rfl rfl ?_
  refine WL.nil ?_
  refine WE.then_n ?_
  refine WC.seq ?_
  refine WC.region ?_
  refine WL.call rfl rfl ck_8 (.none rfl) rfl rfl ?_
  intro w1 hS
  refine (New_b hS).mono ?_
  rintro e w' ⟨gC, d0, rfl, hb0, hS'⟩
  refine ⟨_, _, rfl, hS', ?_⟩
  refine WL.val (v_assign rfl rfl) (.none rfl) rfl rfl ?_
  refine WL.nil ?_
  refine WE.then_n ?_
  refine WC.seq ?_
  refine WC.seq ?_
  refine WC.region ?_
  refine WL.val (v_assign rfl rfl) (.none rfl) rfl rfl ?_
  refine WL.nil ?_
  refine WE.then_n ?_
  refine WC.block ?_
  refine WC.loop (fun x : Ck × Nat => [(4, .int .i64 x.2), (3, .pointer (some ⟨gC, 0, none⟩)), (0, .int .i64 n)]) (fun x => x.1.L gC 0 []) (fun x => Bag x.1 (roomS x.2) ∧ x.2 ≤ 256) (fun x => 256 - x.2) (d0, 0) ⟨hb0, Nat.zero_le _⟩ (.cons rfl (.cons rfl (.cons rfl .nil))) (.refl _) ?_
  rintro ⟨d, i⟩ ⟨hb, hi⟩
  dsimp only at hb hi
  dsimp only
  refine WC.seq ?_
  refine WC.seq ?_
  refine WC.region ?_
  refine WL.val (v_move rfl rfl) (.none rfl) rfl rfl ?_
  refine WL.test (v_lss rfl rfl rfl) (.none rfl) rfl rfl (fun h16 => ?_) (fun h16 => ?_)
  · -- 16T
    refine WL.nil ?_
    refine WE.then_n ?_
    refine WC.cond_t rfl ?_
    refine WC.skip ?_
    refine WE.then_n ?_
    refine WC.seq ?_
    refine WC.block ?_
    refine WC.seq ?_
    refine WC.region ?_
    refine WL.val (v_move rfl rfl) (.none rfl) rfl rfl ?_
    refine WL.val (v_move rfl rfl) (.none rfl) rfl rfl ?_
    refine WL.val (v_move rfl rfl) (.none rfl) rfl rfl ?_
    refine WL.call rfl rfl ck_9 (.none rfl) rfl rfl ?_
    intro w1 hS
    refine (Set_b hS hb i i (by omega) (by omega) (fun y hy => by have := roomS_lt hy; omega) (by rw [roomS_len]; omega)).mono ?_
    rintro e w' ⟨d', rfl, hb', hS'⟩
    rw [← roomS_succ] at hb'
    refine ⟨_, _, rfl, hS', ?_⟩
    refine WL.val ((v_neq rfl rfl rfl).f (by omega)) (.none rfl) rfl rfl ?_
    refine WL.nil ?_
    refine WE.then_n ?_
    refine WC.cond_f rfl ?_
    refine WC.skip ?_
    refine WE.block_n ?_
    refine WE.then_n ?_
    refine WC.region ?_
    refine WL.val (v_move rfl rfl) (.none rfl) rfl rfl ?_
    refine WL.val (v_add rfl rfl rfl (w_i64 (by omega) (by omega))) (.none rfl) rfl rfl ?_
    refine WL.val (v_assign rfl rfl) (.none rfl) rfl rfl ?_
    refine WL.nil ?_
    exact WE.next (d', i + 1) (by dsimp only; omega) ⟨hb', by dsimp only; omega⟩ (.int rfl (by dsimp only; omega) (.cons rfl (.cons rfl .nil))) (.refl _)
  · -- 16F
    refine WL.nil ?_
    refine WE.then_n ?_
    refine WC.cond_f rfl ?_
    refine WC.exit ?_
    refine WE.then_exit ?_
    refine WE.then_exit ?_
    refine WE.block_hit ?_
    refine WE.then_n ?_
    refine WC.seq ?_
    refine WC.region ?_
    refine WL.val (v_assign rfl rfl) (.none rfl) rfl rfl ?_
    refine WL.nil ?_
    refine WE.then_n ?_
    refine WC.seq ?_
    refine WC.region ?_
    refine WL.val (v_move rfl rfl) (.none rfl) rfl rfl ?_
    refine WL.call rfl rfl ck_14 (.none rfl) rfl rfl ?_
    intro w hS
    refine Calls.then (When_nil w 1) hS ?_
    refine WL.val (v_move rfl rfl) (.none rfl) rfl rfl ?_
    refine WL.val (v_extract rfl rfl rfl) (.none rfl) rfl rfl ?_
    refine WL.val (v_extract rfl rfl rfl) (.none rfl) rfl rfl ?_
    refine WL.val (v_assign rfl rfl) (.none rfl) rfl rfl ?_
    refine WL.val (v_assign rfl rfl) (.none rfl) rfl rfl ?_
    refine WL.nil ?_
    refine WE.then_n ?_
    refine WC.seq ?_
    refine WC.region ?_
    refine WL.val (v_move rfl rfl) (.none rfl) rfl rfl ?_
    refine WL.call rfl rfl ck_10 (.none rfl) rfl rfl ?_
    intro w hS
    refine Calls.then (Next_nil w 5) hS ?_
    refine WL.val (v_move rfl rfl) (.none rfl) rfl rfl ?_
    refine WL.val (v_extract rfl rfl rfl) (.none rfl) rfl rfl ?_
    refine WL.val (v_extract rfl rfl rfl) (.none rfl) rfl rfl ?_
    refine WL.val (v_assign rfl rfl) (.none rfl) rfl rfl ?_
    refine WL.val (v_assign rfl rfl) (.none rfl) rfl rfl ?_
    refine WL.nil ?_
    refine WE.then_n ?_
    refine WC.seq ?_
    refine WC.seq ?_
    refine WC.region ?_
    refine WL.val (v_move rfl rfl) (.none rfl) rfl rfl ?_
    refine WL.call rfl rfl ck_9 (.none rfl) rfl rfl ?_
    intro w hS
    refine Calls.then (Set_nil w 1 1) hS ?_
    refine WL.val ((v_neq rfl rfl rfl).f (by omega)) (.none rfl) rfl rfl ?_
    refine WL.val (v_move rfl rfl) (.none rfl) rfl rfl ?_
    refine WL.val (v_move rfl rfl) (.some rfl rfl rfl) rfl rfl ?_
    refine WL.call rfl rfl ck_13 (.some rfl rfl rfl) rfl rfl ?_
    intro w hS
    refine Calls.then (Stop_nil w 1) hS ?_
    refine WL.val (v_pick_f rfl rfl rfl) (.none rfl) rfl rfl ?_
    refine WL.val (v_move rfl rfl) (.none rfl) rfl rfl ?_
    refine WL.val (v_move rfl rfl) (.some rfl rfl rfl) rfl rfl ?_
    refine WL.val (v_pick_f rfl rfl rfl) (.none rfl) rfl rfl ?_
    refine WL.val (v_move rfl rfl) (.none rfl) rfl rfl ?_
    refine WL.val (v_move rfl rfl) (.some rfl rfl rfl) rfl rfl ?_
    refine WL.val (v_pick_f rfl rfl rfl) (.none rfl) rfl rfl ?_
    refine WL.val (v_move rfl rfl) (.none rfl) rfl rfl ?_
    refine WL.val (v_move rfl rfl) (.some rfl rfl rfl) rfl rfl ?_
    refine WL.call rfl rfl ck_11 (.some rfl rfl rfl) rfl rfl ?_
    intro w hS
    refine Calls.then (Now_nil w) hS ?_
    refine WL.val ((v_neq rfl rfl rfl).f (by omega)) (.some rfl rfl rfl) rfl rfl ?_
    refine WL.val (v_pick_f rfl rfl rfl) (.none rfl) rfl rfl ?_
    refine WL.val (v_move rfl rfl) (.none rfl) rfl rfl ?_
    refine WL.val (v_move rfl rfl) (.some rfl rfl rfl) rfl rfl ?_
    refine WL.call rfl rfl ck_12 (.some rfl rfl rfl) rfl rfl ?_
    intro w hS
    refine Calls.then (Len_nil w) hS ?_
    refine WL.val ((v_neq rfl rfl rfl).f (by omega)) (.some rfl rfl rfl) rfl rfl ?_
    refine WL.val (v_pick_f rfl rfl rfl) (.none rfl) rfl rfl ?_
    refine WL.nil ?_
    refine WE.then_n ?_
    refine WC.cond_f rfl ?_
    refine WC.skip ?_
    refine WE.then_n ?_
    refine WC.seq ?_
    refine WC.region ?_
    refine WL.val (v_move rfl rfl) (.none rfl) rfl rfl ?_
    refine WL.call rfl rfl ck_9 (.none rfl) rfl rfl ?_
    intro w hS
    refine Calls.then (Set_bf hS hb 999 1 (by omega) (by omega) (fun y hy => by have := roomS_lt hy; omega) (by rw [roomS_len]; omega)) hS ?_
    refine WL.val ((v_eql rfl rfl rfl).t (by omega)) (.none rfl) rfl rfl ?_
    refine WL.val (v_move rfl rfl) (.none rfl) rfl rfl ?_
    refine WL.val (v_move rfl rfl) (.some rfl rfl rfl) rfl rfl ?_
    refine WL.val (v_move rfl rfl) (.some rfl rfl rfl) rfl rfl ?_
    refine WL.call rfl rfl ck_9 (.some rfl rfl rfl) rfl rfl ?_
    intro w1 hS
    obtain rfl : i = 256 := (by omega)
    rw [hAB] at hb
    refine (Set_bo hS n 7 hb (by omega) (by omega)).mono ?_
    rintro e w' ⟨d2, rfl, hb2, hS'⟩
    refine ⟨_, _, rfl, hS', ?_⟩
    refine WL.val ((v_eql rfl rfl rfl).t (by omega)) (.some rfl rfl rfl) rfl rfl ?_
    refine WL.val (v_pick_t rfl rfl rfl) (.none rfl) rfl rfl ?_
    refine WL.val (v_move rfl rfl) (.none rfl) rfl rfl ?_
    refine WL.val (v_move rfl rfl) (.some rfl rfl rfl) rfl rfl ?_
    refine WL.val (v_move rfl rfl) (.some rfl rfl rfl) rfl rfl ?_
    refine WL.call rfl rfl ck_13 (.some rfl rfl rfl) rfl rfl ?_
    intro w1 hS
    refine (Stop_b hS n hb2).mono ?_
    rintro e w' ⟨d3, rfl, hb3, hS'⟩
    refine ⟨_, _, rfl, hS', ?_⟩
    refine WL.val (v_pick_t rfl rfl rfl) (.none rfl) rfl rfl ?_
    refine WL.val (v_move rfl rfl) (.none rfl) rfl rfl ?_
    refine WL.val (v_move rfl rfl) (.some rfl rfl rfl) rfl rfl ?_
    refine WL.val (v_move rfl rfl) (.some rfl rfl rfl) rfl rfl ?_
    refine WL.call rfl rfl ck_13 (.some rfl rfl rfl) rfl rfl ?_
    intro w hS
    refine Calls.then (Stop_bn hS hb3 n hne) hS ?_
    refine WL.val (v_not rfl rfl rfl) (.some rfl rfl rfl) rfl rfl ?_
    refine WL.val (v_pick_t rfl rfl rfl) (.none rfl) rfl rfl ?_
    refine WL.val (v_move rfl rfl) (.none rfl) rfl rfl ?_
    refine WL.val (v_move rfl rfl) (.some rfl rfl rfl) rfl rfl ?_
    refine WL.call rfl rfl ck_9 (.some rfl rfl rfl) rfl rfl ?_
    intro w1 hS
    refine (Set_b hS hb3 999 1 (by omega) (by omega) (fun y hy => by have := hlt y hy; omega) (by rw [List.length_append]; omega)).mono ?_
    rintro e w' ⟨d4, rfl, hb4, hS'⟩
    refine ⟨_, _, rfl, hS', ?_⟩
    refine WL.val ((v_eql rfl rfl rfl).t (by omega)) (.some rfl rfl rfl) rfl rfl ?_
    refine WL.val (v_pick_t rfl rfl rfl) (.none rfl) rfl rfl ?_
    refine WL.val (v_assign rfl rfl) (.none rfl) rfl rfl ?_
    refine WL.nil ?_
    refine WE.then_n ?_
    refine WC.ret ?_
    refine WE.ret1 (P := Try.prog) (.inl rfl) Try.results6 rfl ?_
    exact fun w' h => ⟨rfl, h.frm⟩
end Go.Proofs.Ytaoipmdddagngaa
