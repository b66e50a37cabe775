/- rules.Act.Cmp. -/
import Derived.Test.YtodaanhhnjkncaaDoorAct
namespace Go.Proofs.YtodaanhhnjkncaaDoor
open Go.RowKit

theorem isNaNI_c (w : World) (x : Int) : Calls Tryd.prog 78 #[.int .i64 x] w fun e w' => e = .returned (.bool false) ∧ Frm (fun _ => False) w w' := by
  refine enter Tryd.func78 rfl Tryd.ntmps78 rfl (St.start (fun _ => False) w) ?_
  refine WC.seq ?_
  refine WC.region ?_
  refine WL.val (v_assign rfl rfl) (.none rfl) rfl rfl ?_
  refine WL.nil ?_
  refine WE.then_n ?_
  refine WC.seq ?_
  refine WC.region ?_
  refine WL.val (v_move rfl rfl) (.none rfl) rfl rfl ?_
  refine WL.val (v_move rfl rfl) (.none rfl) rfl rfl ?_
  refine WL.val ((v_neq rfl rfl rfl).f (fun h => h rfl)) (.none rfl) rfl rfl ?_
  refine WL.val (v_assign rfl rfl) (.none rfl) rfl rfl ?_
  refine WL.nil ?_
  refine WE.then_n ?_
  refine WC.ret ?_
  refine WE.ret1 (P := Tryd.prog) (.inl rfl) Tryd.results78 rfl ?_
  exact fun w' h => ⟨rfl, h.frm⟩
theorem CmpI_c (w : World) (x y : Int) : Calls Tryd.prog 54 #[.int .i64 x, .int .i64 y] w fun e w' => e = .returned (.int .i64 (cmpI x y)) ∧ Frm (fun _ => False) w w' := by
  refine enter Tryd.func54 rfl Tryd.ntmps54 rfl (St.start (fun _ => False) w) ?_
  refine WC.seq ?_
  refine WC.region ?_
  refine WL.val (v_assign rfl rfl) (.none rfl) rfl rfl ?_
  refine WL.nil ?_
  refine WE.then_n ?_
  refine WC.seq ?_
  refine WC.region ?_
  refine WL.val (v_move rfl rfl) (.none rfl) rfl rfl ?_
  refine WL.call rfl rfl ck_78 (.none rfl) rfl rfl ?_
  intro w hS
  refine Calls.then (isNaNI_c w x) hS ?_
  refine WL.val (v_assign rfl rfl) (.none rfl) rfl rfl ?_
  refine WL.nil ?_
  refine WE.then_n ?_
  refine WC.seq ?_
  refine WC.region ?_
  refine WL.val (v_move rfl rfl) (.none rfl) rfl rfl ?_
  refine WL.call rfl rfl ck_78 (.none rfl) rfl rfl ?_
  intro w hS
  refine Calls.then (isNaNI_c w y) hS ?_
  refine WL.val (v_assign rfl rfl) (.none rfl) rfl rfl ?_
  refine WL.nil ?_
  refine WE.then_n ?_
  refine WC.seq ?_
  refine WC.seq ?_
  refine WC.region ?_
  refine WL.val (v_move rfl rfl) (.none rfl) rfl rfl ?_
  refine WL.nil ?_
  refine WE.then_n ?_
  refine WC.cond_f rfl ?_
  refine WC.skip ?_
  refine WE.then_n ?_
  refine WC.seq ?_
  refine WC.seq ?_
  refine WC.region ?_
  refine WL.val (v_move rfl rfl) (.none rfl) rfl rfl ?_
  refine WL.nil ?_
  refine WE.then_n ?_
  refine WC.cond_f rfl ?_
  refine WC.skip ?_
  refine WE.then_n ?_
  refine WC.seq ?_
  refine WC.seq ?_
  refine WC.region ?_
  refine WL.val (v_move rfl rfl) (.none rfl) rfl rfl ?_
  refine WL.val (v_move rfl rfl) (.none rfl) rfl rfl ?_
  refine WL.test (v_lss rfl rfl rfl) (.none rfl) rfl rfl (fun h16 => ?_) (fun h16 => ?_)
  · -- 16T
    refine WL.nil ?_
    refine WE.then_n ?_
    refine WC.cond_t rfl ?_
    refine WC.seq ?_
    refine WC.region ?_
    refine WL.val (v_assign rfl rfl) (.none rfl) rfl rfl ?_
    refine WL.nil ?_
    refine WE.then_n ?_
    refine WC.ret ?_
    refine WE.then_ret ?_
    refine WE.ret1 (P := Tryd.prog) (.inl rfl) Tryd.results54 rfl ?_
    exact fun w' h => ⟨by unfold cmpI; rw [if_pos h16], h.frm⟩
  · -- 16F
    refine WL.nil ?_
    refine WE.then_n ?_
    refine WC.cond_f rfl ?_
    refine WC.skip ?_
    refine WE.then_n ?_
    refine WC.seq ?_
    refine WC.seq ?_
    refine WC.region ?_
    refine WL.val (v_move rfl rfl) (.none rfl) rfl rfl ?_
    refine WL.val (v_move rfl rfl) (.none rfl) rfl rfl ?_
    refine WL.test (v_gtr rfl rfl rfl) (.none rfl) rfl rfl (fun h19 => ?_) (fun h19 => ?_)
    · -- 19T
      refine WL.nil ?_
      refine WE.then_n ?_
      refine WC.cond_t rfl ?_
      refine WC.seq ?_
      refine WC.region ?_
      refine WL.val (v_assign rfl rfl) (.none rfl) rfl rfl ?_
      refine WL.nil ?_
      refine WE.then_n ?_
      refine WC.ret ?_
      refine WE.then_ret ?_
      refine WE.ret1 (P := Tryd.prog) (.inl rfl) Tryd.results54 rfl ?_
      exact fun w' h => ⟨by unfold cmpI; rw [if_neg h16, if_pos h19], h.frm⟩
    · -- 19F
      refine WL.nil ?_
      refine WE.then_n ?_
      refine WC.cond_f rfl ?_
      refine WC.skip ?_
      refine WE.then_n ?_
      refine WC.seq ?_
      refine WC.region ?_
      refine WL.val (v_assign rfl rfl) (.none rfl) rfl rfl ?_
      refine WL.nil ?_
      refine WE.then_n ?_
      refine WC.ret ?_
      refine WE.ret1 (P := Tryd.prog) (.inl rfl) Tryd.results54 rfl ?_
      exact fun w' h => ⟨by unfold cmpI; rw [if_neg h16, if_neg h19], h.frm⟩
/-- The first that is not 0, of so many. -/
def lexK (f g : Nat → Int) : Nat → Int | 0 => 0 | k + 1 => if lexK f g k ≠ 0 then lexK f g k else cmpI (f k) (g k)
theorem lexK_stays {f g : Nat → Int} {k : Nat} (h : lexK f g k ≠ 0) : ∀ j, lexK f g (k + j) = lexK f g k
  | 0 => rfl
  | j + 1 => by
    have := lexK_stays h j
    show (if lexK f g (k + j) ≠ 0 then lexK f g (k + j) else _) = _
    rw [this, if_pos h]
theorem SCmp_c (w : World) (b b' o o' : Nat) (f g : Nat → Int) (hf : ∀ i, i < 9 → w.cell? ⟨b, o + i * 1, none⟩ = some (.int .u64 (f i))) (hg : ∀ i, i < 9 → w.cell? ⟨b', o' + i * 1, none⟩ = some (.int .u64 (g i))) :
    Calls Tryd.prog 55 #[.slice (some ⟨b, o, none⟩) 9 9, .slice (some ⟨b', o', none⟩) 9 9] w fun e w' => e = .returned (.int .i64 (lexK f g 9)) ∧ Frm (fun _ => False) w w' := by
  refine enter Tryd.func55 rfl Tryd.ntmps55 rfl (St.start (fun _ => False) w) ?_
  refine WC.seq ?_
  refine WC.region ?_
  refine WL.val (v_assign rfl rfl) (.none rfl) rfl rfl ?_
  refine WL.nil ?_
  refine WE.then_n ?_
  refine WC.seq ?_
  refine WC.seq ?_
  refine WC.region ?_
  refine WL.val (v_move rfl rfl) (.none rfl) rfl rfl ?_
  refine WL.val (v_len_slice rfl rfl Tryd.underlying111) (.none rfl) rfl rfl ?_
  refine WL.val (v_move rfl rfl) (.none rfl) rfl rfl ?_
  refine WL.nil ?_
  refine WE.then_n ?_
  refine WC.block ?_
  refine WC.loop (fun k : Nat => [(11, .int .i64 k), (10, .int .i64 9), (9, .slice (some ⟨b, o, none⟩) 9 9), (1, .slice (some ⟨b', o', none⟩) 9 9), (0, .slice (some ⟨b, o, none⟩) 9 9)]) (fun _ => []) (fun k => k ≤ 9 ∧ lexK f g k = 0) (fun k => 9 - k) 0 ⟨Nat.zero_le _, rfl⟩ (.cons rfl (.cons rfl (.cons rfl (.cons rfl (.cons rfl .nil))))) (.refl _) ?_
  rintro k ⟨hk, h0⟩
  refine WC.seq ?_
  refine WC.region ?_
  refine WL.test (v_lss rfl rfl rfl) (.none rfl) rfl rfl (fun h12 => ?_) (fun h12 => ?_)
  · -- 12T
    refine WL.nil ?_
    refine WE.then_n ?_
    refine WC.seq ?_
    refine WC.cond_t rfl ?_
    refine WC.skip ?_
    refine WE.then_n ?_
    refine WC.seq ?_
    refine WC.block ?_
    refine WC.seq ?_
    refine WC.region ?_
    refine WL.val (v_move rfl rfl) (.none rfl) rfl rfl ?_
    refine WL.val (v_indexAddr (lo := k) rfl rfl rfl Tryd.underlying111 sz_22 (by omega) (by omega)) (.none rfl) rfl rfl ?_
    refine WL.val (v_load1 rfl rfl one_22 (cellOld (fun h => h) (hf k (by omega)))) (.none rfl) rfl rfl ?_
    refine WL.val (v_assign rfl rfl) (.none rfl) rfl rfl ?_
    refine WL.val (v_assign rfl rfl) (.none rfl) rfl rfl ?_
    refine WL.nil ?_
    refine WE.then_n ?_
    refine WC.seq ?_
    refine WC.seq ?_
    refine WC.region ?_
    refine WL.val (v_move rfl rfl) (.none rfl) rfl rfl ?_
    refine WL.val (v_move rfl rfl) (.none rfl) rfl rfl ?_
    refine WL.val (v_len_slice rfl rfl Tryd.underlying111) (.none rfl) rfl rfl ?_
    refine WL.val ((v_geq rfl rfl rfl).f (by omega)) (.none rfl) rfl rfl ?_
    refine WL.nil ?_
    refine WE.then_n ?_
    refine WC.cond_f rfl ?_
    refine WC.skip ?_
    refine WE.then_n ?_
    refine WC.seq ?_
    refine WC.region ?_
    refine WL.val (v_move rfl rfl) (.none rfl) rfl rfl ?_
    refine WL.val (v_move rfl rfl) (.none rfl) rfl rfl ?_
    refine WL.val (v_indexAddr (lo := k) rfl rfl rfl Tryd.underlying111 sz_22 (by omega) (by omega)) (.none rfl) rfl rfl ?_
    refine WL.val (v_load1 rfl rfl one_22 (cellOld (fun h => h) (hg k (by omega)))) (.none rfl) rfl rfl ?_
    refine WL.val (v_assign rfl rfl) (.none rfl) rfl rfl ?_
    refine WL.nil ?_
    refine WE.then_n ?_
    refine WC.seq ?_
    refine WC.region ?_
    refine WL.val (v_move rfl rfl) (.none rfl) rfl rfl ?_
    refine WL.val (v_move rfl rfl) (.none rfl) rfl rfl ?_
    refine WL.call rfl rfl ck_79 (.none rfl) rfl rfl ?_
    intro w hS
    refine Calls.then (CmpU_c w (f k) (g k)) hS ?_
    refine WL.val (v_assign rfl rfl) (.none rfl) rfl rfl ?_
    refine WL.nil ?_
    refine WE.then_n ?_
    refine WC.seq ?_
    refine WC.region ?_
    refine WL.val (v_move rfl rfl) (.none rfl) rfl rfl ?_
    refine WL.test (v_neq rfl rfl rfl) (.none rfl) rfl rfl (fun h28 => ?_) (fun h28 => ?_)
    · -- 28T
      refine WL.nil ?_
      refine WE.then_n ?_
      refine WC.cond_t rfl ?_
      refine WC.seq ?_
      refine WC.region ?_
      refine WL.val (v_move rfl rfl) (.none rfl) rfl rfl ?_
      refine WL.val (v_assign rfl rfl) (.none rfl) rfl rfl ?_
      refine WL.nil ?_
      refine WE.then_n ?_
      refine WC.ret ?_
      refine WE.block_ret ?_
      refine WE.then_ret ?_
      refine WE.then_ret ?_
      refine WE.block_ret ?_
      refine WE.then_ret ?_
      refine WE.ret1 (P := Tryd.prog) (.inl rfl) Tryd.results55 rfl ?_
      have e1 : lexK f g (k + 1) = cmpI (f k) (g k) := (by show (if _ then _ else _) = _; rw [if_neg (by omega)])
      have e2 := lexK_stays (f := f) (g := g) (k := k + 1) (by rw [e1]; exact h28) (8 - k)
      rw [show k + 1 + (8 - k) = 9 by omega] at e2
      exact fun w' h => ⟨by rw [e2, e1], h.frm⟩
    · -- 28F
      refine WL.nil ?_
      refine WE.then_n ?_
      refine WC.cond_f rfl ?_
      refine WC.skip ?_
      refine WE.block_n ?_
      refine WE.then_n ?_
      refine WC.region ?_
      refine WL.val (v_add rfl rfl rfl (w_i64 (by omega) (by omega))) (.none rfl) rfl rfl ?_
      refine WL.val (v_move rfl rfl) (.none rfl) rfl rfl ?_
      refine WL.nil ?_
      exact WE.next (k + 1) (by omega) ⟨by omega, by show (if _ then _ else _) = _; rw [if_neg (by omega)]; exact Classical.not_not.1 h28⟩ (.int rfl (by omega) (.cons rfl (.cons rfl (.cons rfl (.cons rfl .nil))))) (.refl _)
  · -- 12F
    refine WL.nil ?_
    refine WE.then_n ?_
    refine WC.seq ?_
    refine WC.cond_f rfl ?_
    refine WC.exit ?_
    refine WE.then_exit ?_
    refine WE.then_exit ?_
    refine WE.block_hit ?_
    refine WE.then_n ?_
    refine WC.seq ?_
    refine WC.seq ?_
    refine WC.region ?_
    refine WL.val (v_move rfl rfl) (.none rfl) rfl rfl ?_
    refine WL.val (v_len_slice rfl rfl Tryd.underlying111) (.none rfl) rfl rfl ?_
    refine WL.val (v_move rfl rfl) (.none rfl) rfl rfl ?_
    refine WL.val (v_len_slice rfl rfl Tryd.underlying111) (.none rfl) rfl rfl ?_
    refine WL.val ((v_lss rfl rfl rfl).f (by omega)) (.none rfl) rfl rfl ?_
    refine WL.nil ?_
    refine WE.then_n ?_
    refine WC.cond_f rfl ?_
    refine WC.skip ?_
    refine WE.then_n ?_
    refine WC.seq ?_
    refine WC.region ?_
    refine WL.val (v_assign rfl rfl) (.none rfl) rfl rfl ?_
    refine WL.nil ?_
    refine WE.then_n ?_
    refine WC.ret ?_
    refine WE.ret1 (P := Tryd.prog) (.inl rfl) Tryd.results55 rfl ?_
    obtain rfl : k = 9 := (by omega)
    exact fun w' h => ⟨by rw [h0], h.frm⟩
theorem Or_c (w : World) (b : Nat) (x y : Int) (hx : w.cell? ⟨b, 0, none⟩ = some (.int .i64 x)) (hy : w.cell? ⟨b, 1, none⟩ = some (.int .i64 y)) :
    Calls Tryd.prog 53 #[.slice (some ⟨b, 0, none⟩) 2 2] w fun e w' => e = .returned (.int .i64 (if x ≠ 0 then x else y)) ∧ Frm (fun _ => False) w w' := by
  refine enter Tryd.func53 rfl Tryd.ntmps53 rfl (St.start (fun _ => False) w) ?_
  refine WC.seq ?_
  refine WC.region ?_
  refine WL.val (v_assign rfl rfl) (.none rfl) rfl rfl ?_
  refine WL.nil ?_
  refine WE.then_n ?_
  refine WC.seq ?_
  refine WC.region ?_
  refine WL.val (v_assign rfl rfl) (.none rfl) rfl rfl ?_
  refine WL.nil ?_
  refine WE.then_n ?_
  refine WC.seq ?_
  refine WC.seq ?_
  refine WC.region ?_
  refine WL.val (v_move rfl rfl) (.none rfl) rfl rfl ?_
  refine WL.val (v_len_slice rfl rfl Tryd.underlying77) (.none rfl) rfl rfl ?_
  refine WL.val (v_move rfl rfl) (.none rfl) rfl rfl ?_
  refine WL.nil ?_
  refine WE.then_n ?_
  refine WC.block ?_
  refine WC.loop (fun k : Nat => [(8, .int .i64 k), (7, .int .i64 2), (6, .slice (some ⟨b, 0, none⟩) 2 2), (3, .int .i64 0)]) (fun _ => []) (fun k => k ≤ 2 ∧ (1 ≤ k → x = 0) ∧ (2 ≤ k → y = 0)) (fun k => 2 - k) 0 ⟨Nat.zero_le _, by omega, by omega⟩ (.cons rfl (.cons rfl (.cons rfl (.cons rfl .nil)))) (.refl _) ?_
  rintro k ⟨hk, h1, h2⟩
  have hz : ∀ j, j < 2 → w.cell? ⟨b, 0 + j * 1, none⟩ = some (.int .i64 (if j = 0 then x else y)) := (by
    intro j hj
    match j, hj with
    | 0, _ => exact hx
    | 1, _ => exact hy)
  refine WC.seq ?_
  refine WC.region ?_
  refine WL.test (v_lss rfl rfl rfl) (.none rfl) rfl rfl (fun h9 => ?_) (fun h9 => ?_)
  · -- 9T
    refine WL.nil ?_
    refine WE.then_n ?_
    refine WC.seq ?_
    refine WC.cond_t rfl ?_
    refine WC.skip ?_
    refine WE.then_n ?_
    refine WC.seq ?_
    refine WC.block ?_
    refine WC.seq ?_
    refine WC.region ?_
    refine WL.val (v_indexAddr (lo := k) rfl rfl rfl Tryd.underlying77 sz_3 (by omega) (by omega)) (.none rfl) rfl rfl ?_
    refine WL.val (v_load1 rfl rfl one_3 (cellOld (fun h => h) (hz k (by omega)))) (.none rfl) rfl rfl ?_
    refine WL.val (v_assign rfl rfl) (.none rfl) rfl rfl ?_
    refine WL.nil ?_
    refine WE.then_n ?_
    refine WC.seq ?_
    refine WC.region ?_
    refine WL.val (v_move rfl rfl) (.none rfl) rfl rfl ?_
    refine WL.val (v_move rfl rfl) (.none rfl) rfl rfl ?_
    refine WL.test (v_neq rfl rfl rfl) (.none rfl) rfl rfl (fun h14 => ?_) (fun h14 => ?_)
    · -- 14T
      refine WL.nil ?_
      refine WE.then_n ?_
      refine WC.cond_t rfl ?_
      refine WC.seq ?_
      refine WC.region ?_
      refine WL.val (v_move rfl rfl) (.none rfl) rfl rfl ?_
      refine WL.val (v_assign rfl rfl) (.none rfl) rfl rfl ?_
      refine WL.nil ?_
      refine WE.then_n ?_
      refine WC.ret ?_
      refine WE.block_ret ?_
      refine WE.then_ret ?_
      refine WE.then_ret ?_
      refine WE.block_ret ?_
      refine WE.then_ret ?_
      refine WE.ret1 (P := Tryd.prog) (.inl rfl) Tryd.results53 rfl ?_
      have e2 : (if x ≠ 0 then x else y) = (if k = 0 then x else y) := (by
        by_cases e : k = 0
        · rw [if_pos e] at h14 ⊢; rw [if_pos h14]
        · rw [if_neg e, if_neg (fun q => q (h1 (by omega)))])
      exact fun w' h => ⟨by rw [e2], h.frm⟩
    · -- 14F
      refine WL.nil ?_
      refine WE.then_n ?_
      refine WC.cond_f rfl ?_
      refine WC.skip ?_
      refine WE.block_n ?_
      refine WE.then_n ?_
      refine WC.region ?_
      refine WL.val (v_add rfl rfl rfl (w_i64 (by omega) (by omega))) (.none rfl) rfl rfl ?_
      refine WL.val (v_move rfl rfl) (.none rfl) rfl rfl ?_
      refine WL.nil ?_
      exact WE.next (k + 1) (by omega) ⟨by omega, fun _ => by by_cases e : k = 0; (rw [if_pos e] at h14; exact Classical.not_not.1 h14); exact h1 (by omega), fun _ => by rw [if_neg (by omega)] at h14; exact Classical.not_not.1 h14⟩ (.int rfl (by omega) (.cons rfl (.cons rfl (.cons rfl .nil)))) (.refl _)
  · -- 9F
    refine WL.nil ?_
    refine WE.then_n ?_
    refine WC.seq ?_
    refine WC.cond_f rfl ?_
    refine WC.exit ?_
    refine WE.then_exit ?_
    refine WE.then_exit ?_
    refine WE.block_hit ?_
    refine WE.then_n ?_
    refine WC.seq ?_
    refine WC.region ?_
    refine WL.val (v_move rfl rfl) (.none rfl) rfl rfl ?_
    refine WL.val (v_assign rfl rfl) (.none rfl) rfl rfl ?_
    refine WL.nil ?_
    refine WE.then_n ?_
    refine WC.ret ?_
    refine WE.ret1 (P := Tryd.prog) (.inl rfl) Tryd.results53 rfl ?_
    exact fun w' h => ⟨by rw [h1 (by omega), h2 (by omega)]; rfl, h.frm⟩
def acmp (a b : Ac) : Int := if cmpI a.set b.set ≠ 0 then cmpI a.set b.set else lexK a.val b.val 9
theorem ACmp_c (w : World) (a b : Ac) :
    Calls Tryd.prog 18 #[acV a, acV b] w fun e w' => e = .returned (.int .i64 (acmp a b)) ∧ Frm (fun _ => False) w w' := by
  refine enter Tryd.func18 rfl Tryd.ntmps18 rfl (St.start (fun _ => False) w) ?_
  refine WC.seq ?_
  refine WC.region ?_
  refine WL.box rfl rfl rfl (.none rfl) rfl rfl ?_
  intro g2 hg2
  refine WL.box rfl rfl rfl (.none rfl) rfl rfl ?_
  intro g3 hg3
  refine WL.val (v_assign rfl rfl) (.none rfl) rfl rfl ?_
  refine WL.nil ?_
  refine WE.then_n ?_
  refine WC.seq ?_
  refine WC.orders mixed ?_
  refine WR.first (g := 7) [0, 2, 5, 6, 7, 8] (by kernel_rfl) (by kernel_rfl) ?_
  refine WP.val (v_fieldAddr0 rfl rfl fld_25_0) (.none rfl) rfl rfl ?_
  refine WP.val (v_fieldAddr0 rfl rfl fld_25_0) (.none rfl) rfl rfl ?_
  refine WP.val (v_fieldAddr0 rfl rfl fld_25_1) (.none rfl) rfl rfl ?_
  refine WP.val (v_slice_arr rfl rfl Tryd.underlying23 sz_22) (.none rfl) rfl rfl ?_
  refine WP.val (v_fieldAddr0 rfl rfl fld_25_1) (.none rfl) rfl rfl ?_
  refine WP.val (v_slice_arr rfl rfl Tryd.underlying23 sz_22) (.none rfl) rfl rfl ?_
  refine WP.nil ?_
  refine WR.read (g := 3) [1, 3, 4, 9] (by kernel_rfl) (by kernel_rfl) (by kernel_rfl) (by kernel_rfl) rfl ?_
  refine WQ.val (v_load1 rfl rfl one_3 (cellAt rfl)) (.none rfl) rfl rfl ?_
  refine WQ.val (v_load1 rfl rfl one_3 (cellAt rfl)) (.none rfl) rfl rfl ?_
  refine WQ.call _ rfl rfl ck_54 (.none rfl) rfl rfl (fun w hS => Calls.still (CmpI_c w a.set b.set) hS) ?_
  refine WQ.call _ rfl rfl ck_55 (.none rfl) rfl rfl (fun w hS => Calls.still (SCmp_c w _ _ _ _ a.val b.val (fun i hi => hS.cell (acL_get a hi)) (fun i hi => hS.cell (acL_get b hi))) hS) ?_
  refine WQ.nilR ?_
  refine WR.ones (g := 2) [10] (by kernel_rfl) ?_
  refine WL.buildSlice rfl rfl Tryd.underlying77 sz_3 zero_3 rfl (by decide) rfl (.none rfl) rfl rfl ?_
  intro g15 hg15
  refine WL.nilR ?_
  refine WR.read (g := 0) [11, 12] (by kernel_rfl) (by kernel_rfl) (by kernel_rfl) (by kernel_rfl) rfl ?_
  refine WQ.call _ rfl rfl ck_53 (.none rfl) rfl rfl (fun w hS => Calls.still (Or_c w _ _ _ (hS.cell rfl) (hS.cell rfl)) hS) ?_
  refine WQ.val (v_assign rfl rfl) (.none rfl) rfl rfl ?_
  refine WQ.nilR ?_
  refine WR.done (by kernel_rfl) ?_
  refine WE.then_n ?_
  refine WC.ret ?_
  refine WE.ret1 (P := Tryd.prog) (.inl rfl) Tryd.results18 rfl ?_
  exact fun w' h => ⟨rfl, h.frm⟩
end Go.Proofs.YtodaanhhnjkncaaDoor
