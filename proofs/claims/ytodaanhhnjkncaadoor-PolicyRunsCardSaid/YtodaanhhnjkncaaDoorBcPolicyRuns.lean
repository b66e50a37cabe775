/- Texts joined: engine, contracts and laws, in the order in which they build. -/
import Derived.Test.YtodaanhhnjkncaaDoorBbPolicyRuns
/- rules.Act.Cmp. -/
namespace Go.Proofs.YtodaanhhnjkncaaDoor
open Go.RowKit

theorem isNaNI_c (w : World) (x : Int) : Calls Tryd.prog 78 #[.int .i64 x] w fun e w' => e = .returned (.bool false) ∧ Frm (fun _ => False) w w' := by
  refine enter Tryd.func78 rfl Tryd.ntmps78 rfl (St.start (fun _ => False) w) ?_
  refine WC.seq ?_
  refine WC.region ?_
  refine WL.val (v_assign rfl rfl) (.none rfl) rfl rfl ?_
  refine WL.nil ?_
  refine WE.then_n ?_
  refine WC.seq ?_
  refine WC.region ?_
  refine WL.val (v_move rfl rfl) (.none rfl) rfl rfl ?_
  refine WL.val (v_move rfl rfl) (.none rfl) rfl rfl ?_
  refine WL.val ((v_neq rfl rfl rfl).f (fun h => h rfl)) (.none rfl) rfl rfl ?_
  refine WL.val (v_assign rfl rfl) (.none rfl) rfl rfl ?_
  refine WL.nil ?_
  refine WE.then_n ?_
  refine WC.ret ?_
  refine WE.ret1 (P := Tryd.prog) (.inl rfl) Tryd.results78 rfl ?_
  exact fun w' h => ⟨rfl, h.frm⟩
theorem CmpI_c (w : World) (x y : Int) : Calls Tryd.prog 54 #[.int .i64 x, .int .i64 y] w fun e w' => e = .returned (.int .i64 (cmpI x y)) ∧ Frm (fun _ => False) w w' := by
  refine enter Tryd.func54 rfl Tryd.ntmps54 rfl (St.start (fun _ => False) w) ?_
  refine WC.seq ?_
  refine WC.region ?_
  refine WL.val (v_assign rfl rfl) (.none rfl) rfl rfl ?_
  refine WL.nil ?_
  refine WE.then_n ?_
  refine WC.seq ?_
  refine WC.region ?_
  refine WL.val (v_move rfl rfl) (.none rfl) rfl rfl ?_
  refine WL.call rfl rfl ck_78 (.none rfl) rfl rfl ?_
  intro w hS
  refine Calls.then (isNaNI_c w x) hS ?_
  refine WL.val (v_assign rfl rfl) (.none rfl) rfl rfl ?_
  refine WL.nil ?_
  refine WE.then_n ?_
  refine WC.seq ?_
  refine WC.region ?_
  refine WL.val (v_move rfl rfl) (.none rfl) rfl rfl ?_
  refine WL.call rfl rfl ck_78 (.none rfl) rfl rfl ?_
  intro w hS
  refine Calls.then (isNaNI_c w y) hS ?_
  refine WL.val (v_assign rfl rfl) (.none rfl) rfl rfl ?_
  refine WL.nil ?_
  refine WE.then_n ?_
  refine WC.seq ?_
  refine WC.seq ?_
  refine WC.region ?_
  refine WL.val (v_move rfl rfl) (.none rfl) rfl rfl ?_
  refine WL.nil ?_
  refine WE.then_n ?_
  refine WC.cond_f rfl ?_
  refine WC.skip ?_
  refine WE.then_n ?_
  refine WC.seq ?_
  refine WC.seq ?_
  refine WC.region ?_
  refine WL.val (v_move rfl rfl) (.none rfl) rfl rfl ?_
  refine WL.nil ?_
  refine WE.then_n ?_
  refine WC.cond_f rfl ?_
  refine WC.skip ?_
  refine WE.then_n ?_
  refine WC.seq ?_
  refine WC.seq ?_
  refine WC.region ?_
  refine WL.val (v_move rfl rfl) (.none rfl) rfl rfl ?_
  refine WL.val (v_move rfl rfl) (.none rfl) rfl rfl ?_
  refine WL.test (v_lss rfl rfl rfl) (.none rfl) rfl rfl (fun h16 => ?_) (fun h16 => ?_)
  · -- 16T
    refine WL.nil ?_
    refine WE.then_n ?_
    refine WC.cond_t rfl ?_
    refine WC.seq ?_
    refine WC.region ?_
    refine WL.val (v_assign rfl rfl) (.none rfl) rfl rfl ?_
    refine WL.nil ?_
    refine WE.then_n ?_
    refine WC.ret ?_
    refine WE.then_ret ?_
    refine WE.ret1 (P := Tryd.prog) (.inl rfl) Tryd.results54 rfl ?_
    exact fun w' h => ⟨by unfold cmpI; rw [if_pos h16], h.frm⟩
  · -- 16F
    refine WL.nil ?_
    refine WE.then_n ?_
    refine WC.cond_f rfl ?_
    refine WC.skip ?_
    refine WE.then_n ?_
    refine WC.seq ?_
    refine WC.seq ?_
    refine WC.region ?_
    refine WL.val (v_move rfl rfl) (.none rfl) rfl rfl ?_
    refine WL.val (v_move rfl rfl) (.none rfl) rfl rfl ?_
    refine WL.test (v_gtr rfl rfl rfl) (.none rfl) rfl rfl (fun h19 => ?_) (fun h19 => ?_)
    · -- 19T
      refine WL.nil ?_
      refine WE.then_n ?_
      refine WC.cond_t rfl ?_
      refine WC.seq ?_
      refine WC.region ?_
      refine WL.val (v_assign rfl rfl) (.none rfl) rfl rfl ?_
      refine WL.nil ?_
      refine WE.then_n ?_
      refine WC.ret ?_
      refine WE.then_ret ?_
      refine WE.ret1 (P := Tryd.prog) (.inl rfl) Tryd.results54 rfl ?_
      exact fun w' h => ⟨by unfold cmpI; rw [if_neg h16, if_pos h19], h.frm⟩
    · -- 19F
      refine WL.nil ?_
      refine WE.then_n ?_
      refine WC.cond_f rfl ?_
      refine WC.skip ?_
      refine WE.then_n ?_
      refine WC.seq ?_
      refine WC.region ?_
      refine WL.val (v_assign rfl rfl) (.none rfl) rfl rfl ?_
      refine WL.nil ?_
      refine WE.then_n ?_
      refine WC.ret ?_
      refine WE.ret1 (P := Tryd.prog) (.inl rfl) Tryd.results54 rfl ?_
      exact fun w' h => ⟨by unfold cmpI; rw [if_neg h16, if_neg h19], h.frm⟩
/-- The first that is not 0, of so many. -/
def lexK (f g : Nat → Int) : Nat → Int | 0 => 0 | k + 1 => if lexK f g k ≠ 0 then lexK f g k else cmpI (f k) (g k)
theorem lexK_stays {f g : Nat → Int} {k : Nat} (h : lexK f g k ≠ 0) : ∀ j, lexK f g (k + j) = lexK f g k
  | 0 => rfl
  | j + 1 => by
    have := lexK_stays h j
    show (if lexK f g (k + j) ≠ 0 then lexK f g (k + j) else _) = _
    rw [this, if_pos h]
theorem SCmp_c (w : World) (b b' o o' : Nat) (f g : Nat → Int) (hf : ∀ i, i < 9 → w.cell? ⟨b, o + i * 1, none⟩ = some (.int .u64 (f i))) (hg : ∀ i, i < 9 → w.cell? ⟨b', o' + i * 1, none⟩ = some (.int .u64 (g i))) :
    Calls Tryd.prog 55 #[.slice (some ⟨b, o, none⟩) 9 9, .slice (some ⟨b', o', none⟩) 9 9] w fun e w' => e = .returned (.int .i64 (lexK f g 9)) ∧ Frm (fun _ => False) w w' := by
  refine enter Tryd.func55 rfl Tryd.ntmps55 rfl (St.start (fun _ => False) w) ?_
  refine WC.seq ?_
  refine WC.region ?_
  refine WL.val (v_assign rfl rfl) (.none rfl) rfl rfl ?_
  refine WL.nil ?_
  refine WE.then_n ?_
  refine WC.seq ?_
  refine WC.seq ?_
  refine WC.region ?_
  refine WL.val (v_move rfl rfl) (.none rfl) rfl rfl ?_
  refine WL.val (v_len_slice rfl rfl Tryd.underlying111) (.none rfl) rfl rfl ?_
  refine WL.val (v_move rfl rfl) (.none rfl) rfl rfl ?_
  refine WL.nil ?_
  refine WE.then_n ?_
  refine WC.block ?_
  refine WC.loop (fun k : Nat => [(11, .int .i64 k), (10, .int .i64 9), (9, .slice (some ⟨b, o, none⟩) 9 9), (1, .slice (some ⟨b', o', none⟩) 9 9), (0, .slice (some ⟨b, o, none⟩) 9 9)]) (fun _ => []) (fun k => k ≤ 9 ∧ lexK f g k = 0) (fun k => 9 - k) 0 ⟨Nat.zero_le _, rfl⟩ (.cons rfl (.cons rfl (.cons rfl (.cons rfl (.cons rfl .nil))))) (.refl _) ?_
  rintro k ⟨hk, h0⟩
  refine WC.seq ?_
  refine WC.region ?_
  refine WL.test (v_lss rfl rfl rfl) (.none rfl) rfl rfl (fun h12 => ?_) (fun h12 => ?_)
  · -- 12T
    refine WL.nil ?_
    refine WE.then_n ?_
    refine WC.seq ?_
    refine WC.cond_t rfl ?_
    refine WC.skip ?_
    refine WE.then_n ?_
    refine WC.seq ?_
    refine WC.block ?_
    refine WC.seq ?_
    refine WC.region ?_
    refine WL.val (v_move rfl rfl) (.none rfl) rfl rfl ?_
    refine WL.val (v_indexAddr (lo := k) rfl rfl rfl Tryd.underlying111 sz_22 (by omega) (by omega)) (.none rfl) rfl rfl ?_
    refine WL.val (v_load1 rfl rfl one_22 (cellOld (fun h => h) (hf k (by omega)))) (.none rfl) rfl rfl ?_
    refine WL.val (v_assign rfl rfl) (.none rfl) rfl rfl ?_
    refine WL.val (v_assign rfl rfl) (.none rfl) rfl rfl ?_
    refine WL.nil ?_
    refine WE.then_n ?_
    refine WC.seq ?_
    refine WC.seq ?_
    refine WC.region ?_
    refine WL.val (v_move rfl rfl) (.none rfl) rfl rfl ?_
    refine WL.val (v_move rfl rfl) (.none rfl) rfl rfl ?_
    refine WL.val (v_len_slice rfl rfl Tryd.underlying111) (.none rfl) rfl rfl ?_
    refine WL.val ((v_geq rfl rfl rfl).f (by omega)) (.none rfl) rfl rfl ?_
    refine WL.nil ?_
    refine WE.then_n ?_
    refine WC.cond_f rfl ?_
    refine WC.skip ?_
    refine WE.then_n ?_
    refine WC.seq ?_
    refine WC.region ?_
    refine WL.val (v_move rfl rfl) (.none rfl) rfl rfl ?_
    refine WL.val (v_move rfl rfl) (.none rfl) rfl rfl ?_
    refine WL.val (v_indexAddr (lo := k) rfl rfl rfl Tryd.underlying111 sz_22 (by omega) (by omega)) (.none rfl) rfl rfl ?_
    refine WL.val (v_load1 rfl rfl one_22 (cellOld (fun h => h) (hg k (by omega)))) (.none rfl) rfl rfl ?_
    refine WL.val (v_assign rfl rfl) (.none rfl) rfl rfl ?_
    refine WL.nil ?_
    refine WE.then_n ?_
    refine WC.seq ?_
    refine WC.region ?_
    refine WL.val (v_move rfl rfl) (.none rfl) rfl rfl ?_
    refine WL.val (v_move rfl rfl) (.none rfl) rfl rfl ?_
    refine WL.call rfl rfl ck_79 (.none rfl) rfl rfl ?_
    intro w hS
    refine Calls.then (CmpU_c w (f k) (g k)) hS ?_
    refine WL.val (v_assign rfl rfl) (.none rfl) rfl rfl ?_
    refine WL.nil ?_
    refine WE.then_n ?_
    refine WC.seq ?_
    refine WC.region ?_
    refine WL.val (v_move rfl rfl) (.none rfl) rfl rfl ?_
    refine WL.test (v_neq rfl rfl rfl) (.none rfl) rfl rfl (fun h28 => ?_) (fun h28 => ?_)
    · -- 28T
      refine WL.nil ?_
      refine WE.then_n ?_
      refine WC.cond_t rfl ?_
      refine WC.seq ?_
      refine WC.region ?_
      refine WL.val (v_move rfl rfl) (.none rfl) rfl rfl ?_
      refine WL.val (v_assign rfl rfl) (.none rfl) rfl rfl ?_
      refine WL.nil ?_
      refine WE.then_n ?_
      refine WC.ret ?_
      refine WE.block_ret ?_
      refine WE.then_ret ?_
      refine WE.then_ret ?_
      refine WE.block_ret ?_
      refine WE.then_ret ?_
      refine WE.ret1 (P := Tryd.prog) (.inl rfl) Tryd.results55 rfl ?_
      have e1 : lexK f g (k + 1) = cmpI (f k) (g k) := (by show (if _ then _ else _) = _; rw [if_neg (by omega)])
      have e2 := lexK_stays (f := f) (g := g) (k := k + 1) (by rw [e1]; exact h28) (8 - k)
      rw [show k + 1 + (8 - k) = 9 by omega] at e2
      exact fun w' h => ⟨by rw [e2, e1], h.frm⟩
    · -- 28F
      refine WL.nil ?_
      refine WE.then_n ?_
      refine WC.cond_f rfl ?_
      refine WC.skip ?_
      refine WE.block_n ?_
      refine WE.then_n ?_
      refine WC.region ?_
      refine WL.val (v_add rfl rfl rfl (w_i64 (by omega) (by omega))) (.none rfl) rfl rfl ?_
      refine WL.val (v_move rfl rfl) (.none rfl) rfl rfl ?_
      refine WL.nil ?_
      exact WE.next (k + 1) (by omega) ⟨by omega, by show (if _ then _ else _) = _; rw [if_neg (by omega)]; exact Classical.not_not.1 h28⟩ (.int rfl (by omega) (.cons rfl (.cons rfl (.cons rfl (.cons rfl .nil))))) (.refl _)
  · -- 12F
    refine WL.nil ?_
    refine WE.then_n ?_
    refine WC.seq ?_
    refine WC.cond_f rfl ?_
    refine WC.exit ?_
    refine WE.then_exit ?_
    refine WE.then_exit ?_
    refine WE.block_hit ?_
    refine WE.then_n ?_
    refine WC.seq ?_
    refine WC.seq ?_
    refine WC.region ?_
    refine WL.val (v_move rfl rfl) (.none rfl) rfl rfl ?_
    refine WL.val (v_len_slice rfl rfl Tryd.underlying111) (.none rfl) rfl rfl ?_
    refine WL.val (v_move rfl rfl) (.none rfl) rfl rfl ?_
    refine WL.val (v_len_slice rfl rfl Tryd.underlying111) (.none rfl) rfl rfl ?_
    refine WL.val ((v_lss rfl rfl rfl).f (by omega)) (.none rfl) rfl rfl ?_
    refine WL.nil ?_
    refine WE.then_n ?_
    refine WC.cond_f rfl ?_
    refine WC.skip ?_
    refine WE.then_n ?_
    refine WC.seq ?_
    refine WC.region ?_
    refine WL.val (v_assign rfl rfl) (.none rfl) rfl rfl ?_
    refine WL.nil ?_
    refine WE.then_n ?_
    refine WC.ret ?_
    refine WE.ret1 (P := Tryd.prog) (.inl rfl) Tryd.results55 rfl ?_
    obtain rfl : k = 9 := (by omega)
    exact fun w' h => ⟨by rw [h0], h.frm⟩
theorem Or_c (w : World) (b : Nat) (x y : Int) (hx : w.cell? ⟨b, 0, none⟩ = some (.int .i64 x)) (hy : w.cell? ⟨b, 1, none⟩ = some (.int .i64 y)) :
    Calls Tryd.prog 53 #[.slice (some ⟨b, 0, none⟩) 2 2] w fun e w' => e = .returned (.int .i64 (if x ≠ 0 then x else y)) ∧ Frm (fun _ => False) w w' := by
  refine enter Tryd.func53 rfl Tryd.ntmps53 rfl (St.start (fun _ => False) w) ?_
  refine WC.seq ?_
  refine WC.region ?_
  refine WL.val (v_assign rfl rfl) (.none rfl) rfl rfl ?_
  refine WL.nil ?_
  refine WE.then_n ?_
  refine WC.seq ?_
  refine WC.region ?_
  refine WL.val (v_assign rfl rfl) (.none rfl) rfl rfl ?_
  refine WL.nil ?_
  refine WE.then_n ?_
  refine WC.seq ?_
  refine WC.seq ?_
  refine WC.region ?_
  refine WL.val (v_move rfl rfl) (.none rfl) rfl rfl ?_
  refine WL.val (v_len_slice rfl rfl Tryd.underlying77) (.none rfl) rfl rfl ?_
  refine WL.val (v_move rfl rfl) (.none rfl) rfl rfl ?_
  refine WL.nil ?_
  refine WE.then_n ?_
  refine WC.block ?_
  refine WC.loop (fun k : Nat => [(8, .int .i64 k), (7, .int .i64 2), (6, .slice (some ⟨b, 0, none⟩) 2 2), (3, .int .i64 0)]) (fun _ => []) (fun k => k ≤ 2 ∧ (1 ≤ k → x = 0) ∧ (2 ≤ k → y = 0)) (fun k => 2 - k) 0 ⟨Nat.zero_le _, by omega, by omega⟩ (.cons rfl (.cons rfl (.cons rfl (.cons rfl .nil)))) (.refl _) ?_
  rintro k ⟨hk, h1, h2⟩
  have hz : ∀ j, j < 2 → w.cell? ⟨b, 0 + j * 1, none⟩ = some (.int .i64 (if j = 0 then x else y)) := (by
    intro j hj
    match j, hj with
    | 0, _ => exact hx
    | 1, _ => exact hy)
  refine WC.seq ?_
  refine WC.region ?_
  refine WL.test (v_lss rfl rfl rfl) (.none rfl) rfl rfl (fun h9 => ?_) (fun h9 => ?_)
  · -- 9T
    refine WL.nil ?_
    refine WE.then_n ?_
    refine WC.seq ?_
    refine WC.cond_t rfl ?_
    refine WC.skip ?_
    refine WE.then_n ?_
    refine WC.seq ?_
    refine WC.block ?_
    refine WC.seq ?_
    refine WC.region ?_
    refine WL.val (v_indexAddr (lo := k) rfl rfl rfl Tryd.underlying77 sz_3 (by omega) (by omega)) (.none rfl) rfl rfl ?_
    refine WL.val (v_load1 rfl rfl one_3 (cellOld (fun h => h) (hz k (by omega)))) (.none rfl) rfl rfl ?_
    refine WL.val (v_assign rfl rfl) (.none rfl) rfl rfl ?_
    refine WL.nil ?_
    refine WE.then_n ?_
    refine WC.seq ?_
    refine WC.region ?_
    refine WL.val (v_move rfl rfl) (.none rfl) rfl rfl ?_
    refine WL.val (v_move rfl rfl) (.none rfl) rfl rfl ?_
    refine WL.test (v_neq rfl rfl rfl) (.none rfl) rfl rfl (fun h14 => ?_) (fun h14 => ?_)
    · -- 14T
      refine WL.nil ?_
      refine WE.then_n ?_
      refine WC.cond_t rfl ?_
      refine WC.seq ?_
      refine WC.region ?_
      refine WL.val (v_move rfl rfl) (.none rfl) rfl rfl ?_
      refine WL.val (v_assign rfl rfl) (.none rfl) rfl rfl ?_
      refine WL.nil ?_
      refine WE.then_n ?_
      refine WC.ret ?_
      refine WE.block_ret ?_
      refine WE.then_ret ?_
      refine WE.then_ret ?_
      refine WE.block_ret ?_
      refine WE.then_ret ?_
      refine WE.ret1 (P := Tryd.prog) (.inl rfl) Tryd.results53 rfl ?_
      have e2 : (if x ≠ 0 then x else y) = (if k = 0 then x else y) := (by
        by_cases e : k = 0
        · rw [if_pos e] at h14 ⊢; rw [if_pos h14]
        · rw [if_neg e, if_neg (fun q => q (h1 (by omega)))])
      exact fun w' h => ⟨by rw [e2], h.frm⟩
    · -- 14F
      refine WL.nil ?_
      refine WE.then_n ?_
      refine WC.cond_f rfl ?_
      refine WC.skip ?_
      refine WE.block_n ?_
      refine WE.then_n ?_
      refine WC.region ?_
      refine WL.val (v_add rfl rfl rfl (w_i64 (by omega) (by omega))) (.none rfl) rfl rfl ?_
      refine WL.val (v_move rfl rfl) (.none rfl) rfl rfl ?_
      refine WL.nil ?_
      exact WE.next (k + 1) (by omega) ⟨by omega, fun _ => by by_cases e : k = 0; (rw [if_pos e] at h14; exact Classical.not_not.1 h14); exact h1 (by omega), fun _ => by rw [if_neg (by omega)] at h14; exact Classical.not_not.1 h14⟩ (.int rfl (by omega) (.cons rfl (.cons rfl (.cons rfl .nil)))) (.refl _)
  · -- 9F
    refine WL.nil ?_
    refine WE.then_n ?_
    refine WC.seq ?_
    refine WC.cond_f rfl ?_
    refine WC.exit ?_
    refine WE.then_exit ?_
    refine WE.then_exit ?_
    refine WE.block_hit ?_
    refine WE.then_n ?_
    refine WC.seq ?_
    refine WC.region ?_
    refine WL.val (v_move rfl rfl) (.none rfl) rfl rfl ?_
    refine WL.val (v_assign rfl rfl) (.none rfl) rfl rfl ?_
    refine WL.nil ?_
    refine WE.then_n ?_
    refine WC.ret ?_
    refine WE.ret1 (P := Tryd.prog) (.inl rfl) Tryd.results53 rfl ?_
    exact fun w' h => ⟨by rw [h1 (by omega), h2 (by omega)]; rfl, h.frm⟩
def acmp (a b : Ac) : Int := if cmpI a.set b.set ≠ 0 then cmpI a.set b.set else lexK a.val b.val 9
theorem ACmp_c (w : World) (a b : Ac) :
    Calls Tryd.prog 18 #[acV a, acV b] w fun e w' => e = .returned (.int .i64 (acmp a b)) ∧ Frm (fun _ => False) w w' := by
  refine enter Tryd.func18 rfl Tryd.ntmps18 rfl (St.start (fun _ => False) w) ?_
  refine WC.seq ?_
  refine WC.region ?_
  refine WL.box rfl rfl rfl (.none rfl) rfl rfl ?_
  intro g2 hg2
  refine WL.box rfl rfl rfl (.none rfl) rfl rfl ?_
  intro g3 hg3
  refine WL.val (v_assign rfl rfl) (.none rfl) rfl rfl ?_
  refine WL.nil ?_
  refine WE.then_n ?_
  refine WC.seq ?_
  refine WC.orders mixed ?_
  refine WR.first (g := 7) [0, 2, 5, 6, 7, 8] (by kernel_rfl) (by kernel_rfl) ?_
  refine WP.val (v_fieldAddr0 rfl rfl fld_25_0) (.none rfl) rfl rfl ?_
  refine WP.val (v_fieldAddr0 rfl rfl fld_25_0) (.none rfl) rfl rfl ?_
  refine WP.val (v_fieldAddr0 rfl rfl fld_25_1) (.none rfl) rfl rfl ?_
  refine WP.val (v_slice_arr rfl rfl Tryd.underlying23 sz_22) (.none rfl) rfl rfl ?_
  refine WP.val (v_fieldAddr0 rfl rfl fld_25_1) (.none rfl) rfl rfl ?_
  refine WP.val (v_slice_arr rfl rfl Tryd.underlying23 sz_22) (.none rfl) rfl rfl ?_
  refine WP.nil ?_
  refine WR.read (g := 3) [1, 3, 4, 9] (by kernel_rfl) (by kernel_rfl) (by kernel_rfl) (by kernel_rfl) rfl ?_
  refine WQ.val (v_load1 rfl rfl one_3 (cellAt rfl)) (.none rfl) rfl rfl ?_
  refine WQ.val (v_load1 rfl rfl one_3 (cellAt rfl)) (.none rfl) rfl rfl ?_
  refine WQ.call _ rfl rfl ck_54 (.none rfl) rfl rfl (fun w hS => Calls.still (CmpI_c w a.set b.set) hS) ?_
  refine WQ.call _ rfl rfl ck_55 (.none rfl) rfl rfl (fun w hS => Calls.still (SCmp_c w _ _ _ _ a.val b.val (fun i hi => hS.cell (acL_get a hi)) (fun i hi => hS.cell (acL_get b hi))) hS) ?_
  refine WQ.nilR ?_
  refine WR.ones (g := 2) [10] (by kernel_rfl) ?_
  refine WL.buildSlice rfl rfl Tryd.underlying77 sz_3 zero_3 rfl (by decide) rfl (.none rfl) rfl rfl ?_
  intro g15 hg15
  refine WL.nilR ?_
  refine WR.read (g := 0) [11, 12] (by kernel_rfl) (by kernel_rfl) (by kernel_rfl) (by kernel_rfl) rfl ?_
  refine WQ.call _ rfl rfl ck_53 (.none rfl) rfl rfl (fun w hS => Calls.still (Or_c w _ _ _ (hS.cell rfl) (hS.cell rfl)) hS) ?_
  refine WQ.val (v_assign rfl rfl) (.none rfl) rfl rfl ?_
  refine WQ.nilR ?_
  refine WR.done (by kernel_rfl) ?_
  refine WE.then_n ?_
  refine WC.ret ?_
  refine WE.ret1 (P := Tryd.prog) (.inl rfl) Tryd.results18 rfl ?_
  exact fun w' h => ⟨rfl, h.frm⟩
end Go.Proofs.YtodaanhhnjkncaaDoor
/- match: a match as two lists of numbers; right, On, Exact, Hits. rules.On; carrefourlaw17.right. -/
namespace Go.Proofs.YtodaanhhnjkncaaDoor
open Go.RowKit

theorem nat_u64 {a : Nat} : (a : Int) ≤ 18446744073709551615 ↔ a < 2 ^ 64 := by omega
theorem xorN_le {x y : Int} (hx' : x ≤ 18446744073709551615) (hy' : y ≤ 18446744073709551615) : 0 ≤ xorN x y ∧ xorN x y ≤ 18446744073709551615 := by
  unfold xorN
  have h := Nat.xor_lt_two_pow (x := x.toNat) (y := y.toNat) (n := 64) (by omega) (by omega)
  omega
structure Mt where
  val : Nat → Int
  mask : Nat → Int
def mtL (m : Mt) : List Value := ucs m.val 9 ++ ucs m.mask 9
def mtV (m : Mt) : Value := .agg (mtL m).toArray
structure Mt.In (m : Mt) : Prop where
  val : ∀ k, 0 ≤ m.val k ∧ m.val k ≤ 18446744073709551615
  mask : ∀ k, 0 ≤ m.mask k ∧ m.mask k ≤ 18446744073709551615
theorem mtL_val (m : Mt) {k : Nat} (h : k < 9) : (mtL m)[0 + k * 1]? = some (.int .u64 (m.val k)) := by
  unfold mtL
  rw [show 0 + k * 1 = k by omega, List.getElem?_append_left (by rw [ucs_len]; exact h), ucs_get _ h]
theorem mtL_mask (m : Mt) {k : Nat} (h : k < 9) : (mtL m)[9 + k * 1]? = some (.int .u64 (m.mask k)) := by
  unfold mtL
  rw [show 9 + k * 1 = 9 + k by omega, List.getElem?_append_right (by rw [ucs_len]; omega), ucs_len, show 9 + k - 9 = k by omega, ucs_get _ h]
theorem mtL_setVal {m : Mt} {k : Nat} {x : Int} (h : k < 9) : (mtL m).set (0 + k * 1) (.int .u64 x) = mtL ⟨fun i => if i = k then x else m.val i, m.mask⟩ := by
  unfold mtL
  rw [show 0 + k * 1 = k by omega, List.set_append_left _ _ (by rw [ucs_len]; exact h), ucs_set h]
theorem mtL_setMask {m : Mt} {k : Nat} {x : Int} (h : k < 9) : (mtL m).set (9 + k * 1) (.int .u64 x) = mtL ⟨m.val, fun i => if i = k then x else m.mask i⟩ := by
  unfold mtL
  rw [show 9 + k * 1 = 9 + k by omega, List.set_append_right _ _ (by rw [ucs_len]; omega), ucs_len, show 9 + k - 9 = k by omega, ucs_set h]
theorem mtL_len (m : Mt) : (mtL m).length = 18 := by simp [mtL, ucs_len]
def mtOk (k : Nat) (val mask : Int) : Prop := andNotN mask (fullI k) = 0 ∧ andNotN val mask = 0
instance (k : Nat) (v m : Int) : Decidable (mtOk k v m) := by unfold mtOk; infer_instance
theorem fullI_u64 (k : Nat) : 0 ≤ fullI k ∧ fullI k ≤ 18446744073709551615 := by have := pow_wd k; unfold fullI; omega
theorem MRight_c (w : World) (k : Nat) (hk : k < 9) (val mask : Int) (hv : 0 ≤ val ∧ val ≤ 18446744073709551615) (hm : 0 ≤ mask ∧ mask ≤ 18446744073709551615) (hG : GW w) :
    Calls Tryd.prog 104 #[.int .i64 k, .int .u64 val, .int .u64 mask] w fun e w' => e = .returned (.bool (decide (mtOk k val mask))) ∧ Frm (fun _ => False) w w' := by
  have hf := fullI_u64 k
  refine enter Tryd.func104 rfl Tryd.ntmps104 rfl (St.start (fun _ => False) w) ?_
  refine WC.seq ?_
  refine WC.region ?_
  refine WL.val (v_assign rfl rfl) (.none rfl) rfl rfl ?_
  refine WL.nil ?_
  refine WE.then_n ?_
  refine WC.seq ?_
  refine WC.region ?_
  refine WL.val (v_move rfl rfl) (.none rfl) rfl rfl ?_
  refine WL.val (v_move rfl rfl) (.none rfl) rfl rfl ?_
  refine WL.call rfl rfl ck_30 (.none rfl) rfl rfl ?_
  intro w hS
  refine Calls.then (Full_n w k hk (hG.keep (fun h => h) hS)) hS ?_
  refine WL.val (v_andNot rfl rfl rfl (bits_andNot_u64 hm.1 hm.2 hf.1 hf.2)) (.none rfl) rfl rfl ?_
  refine WL.test (v_eql rfl rfl rfl) (.none rfl) rfl rfl (fun h11 => ?_) (fun h11 => ?_)
  · -- 11T
    refine WL.val (v_move rfl rfl) (.none rfl) rfl rfl ?_
    refine WL.val (v_move rfl rfl) (.some rfl rfl rfl) rfl rfl ?_
    refine WL.val (v_move rfl rfl) (.some rfl rfl rfl) rfl rfl ?_
    refine WL.val (v_andNot rfl rfl rfl (bits_andNot_u64 hv.1 hv.2 hm.1 hm.2)) (.some rfl rfl rfl) rfl rfl ?_
    refine WL.test (v_eql rfl rfl rfl) (.some rfl rfl rfl) rfl rfl (fun h16 => ?_) (fun h16 => ?_)
    · -- 16T
      refine WL.val (v_pick_t rfl rfl rfl) (.none rfl) rfl rfl ?_
      refine WL.val (v_assign rfl rfl) (.none rfl) rfl rfl ?_
      refine WL.nil ?_
      refine WE.then_n ?_
      refine WC.ret ?_
      refine WE.ret1 (P := Tryd.prog) (.inl rfl) Tryd.results104 rfl ?_
      exact fun w' h => ⟨by rw [decide_eq_true ⟨h11, h16⟩], h.frm⟩
    · -- 16F
      refine WL.val (v_pick_t rfl rfl rfl) (.none rfl) rfl rfl ?_
      refine WL.val (v_assign rfl rfl) (.none rfl) rfl rfl ?_
      refine WL.nil ?_
      refine WE.then_n ?_
      refine WC.ret ?_
      refine WE.ret1 (P := Tryd.prog) (.inl rfl) Tryd.results104 rfl ?_
      exact fun w' h => ⟨by rw [decide_eq_false (fun q => h16 q.2)], h.frm⟩
  · -- 11F
    refine WL.val (v_move rfl rfl) (.none rfl) rfl rfl ?_
    refine WL.skip rfl rfl rfl rfl rfl rfl ?_
    refine WL.skip rfl rfl rfl rfl rfl rfl ?_
    refine WL.skip rfl rfl rfl rfl rfl rfl ?_
    refine WL.skip rfl rfl rfl rfl rfl rfl ?_
    refine WL.val (v_pick_f rfl rfl rfl) (.none rfl) rfl rfl ?_
    refine WL.val (v_assign rfl rfl) (.none rfl) rfl rfl ?_
    refine WL.nil ?_
    refine WE.then_n ?_
    refine WC.ret ?_
    refine WE.ret1 (P := Tryd.prog) (.inl rfl) Tryd.results104 rfl ?_
    exact fun w' h => ⟨by rw [decide_eq_false (fun q => h11 q.1)], h.frm⟩
theorem MField_c (w : World) (k : Nat) (hk : k < 9) :
    Calls Tryd.prog 103 #[.int .i64 k] w fun e w' => e = .returned (.bool true) ∧ Frm (fun _ => False) w w' := by
  refine enter Tryd.func103 rfl Tryd.ntmps103 rfl (St.start (fun _ => False) w) ?_
  refine WC.seq ?_
  refine WC.region ?_
  refine WL.val (v_assign rfl rfl) (.none rfl) rfl rfl ?_
  refine WL.nil ?_
  refine WE.then_n ?_
  refine WC.seq ?_
  refine WC.region ?_
  refine WL.val (v_move rfl rfl) (.none rfl) rfl rfl ?_
  refine WL.val ((v_geq rfl rfl rfl).t (by omega)) (.none rfl) rfl rfl ?_
  refine WL.val (v_move rfl rfl) (.none rfl) rfl rfl ?_
  refine WL.val (v_move rfl rfl) (.some rfl rfl rfl) rfl rfl ?_
  refine WL.val ((v_lss rfl rfl rfl).t (by omega)) (.some rfl rfl rfl) rfl rfl ?_
  refine WL.val (v_pick_t rfl rfl rfl) (.none rfl) rfl rfl ?_
  refine WL.val (v_assign rfl rfl) (.none rfl) rfl rfl ?_
  refine WL.nil ?_
  refine WE.then_n ?_
  refine WC.ret ?_
  refine WE.ret1 (P := Tryd.prog) (.inl rfl) Tryd.results103 rfl ?_
  exact fun w' h => ⟨rfl, h.frm⟩
def Mt.one (k : Nat) (val mask : Int) : Mt := ⟨fun i => if i = k then val else 0, fun i => if i = k then mask else 0⟩
theorem MOn_c (w : World) (k : Nat) (hk : k < 9) (val mask : Int) (hv : 0 ≤ val ∧ val ≤ 18446744073709551615) (hm : 0 ≤ mask ∧ mask ≤ 18446744073709551615) (hok : mtOk k val mask) (hG : GW w) :
    Calls Tryd.prog 75 #[.int .i64 k, .int .u64 val, .int .u64 mask] w fun e w' => e = .returned (.tuple #[mtV (Mt.one k val mask), .int .i64 0]) ∧ Frm (fun _ => False) w w' := by
  refine enter Tryd.func75 rfl Tryd.ntmps75 rfl (St.start (fun _ => False) w) ?_
  refine WC.seq ?_
  refine WC.region ?_
  refine WL.alloc rfl zero_86 (.none rfl) rfl rfl ?_
  intro g6 hg6
  refine WL.val (v_assign rfl rfl) (.none rfl) rfl rfl ?_
  refine WL.nil ?_
  refine WE.then_n ?_
  refine WC.seq ?_
  refine WC.seq ?_
  refine WC.region ?_
  refine WL.val (v_move rfl rfl) (.none rfl) rfl rfl ?_
  refine WL.call rfl rfl ck_103 (.none rfl) rfl rfl ?_
  intro w hS
  refine Calls.then (MField_c w k hk) hS ?_
  refine WL.val (v_not rfl rfl rfl) (.none rfl) rfl rfl ?_
  refine WL.val (v_move rfl rfl) (.none rfl) rfl rfl ?_
  refine WL.val (v_move rfl rfl) (.some rfl rfl rfl) rfl rfl ?_
  refine WL.val (v_move rfl rfl) (.some rfl rfl rfl) rfl rfl ?_
  refine WL.val (v_move rfl rfl) (.some rfl rfl rfl) rfl rfl ?_
  refine WL.call rfl rfl ck_104 (.some rfl rfl rfl) rfl rfl ?_
  intro w hS
  refine Calls.then ((MRight_c w k hk val mask hv hm (hG.keep (fun h => h) hS)).mono fun _ _ h => ⟨by rw [h.1, decide_eq_true hok], h.2⟩) hS ?_
  refine WL.val (v_not rfl rfl rfl) (.some rfl rfl rfl) rfl rfl ?_
  refine WL.val (v_pick_f rfl rfl rfl) (.none rfl) rfl rfl ?_
  refine WL.nil ?_
  refine WE.then_n ?_
  refine WC.cond_f rfl ?_
  refine WC.skip ?_
  refine WE.then_n ?_
  refine WC.seq ?_
  refine WC.region ?_
  refine WL.alloc rfl zero_86 (.none rfl) rfl rfl ?_
  intro g8 hg8
  refine WL.nil ?_
  refine WE.then_n ?_
  refine WC.seq ?_
  refine WC.region ?_
  refine WL.val (v_move rfl rfl) (.none rfl) rfl rfl ?_
  refine WL.val (v_move rfl rfl) (.none rfl) rfl rfl ?_
  refine WL.val (v_fieldAddr0 rfl rfl fld_86_0) (.none rfl) rfl rfl ?_
  refine WL.val (v_indexAddrA (lo := k) rfl rfl rfl Tryd.underlying23 sz_22 (by omega) (by omega)) (.none rfl) rfl rfl ?_
  refine WL.store1 rfl rfl rfl rfl one_22 (by show 0 + k * 1 < 18; omega) (.none rfl) rfl ?_
  refine WL.as (L' := [.row g8 (mtL ⟨fun i => if i = k then val else 0, fun _ => 0⟩), .row g6 (mtL ⟨fun _ => 0, fun _ => 0⟩)]) (by
  have e := mtL_setVal (m := ⟨fun _ => 0, fun _ => 0⟩) (x := val) hk
  exact congrArg (fun z => [Ent.row g8 z, Ent.row g6 (mtL ⟨fun _ => 0, fun _ => 0⟩)]) e) ?_
  refine WL.nil ?_
  refine WE.then_n ?_
  refine WC.seq ?_
  refine WC.region ?_
  refine WL.val (v_move rfl rfl) (.none rfl) rfl rfl ?_
  refine WL.val (v_move rfl rfl) (.none rfl) rfl rfl ?_
  refine WL.val (v_fieldAddr0 rfl rfl fld_86_1) (.none rfl) rfl rfl ?_
  refine WL.val (v_indexAddrA (lo := k) rfl rfl rfl Tryd.underlying23 sz_22 (by omega) (by omega)) (.none rfl) rfl rfl ?_
  refine WL.store1 rfl rfl rfl rfl one_22 (by rw [mtL_len]; omega) (.none rfl) rfl ?_
  refine WL.as (L' := [.row g8 (mtL (Mt.one k val mask)), .row g6 (mtL ⟨fun _ => 0, fun _ => 0⟩)]) (by rw [mtL_setMask hk]; rfl) ?_
  refine WL.nil ?_
  refine WE.then_n ?_
  refine WC.seq ?_
  refine WC.region ?_
  refine WL.val (v_loadN rfl rfl many_86 rfl allAt) (.none rfl) rfl rfl ?_
  refine WL.storeW rfl rfl rfl rfl many_86 rfl rfl (.none rfl) rfl ?_
  refine WL.val (v_assign rfl rfl) (.none rfl) rfl rfl ?_
  refine WL.nil ?_
  refine WE.then_n ?_
  refine WC.ret ?_
  refine WE.ret2 (P := Tryd.prog) (.inl rfl) Tryd.results75 (resRow rfl many_86 rfl) rfl ?_
  exact fun w' h => ⟨rfl, h.frm⟩
theorem MExact_c (w : World) (k : Nat) (hk : k < 9) (val : Int) (hv : 0 ≤ val ∧ val ≤ 18446744073709551615) (hok : mtOk k val (fullI k)) (hG : GW w) :
    Calls Tryd.prog 47 #[.int .i64 k, .int .u64 val] w fun e w' => e = .returned (.tuple #[mtV (Mt.one k val (fullI k)), .int .i64 0]) ∧ Frm (fun _ => False) w w' := by
  refine enter Tryd.func47 rfl Tryd.ntmps47 rfl (St.start (fun _ => False) w) ?_
  refine WC.seq ?_
  refine WC.region ?_
  refine WL.alloc rfl zero_86 (.none rfl) rfl rfl ?_
  intro g4 hg4
  refine WL.val (v_assign rfl rfl) (.none rfl) rfl rfl ?_
  refine WL.nil ?_
  refine WE.then_n ?_
  refine WC.seq ?_
  refine WC.region ?_
  refine WL.val (v_move rfl rfl) (.none rfl) rfl rfl ?_
  refine WL.val (v_move rfl rfl) (.none rfl) rfl rfl ?_
  refine WL.val (v_move rfl rfl) (.none rfl) rfl rfl ?_
  refine WL.call rfl rfl ck_30 (.none rfl) rfl rfl ?_
  intro w hS
  refine Calls.then (Full_n w k hk (hG.keep (fun h => h) hS)) hS ?_
  refine WL.call rfl rfl ck_75 (.none rfl) rfl rfl ?_
  intro w hS
  refine Calls.then (MOn_c w k hk val (fullI k) hv (fullI_u64 k) hok (hG.keep (fun h => h) hS)) hS ?_
  refine WL.val (v_extract rfl rfl rfl) (.none rfl) rfl rfl ?_
  refine WL.val (v_extract rfl rfl rfl) (.none rfl) rfl rfl ?_
  refine WL.storeW rfl rfl rfl rfl many_86 rfl rfl (.none rfl) rfl ?_
  refine WL.val (v_assign rfl rfl) (.none rfl) rfl rfl ?_
  refine WL.nil ?_
  refine WE.then_n ?_
  refine WC.ret ?_
  refine WE.ret2 (P := Tryd.prog) (.inl rfl) Tryd.results47 (resRow rfl many_86 rfl) rfl ?_
  exact fun w' h => ⟨rfl, h.frm⟩
def Mt.hits (m : Mt) (H : Hd) : Prop := ∀ k, k < 9 → andN (xorN (getF H k) (m.val k)) (m.mask k) = 0
instance (m : Mt) (H : Hd) : Decidable (m.hits H) := by unfold Mt.hits; infer_instance
set_option maxHeartbeats 1000000 in
theorem Hits_c (w : World) (m : Mt) (H : Hd) (hm : m.In) (hH : H.In) (hG : GW w) :
    Calls Tryd.prog 101 #[mtV m, .agg (hdCells H)] w fun e w' => e = .returned (.bool (decide (m.hits H))) ∧ Frm (fun _ => False) w w' := by
  refine enter Tryd.func101 rfl Tryd.ntmps101 rfl (St.start (fun _ => False) w) ?_
  refine WC.seq ?_
  refine WC.region ?_
  refine WL.box rfl rfl rfl (.none rfl) rfl rfl ?_
  intro g2 hg2
  refine WL.box rfl rfl rfl (.none rfl) rfl rfl ?_
  intro g3 hg3
  refine WL.val (v_assign rfl rfl) (.none rfl) rfl rfl ?_
  refine WL.nil ?_
  refine WE.then_n ?_
  refine WC.seq ?_
  refine WC.seq ?_
  refine WC.region ?_
  refine WL.val (v_move rfl rfl) (.none rfl) rfl rfl ?_
  refine WL.nil ?_
  refine WE.then_n ?_
  refine WC.block ?_
  refine WC.loop (fun k : Nat => [(6, .int .i64 k), (3, .pointer (some ⟨g3, 0, none⟩)), (2, .pointer (some ⟨g2, 0, none⟩))]) (fun _ => [.row g3 (hdL H), .row g2 (mtL m)]) (fun k => k ≤ 9 ∧ ∀ j, j < k → andN (xorN (getF H j) (m.val j)) (m.mask j) = 0) (fun k => 9 - k) 0 ⟨Nat.zero_le _, fun j h => absurd h (by omega)⟩ (.cons rfl (.cons rfl (.cons rfl .nil))) (.refl _) ?_
  rintro k ⟨hk, hok⟩
  have hg := getF_le H k
  have hf := fullI_u64 k
  have hv := hm.val k
  have hmk := hm.mask k
  have hx := xorN_le (x := getF H k) (y := m.val k) (by omega) hv.2
  refine WC.seq ?_
  refine WC.region ?_
  refine WL.test (v_lss rfl rfl rfl) (.none rfl) rfl rfl (fun h7 => ?_) (fun h7 => ?_)
  · -- 7T
    refine WL.nil ?_
    refine WE.then_n ?_
    refine WC.seq ?_
    refine WC.cond_t rfl ?_
    refine WC.skip ?_
    refine WE.then_n ?_
    refine WC.seq ?_
    refine WC.block ?_
    refine WC.seq ?_
    refine WC.region ?_
    refine WL.val (v_move rfl rfl) (.none rfl) rfl rfl ?_
    refine WL.val (v_assign rfl rfl) (.none rfl) rfl rfl ?_
    refine WL.nil ?_
    refine WE.then_n ?_
    refine WC.seq ?_
    refine WC.quiet mixed (by kernel_rfl) ?_
    refine WQ.val (v_loadN rfl rfl many_31 rfl allAt) (.none rfl) rfl rfl ?_
    refine WQ.val (v_move rfl rfl) (.none rfl) rfl rfl ?_
    refine WQ.call _ rfl rfl ck_16 (.none rfl) rfl rfl (fun w hS => Calls.still (Get_c w H k (by omega) hH (hG.keep (fun h => h) hS)) hS) ?_
    refine WQ.val (v_move rfl rfl) (.none rfl) rfl rfl ?_
    refine WQ.val (v_fieldAddr0 rfl rfl fld_86_0) (.none rfl) rfl rfl ?_
    refine WQ.val (v_indexAddrA (lo := k) rfl rfl rfl Tryd.underlying23 sz_22 (by omega) (by omega)) (.none rfl) rfl rfl ?_
    refine WQ.val (v_load1 rfl rfl one_22 (cellAt (mtL_val m (by omega)))) (.none rfl) rfl rfl ?_
    refine WQ.val (v_xor rfl rfl rfl (bits_xor_u64 hg.1 (by omega) hv.1 hv.2)) (.none rfl) rfl rfl ?_
    refine WQ.val (v_move rfl rfl) (.none rfl) rfl rfl ?_
    refine WQ.val (v_fieldAddr0 rfl rfl fld_86_1) (.none rfl) rfl rfl ?_
    refine WQ.val (v_indexAddrA (lo := k) rfl rfl rfl Tryd.underlying23 sz_22 (by omega) (by omega)) (.none rfl) rfl rfl ?_
    refine WQ.val (v_load1 rfl rfl one_22 (cellAt (mtL_mask m (by omega)))) (.none rfl) rfl rfl ?_
    refine WQ.val (v_and rfl rfl rfl (bits_and_u64 hx.1 hx.2 hmk.1 hmk.2)) (.none rfl) rfl rfl ?_
    refine WQ.test (v_neq rfl rfl rfl) (.none rfl) rfl rfl (fun h22 => ?_) (fun h22 => ?_)
    · -- 22T
      refine WQ.nil ?_
      refine WE.then_n ?_
      refine WC.cond_t rfl ?_
      refine WC.seq ?_
      refine WC.region ?_
      refine WL.val (v_assign rfl rfl) (.none rfl) rfl rfl ?_
      refine WL.nil ?_
      refine WE.then_n ?_
      refine WC.ret ?_
      refine WE.block_ret ?_
      refine WE.then_ret ?_
      refine WE.then_ret ?_
      refine WE.block_ret ?_
      refine WE.then_ret ?_
      refine WE.ret1 (P := Tryd.prog) (.inl rfl) Tryd.results101 rfl ?_
      exact fun w' h => ⟨by rw [decide_eq_false (fun q => h22 (q k (by omega)))], h.frm⟩
    · -- 22F
      refine WQ.nil ?_
      refine WE.then_n ?_
      refine WC.cond_f rfl ?_
      refine WC.skip ?_
      refine WE.block_n ?_
      refine WE.then_n ?_
      refine WC.region ?_
      refine WL.val (v_add rfl rfl rfl (w_i64 (by omega) (by omega))) (.none rfl) rfl rfl ?_
      refine WL.val (v_move rfl rfl) (.none rfl) rfl rfl ?_
      refine WL.nil ?_
      exact WE.next (k + 1) (by omega) ⟨by omega, fun j hj => by
      by_cases e : j = k
      · subst e; exact Classical.not_not.1 h22
      · exact hok j (by omega)⟩ (.int rfl (by omega) (.cons rfl (.cons rfl .nil))) (.refl _)
  · -- 7F
    refine WL.nil ?_
    refine WE.then_n ?_
    refine WC.seq ?_
    refine WC.cond_f rfl ?_
    refine WC.exit ?_
    refine WE.then_exit ?_
    refine WE.then_exit ?_
    refine WE.block_hit ?_
    refine WE.then_n ?_
    refine WC.seq ?_
    refine WC.region ?_
    refine WL.val (v_assign rfl rfl) (.none rfl) rfl rfl ?_
    refine WL.nil ?_
    refine WE.then_n ?_
    refine WC.ret ?_
    refine WE.ret1 (P := Tryd.prog) (.inl rfl) Tryd.results101 rfl ?_
    obtain rfl : k = 9 := (by omega)
    exact fun w' h => ⟨by rw [decide_eq_true (p := m.hits H) hok], h.frm⟩
/-- The law's own test of an act. -/
theorem LRight_c (w : World) (a : Ac) (_hv : a.In) (hG : GW w) :
    Calls Tryd.prog 14 #[acV a] w fun e w' => e = .returned (.bool (decide a.Ok)) ∧ Frm (fun _ => False) w w' := by
  refine enter Tryd.func14 rfl Tryd.ntmps14 rfl (St.start (fun _ => False) w) ?_
  refine WC.seq ?_
  refine WC.region ?_
  refine WL.box rfl rfl rfl (.none rfl) rfl rfl ?_
  intro g1 hg1
  refine WL.val (v_assign rfl rfl) (.none rfl) rfl rfl ?_
  refine WL.nil ?_
  refine WE.then_n ?_
  refine WC.seq ?_
  refine WC.seq ?_
  refine WC.region ?_
  refine WL.val (v_fieldAddr0 rfl rfl fld_25_0) (.none rfl) rfl rfl ?_
  refine WL.val (v_load1 rfl rfl one_3 (cellAt rfl)) (.none rfl) rfl rfl ?_
  refine WL.test (v_lss rfl rfl rfl) (.none rfl) rfl rfl (fun h6 => ?_) (fun h6 => ?_)
  · -- 6T
    refine WL.val (v_move rfl rfl) (.none rfl) rfl rfl ?_
    refine WL.skip rfl rfl rfl rfl rfl rfl ?_
    refine WL.skip rfl rfl rfl rfl rfl rfl ?_
    refine WL.skip rfl rfl rfl rfl rfl rfl ?_
    refine WL.val (v_pick_t rfl rfl rfl) (.none rfl) rfl rfl ?_
    refine WL.nil ?_
    refine WE.then_n ?_
    refine WC.cond_t rfl ?_
    refine WC.seq ?_
    refine WC.region ?_
    refine WL.val (v_assign rfl rfl) (.none rfl) rfl rfl ?_
    refine WL.nil ?_
    refine WE.then_n ?_
    refine WC.ret ?_
    refine WE.then_ret ?_
    refine WE.ret1 (P := Tryd.prog) (.inl rfl) Tryd.results14 rfl ?_
    exact fun w' h => ⟨by rw [decide_eq_false (fun k => by have := k.1; omega)], h.frm⟩
  · -- 6F
    refine WL.val (v_move rfl rfl) (.none rfl) rfl rfl ?_
    refine WL.val (v_fieldAddr0 rfl rfl fld_25_0) (.some rfl rfl rfl) rfl rfl ?_
    refine WL.val (v_load1 rfl rfl one_3 (cellAt rfl)) (.some rfl rfl rfl) rfl rfl ?_
    refine WL.test (v_gtr rfl rfl rfl) (.some rfl rfl rfl) rfl rfl (fun h10 => ?_) (fun h10 => ?_)
    · -- 10T
      refine WL.val (v_pick_f rfl rfl rfl) (.none rfl) rfl rfl ?_
      refine WL.nil ?_
      refine WE.then_n ?_
      refine WC.cond_t rfl ?_
      refine WC.seq ?_
      refine WC.region ?_
      refine WL.val (v_assign rfl rfl) (.none rfl) rfl rfl ?_
      refine WL.nil ?_
      refine WE.then_n ?_
      refine WC.ret ?_
      refine WE.then_ret ?_
      refine WE.ret1 (P := Tryd.prog) (.inl rfl) Tryd.results14 rfl ?_
      exact fun w' h => ⟨by rw [decide_eq_false (fun k => by have := k.1; omega)], h.frm⟩
    · -- 10F
      refine WL.val (v_pick_f rfl rfl rfl) (.none rfl) rfl rfl ?_
      refine WL.nil ?_
      refine WE.then_n ?_
      refine WC.cond_f rfl ?_
      refine WC.skip ?_
      refine WE.then_n ?_
      refine WC.seq ?_
      refine WC.seq ?_
      refine WC.region ?_
      refine WL.val (v_assign rfl rfl) (.none rfl) rfl rfl ?_
      refine WL.nil ?_
      refine WE.then_n ?_
      refine WC.block ?_
      refine WC.loop (fun k : Nat => [(3, .int .i64 k), (1, .pointer (some ⟨g1, 0, none⟩))]) (fun _ => [.row g1 (acL a)]) (fun k => k ≤ 9 ∧ ∀ j, j < k → a.val j ≤ fullI j ∧ (a.val j ≠ 0 → a.sets j)) (fun k => 9 - k) 0 ⟨Nat.zero_le _, fun j h => absurd h (by omega)⟩ (.cons rfl (.cons rfl .nil)) (.refl _) ?_
      rintro k ⟨hk, hok⟩
      refine WC.seq ?_
      refine WC.seq ?_
      refine WC.region ?_
      refine WL.val (v_move rfl rfl) (.none rfl) rfl rfl ?_
      refine WL.test (v_lss rfl rfl rfl) (.none rfl) rfl rfl (fun h13 => ?_) (fun h13 => ?_)
      · -- 13T
        refine WL.nil ?_
        refine WE.then_n ?_
        refine WC.cond_t rfl ?_
        refine WC.skip ?_
        refine WE.then_n ?_
        refine WC.seq ?_
        refine WC.block ?_
        refine WC.seq ?_
        refine WC.quiet mixed (by kernel_rfl) ?_
        refine WQ.val (v_fieldAddr0 rfl rfl fld_25_0) (.none rfl) rfl rfl ?_
        refine WQ.val (v_load1 rfl rfl one_3 (cellAt rfl)) (.none rfl) rfl rfl ?_
        refine WQ.val (v_move rfl rfl) (.none rfl) rfl rfl ?_
        refine WQ.val (v_conv rfl rfl Tryd.underlying39 Tryd.underlying3 (by first | exact w_u64 (by omega) (by omega) | exact w_u64m _)) (.none rfl) rfl rfl ?_
        refine WQ.val (v_shr (m := k) (c := (2 : Int) ^ k) rfl rfl rfl rfl (by show k ≤ 64; omega) rfl) (.none rfl) rfl rfl ?_
        refine WQ.val (v_and rfl rfl rfl (mask_i64' (i := 1) (m := 2) (by decide) (by decide) (by decide))) (.none rfl) rfl rfl ?_
        refine WQ.test (v_eql rfl rfl rfl) (.none rfl) rfl rfl (fun h22 => ?_) (fun h22 => ?_)
        · -- 22T
          refine WQ.val (v_move rfl rfl) (.none rfl) rfl rfl ?_
          refine WQ.val (v_move rfl rfl) (.some rfl rfl rfl) rfl rfl ?_
          refine WQ.val (v_fieldAddr0 rfl rfl fld_25_1) (.some rfl rfl rfl) rfl rfl ?_
          refine WQ.val (v_indexAddrA (lo := k) rfl rfl rfl Tryd.underlying23 sz_22 (by omega) (by omega)) (.some rfl rfl rfl) rfl rfl ?_
          refine WQ.val (v_load1 rfl rfl one_22 (cellAt (acL_get a (by omega)))) (.some rfl rfl rfl) rfl rfl ?_
          refine WQ.test (v_neq rfl rfl rfl) (.some rfl rfl rfl) rfl rfl (fun h28 => ?_) (fun h28 => ?_)
          · -- 28T
            refine WQ.val (v_pick_t rfl rfl rfl) (.none rfl) rfl rfl ?_
            refine WQ.val (v_move rfl rfl) (.none rfl) rfl rfl ?_
            refine WQ.skip rfl rfl rfl rfl rfl rfl ?_
            refine WQ.skip rfl rfl rfl rfl rfl rfl ?_
            refine WQ.skip rfl rfl rfl rfl rfl rfl ?_
            refine WQ.skip rfl rfl rfl rfl rfl rfl ?_
            refine WQ.skip rfl rfl rfl rfl rfl rfl ?_
            refine WQ.skip rfl rfl rfl rfl rfl rfl ?_
            refine WQ.skip rfl rfl rfl rfl rfl rfl ?_
            refine WQ.val (v_pick_t rfl rfl rfl) (.none rfl) rfl rfl ?_
            refine WQ.nil ?_
            refine WE.then_n ?_
            refine WC.cond_t rfl ?_
            refine WC.seq ?_
            refine WC.region ?_
            refine WL.val (v_assign rfl rfl) (.none rfl) rfl rfl ?_
            refine WL.nil ?_
            refine WE.then_n ?_
            refine WC.ret ?_
            refine WE.block_ret ?_
            refine WE.then_ret ?_
            refine WE.then_ret ?_
            refine WE.block_ret ?_
            refine WE.then_ret ?_
            refine WE.ret1 (P := Tryd.prog) (.inl rfl) Tryd.results14 rfl ?_
            exact fun w' h => ⟨by rw [decide_eq_false (fun q => by have := (q.2 k (by omega)).2 h28; unfold Ac.sets at this; omega)], h.frm⟩
          · -- 28F
            refine WQ.val (v_pick_t rfl rfl rfl) (.none rfl) rfl rfl ?_
            refine WQ.val (v_move rfl rfl) (.none rfl) rfl rfl ?_
            refine WQ.val (v_move rfl rfl) (.some rfl rfl rfl) rfl rfl ?_
            refine WQ.val (v_fieldAddr0 rfl rfl fld_25_1) (.some rfl rfl rfl) rfl rfl ?_
            refine WQ.val (v_indexAddrA (lo := k) rfl rfl rfl Tryd.underlying23 sz_22 (by omega) (by omega)) (.some rfl rfl rfl) rfl rfl ?_
            refine WQ.val (v_load1 rfl rfl one_22 (cellAt (acL_get a (by omega)))) (.some rfl rfl rfl) rfl rfl ?_
            refine WQ.val (v_move rfl rfl) (.some rfl rfl rfl) rfl rfl ?_
            refine WQ.call _ rfl rfl ck_30 (.some rfl rfl rfl) rfl rfl (fun w hS => Calls.still (Full_n w k (by omega) (hG.keep (fun h => h) hS)) hS) ?_
            refine WQ.test (v_gtr rfl rfl rfl) (.some rfl rfl rfl) rfl rfl (fun h37 => ?_) (fun h37 => ?_)
            · -- 37T
              refine WQ.val (v_pick_f rfl rfl rfl) (.none rfl) rfl rfl ?_
              refine WQ.nil ?_
              refine WE.then_n ?_
              refine WC.cond_t rfl ?_
              refine WC.seq ?_
              refine WC.region ?_
              refine WL.val (v_assign rfl rfl) (.none rfl) rfl rfl ?_
              refine WL.nil ?_
              refine WE.then_n ?_
              refine WC.ret ?_
              refine WE.block_ret ?_
              refine WE.then_ret ?_
              refine WE.then_ret ?_
              refine WE.block_ret ?_
              refine WE.then_ret ?_
              refine WE.ret1 (P := Tryd.prog) (.inl rfl) Tryd.results14 rfl ?_
              exact fun w' h => ⟨by rw [decide_eq_false (fun q => by have := (q.2 k (by omega)).1; omega)], h.frm⟩
            · -- 37F
              refine WQ.val (v_pick_f rfl rfl rfl) (.none rfl) rfl rfl ?_
              refine WQ.nil ?_
              refine WE.then_n ?_
              refine WC.cond_f rfl ?_
              refine WC.skip ?_
              refine WE.block_n ?_
              refine WE.then_n ?_
              refine WC.region ?_
              refine WL.val (v_move rfl rfl) (.none rfl) rfl rfl ?_
              refine WL.val (v_add rfl rfl rfl (w_i64 (by omega) (by omega))) (.none rfl) rfl rfl ?_
              refine WL.val (v_assign rfl rfl) (.none rfl) rfl rfl ?_
              refine WL.nil ?_
              exact WE.next (k + 1) (by omega) ⟨by omega, fun j hj => by
              by_cases e : j = k
              · subst e; exact ⟨by omega, fun h => by unfold Ac.sets; omega⟩
              · exact hok j (by omega)⟩ (.int rfl (by omega) (.cons rfl .nil)) (.refl _)
        · -- 22F
          refine WQ.val (v_move rfl rfl) (.none rfl) rfl rfl ?_
          refine WQ.skip rfl rfl rfl rfl rfl rfl ?_
          refine WQ.skip rfl rfl rfl rfl rfl rfl ?_
          refine WQ.skip rfl rfl rfl rfl rfl rfl ?_
          refine WQ.skip rfl rfl rfl rfl rfl rfl ?_
          refine WQ.skip rfl rfl rfl rfl rfl rfl ?_
          refine WQ.val (v_pick_f rfl rfl rfl) (.none rfl) rfl rfl ?_
          refine WQ.val (v_move rfl rfl) (.none rfl) rfl rfl ?_
          refine WQ.val (v_move rfl rfl) (.some rfl rfl rfl) rfl rfl ?_
          refine WQ.val (v_fieldAddr0 rfl rfl fld_25_1) (.some rfl rfl rfl) rfl rfl ?_
          refine WQ.val (v_indexAddrA (lo := k) rfl rfl rfl Tryd.underlying23 sz_22 (by omega) (by omega)) (.some rfl rfl rfl) rfl rfl ?_
          refine WQ.val (v_load1 rfl rfl one_22 (cellAt (acL_get a (by omega)))) (.some rfl rfl rfl) rfl rfl ?_
          refine WQ.val (v_move rfl rfl) (.some rfl rfl rfl) rfl rfl ?_
          refine WQ.call _ rfl rfl ck_30 (.some rfl rfl rfl) rfl rfl (fun w hS => Calls.still (Full_n w k (by omega) (hG.keep (fun h => h) hS)) hS) ?_
          refine WQ.test (v_gtr rfl rfl rfl) (.some rfl rfl rfl) rfl rfl (fun h37 => ?_) (fun h37 => ?_)
          · -- 37T
            refine WQ.val (v_pick_f rfl rfl rfl) (.none rfl) rfl rfl ?_
            refine WQ.nil ?_
            refine WE.then_n ?_
            refine WC.cond_t rfl ?_
            refine WC.seq ?_
            refine WC.region ?_
            refine WL.val (v_assign rfl rfl) (.none rfl) rfl rfl ?_
            refine WL.nil ?_
            refine WE.then_n ?_
            refine WC.ret ?_
            refine WE.block_ret ?_
            refine WE.then_ret ?_
            refine WE.then_ret ?_
            refine WE.block_ret ?_
            refine WE.then_ret ?_
            refine WE.ret1 (P := Tryd.prog) (.inl rfl) Tryd.results14 rfl ?_
            exact fun w' h => ⟨by rw [decide_eq_false (fun q => by have := (q.2 k (by omega)).1; omega)], h.frm⟩
          · -- 37F
            refine WQ.val (v_pick_f rfl rfl rfl) (.none rfl) rfl rfl ?_
            refine WQ.nil ?_
            refine WE.then_n ?_
            refine WC.cond_f rfl ?_
            refine WC.skip ?_
            refine WE.block_n ?_
            refine WE.then_n ?_
            refine WC.region ?_
            refine WL.val (v_move rfl rfl) (.none rfl) rfl rfl ?_
            refine WL.val (v_add rfl rfl rfl (w_i64 (by omega) (by omega))) (.none rfl) rfl rfl ?_
            refine WL.val (v_assign rfl rfl) (.none rfl) rfl rfl ?_
            refine WL.nil ?_
            exact WE.next (k + 1) (by omega) ⟨by omega, fun j hj => by
            by_cases e : j = k
            · subst e; exact ⟨by omega, fun h => by unfold Ac.sets; omega⟩
            · exact hok j (by omega)⟩ (.int rfl (by omega) (.cons rfl .nil)) (.refl _)
      · -- 13F
        refine WL.nil ?_
        refine WE.then_n ?_
        refine WC.cond_f rfl ?_
        refine WC.exit ?_
        refine WE.then_exit ?_
        refine WE.then_exit ?_
        refine WE.block_hit ?_
        refine WE.then_n ?_
        refine WC.seq ?_
        refine WC.region ?_
        refine WL.val (v_assign rfl rfl) (.none rfl) rfl rfl ?_
        refine WL.nil ?_
        refine WE.then_n ?_
        refine WC.ret ?_
        refine WE.ret1 (P := Tryd.prog) (.inl rfl) Tryd.results14 rfl ?_
        obtain rfl : k = 9 := (by omega)
        exact fun w' h => ⟨by rw [decide_eq_true ⟨by omega, hok⟩], h.frm⟩
def Ac.one (k : Nat) (val : Int) : Ac := ⟨(2 : Int) ^ k, fun i => if i = k then val else 0⟩
theorem AOn_c (w : World) (k : Nat) (hk : k < 9) (val : Int) (_h0 : 0 ≤ val) (h1 : val ≤ fullI k) (hG : GW w) :
    Calls Tryd.prog 48 #[.int .i64 k, .int .u64 val] w fun e w' => e = .returned (.tuple #[acV (Ac.one k val), .int .i64 0]) ∧ Frm (fun _ => False) w w' := by
  have hp : (1 : Int) ≤ 2 ^ k ∧ (2 : Int) ^ k ≤ 256 := by
    match k, hk with
    | 0, _ | 1, _ | 2, _ | 3, _ | 4, _ | 5, _ | 6, _ | 7, _ | 8, _ => decide
  refine enter Tryd.func48 rfl Tryd.ntmps48 rfl (St.start (fun _ => False) w) ?_
  refine WC.seq ?_
  refine WC.region ?_
  refine WL.alloc rfl zero_25 (.none rfl) rfl rfl ?_
  intro g4 hg4
  refine WL.val (v_assign rfl rfl) (.none rfl) rfl rfl ?_
  refine WL.nil ?_
  refine WE.then_n ?_
  refine WC.seq ?_
  refine WC.seq ?_
  refine WC.region ?_
  refine WL.val (v_move rfl rfl) (.none rfl) rfl rfl ?_
  refine WL.val ((v_lss rfl rfl rfl).f (by omega)) (.none rfl) rfl rfl ?_
  refine WL.val (v_move rfl rfl) (.none rfl) rfl rfl ?_
  refine WL.val (v_move rfl rfl) (.some rfl rfl rfl) rfl rfl ?_
  refine WL.val ((v_geq rfl rfl rfl).f (by omega)) (.some rfl rfl rfl) rfl rfl ?_
  refine WL.val (v_pick_f rfl rfl rfl) (.none rfl) rfl rfl ?_
  refine WL.val (v_move rfl rfl) (.none rfl) rfl rfl ?_
  refine WL.val (v_move rfl rfl) (.some rfl rfl rfl) rfl rfl ?_
  refine WL.val (v_move rfl rfl) (.some rfl rfl rfl) rfl rfl ?_
  refine WL.call rfl rfl ck_30 (.some rfl rfl rfl) rfl rfl ?_
  intro w hS
  refine Calls.then (Full_n w k hk (hG.keep (fun h => h) hS)) hS ?_
  refine WL.val ((v_gtr rfl rfl rfl).f (by omega)) (.some rfl rfl rfl) rfl rfl ?_
  refine WL.val (v_pick_f rfl rfl rfl) (.none rfl) rfl rfl ?_
  refine WL.nil ?_
  refine WE.then_n ?_
  refine WC.cond_f rfl ?_
  refine WC.skip ?_
  refine WE.then_n ?_
  refine WC.seq ?_
  refine WC.region ?_
  refine WL.val (v_move rfl rfl) (.none rfl) rfl rfl ?_
  refine WL.val (v_shl (m := k) (c := (2 : Int) ^ k) rfl rfl rfl rfl (by show k ≤ 64; omega) rfl ((congrArg _ (Int.one_mul _)).trans (w_i64 (by omega) (by omega)))) (.none rfl) rfl rfl ?_
  refine WL.val (v_build rfl rfl zero_25 plc_25 rfl) (.none rfl) rfl rfl ?_
  refine WL.alloc rfl zero_25 (.none rfl) rfl rfl ?_
  intro g6 hg6
  refine WL.storeW rfl rfl rfl rfl many_25 rfl rfl (.none rfl) rfl ?_
  refine WL.as (L' := [.row g6 (acL ⟨(2 : Int) ^ k, fun _ => 0⟩), .row g4 (acL ⟨0, fun _ => 0⟩)]) rfl ?_
  refine WL.nil ?_
  refine WE.then_n ?_
  refine WC.seq ?_
  refine WC.region ?_
  refine WL.val (v_move rfl rfl) (.none rfl) rfl rfl ?_
  refine WL.val (v_move rfl rfl) (.none rfl) rfl rfl ?_
  refine WL.val (v_fieldAddr0 rfl rfl fld_25_1) (.none rfl) rfl rfl ?_
  refine WL.val (v_indexAddrA (lo := k) rfl rfl rfl Tryd.underlying23 sz_22 (by omega) (by omega)) (.none rfl) rfl rfl ?_
  refine WL.store1 rfl rfl rfl rfl one_22 (by show 1 + k * 1 < (acL _).length; unfold acL; rw [List.length_cons, ucs_len]; omega) (.none rfl) rfl ?_
  refine WL.as (L' := [.row g6 (acL (Ac.one k val)), .row g4 (acL ⟨0, fun _ => 0⟩)]) (by
  rw [show 1 + k * 1 = k + 1 by omega]
  unfold acL
  rw [List.set_cons_succ, ucs_set hk]
  rfl) ?_
  refine WL.nil ?_
  refine WE.then_n ?_
  refine WC.seq ?_
  refine WC.region ?_
  refine WL.val (v_loadN rfl rfl many_25 rfl allAt) (.none rfl) rfl rfl ?_
  refine WL.storeW rfl rfl rfl rfl many_25 rfl rfl (.none rfl) rfl ?_
  refine WL.val (v_assign rfl rfl) (.none rfl) rfl rfl ?_
  refine WL.nil ?_
  refine WE.then_n ?_
  refine WC.ret ?_
  refine WE.ret2 (P := Tryd.prog) (.inl rfl) Tryd.results48 (resRow rfl many_25 rfl) rfl ?_
  exact fun w' h => ⟨rfl, h.frm⟩
end Go.Proofs.YtodaanhhnjkncaaDoor
/- policy: a node as a tree, and where its nodes lie. -/
namespace Go.Proofs.YtodaanhhnjkncaaDoor
open Go.RowKit

/-- A node, with where its kids lie. -/
inductive Nd where
  | mk (kind f val mask : Int) (ad : Option Addr) (cap : Nat) (kids : List Nd)
def Nd.kind : Nd → Int | .mk k _ _ _ _ _ _ => k
def Nd.f : Nd → Int | .mk _ f _ _ _ _ _ => f
def Nd.val : Nd → Int | .mk _ _ v _ _ _ _ => v
def Nd.mask : Nd → Int | .mk _ _ _ m _ _ _ => m
def Nd.ad : Nd → Option Addr | .mk _ _ _ _ a _ _ => a
def Nd.cap : Nd → Nat | .mk _ _ _ _ _ c _ => c
def Nd.kids : Nd → List Nd | .mk _ _ _ _ _ _ ks => ks
def ndL (t : Nd) : List Value := [.int .i64 t.kind, .int .i64 t.f, .int .u64 t.val, .int .u64 t.mask, .slice t.ad t.kids.length t.cap]
def ndV (t : Nd) : Value := .agg (ndL t).toArray
mutual
/-- The node's kids lie in this world where the tree says, and theirs. -/
def Nd.At (w : World) : Nd → Prop
  | .mk _ _ _ _ ad _ kids => KidsAt w ad 0 kids
def KidsAt (w : World) (ad : Option Addr) : Nat → List Nd → Prop
  | _, [] => True
  | i, t :: ts => (∃ b o, ad = some ⟨b, o, none⟩ ∧ w.rangeAt b (o + i * 5) (ndL t)) ∧ t.At w ∧ KidsAt w ad (i + 1) ts
end
mutual
/-- Its numbers are numbers of their types. -/
def Nd.In : Nd → Prop
  | .mk k f v m _ _ kids => (-9223372036854775808 ≤ k ∧ k ≤ 9223372036854775807) ∧ (-9223372036854775808 ≤ f ∧ f ≤ 9223372036854775807) ∧ (0 ≤ v ∧ v ≤ 18446744073709551615) ∧ (0 ≤ m ∧ m ≤ 18446744073709551615) ∧ kids.length ≤ 9223372036854775807 ∧ KidsIn kids
def KidsIn : List Nd → Prop
  | [] => True
  | t :: ts => t.In ∧ KidsIn ts
end
theorem KidsAt.get {w : World} {ad : Option Addr} : ∀ (ts : List Nd) (i j : Nat) (t : Nd), KidsAt w ad i ts → ts[j]? = some t → (∃ b o, ad = some ⟨b, o, none⟩ ∧ w.rangeAt b (o + (i + j) * 5) (ndL t)) ∧ t.At w
  | [], _, _, _, _, h => by simp at h
  | t :: ts, i, 0, t', h, ht => by
    simp only [List.getElem?_cons_zero, Option.some.injEq] at ht
    subst ht
    unfold KidsAt at h
    exact ⟨h.1, h.2.1⟩
  | t :: ts, i, j + 1, t', h, ht => by
    unfold KidsAt at h
    rw [List.getElem?_cons_succ] at ht
    have := KidsAt.get ts (i + 1) j t' h.2.2 ht
    rwa [show i + 1 + j = i + (j + 1) by omega] at this
theorem KidsIn.get : ∀ (ts : List Nd) (j : Nat) (t : Nd), KidsIn ts → ts[j]? = some t → t.In
  | [], _, _, _, h => by simp at h
  | t :: ts, 0, t', h, ht => by
    simp only [List.getElem?_cons_zero, Option.some.injEq] at ht
    subst ht
    unfold KidsIn at h
    exact h.1
  | t :: ts, j + 1, t', h, ht => by
    unfold KidsIn at h
    rw [List.getElem?_cons_succ] at ht
    exact KidsIn.get ts j t' h.2 ht
mutual
theorem Nd.At.keep {w w' : World} (hw : ∀ b o cs, w.rangeAt b o cs → w'.rangeAt b o cs) : ∀ t : Nd, t.At w → t.At w'
  | .mk _ _ _ _ ad _ kids, h => by unfold Nd.At at h ⊢; exact KidsAt.keep hw ad 0 kids h
theorem KidsAt.keep {w w' : World} (hw : ∀ b o cs, w.rangeAt b o cs → w'.rangeAt b o cs) (ad : Option Addr) : ∀ (i : Nat) (ts : List Nd), KidsAt w ad i ts → KidsAt w' ad i ts
  | _, [], _ => by unfold KidsAt; trivial
  | i, t :: ts, h => by
    unfold KidsAt at h ⊢
    obtain ⟨⟨b, o, e, hr⟩, h2, h3⟩ := h
    exact ⟨⟨b, o, e, hw _ _ _ hr⟩, Nd.At.keep hw t h2, KidsAt.keep hw ad (i + 1) ts h3⟩
end
theorem Nd.At.kids {w : World} {t : Nd} (h : t.At w) : KidsAt w t.ad 0 t.kids := by cases t; unfold Nd.At at h; exact h
theorem Nd.In.kids {t : Nd} (h : t.In) : KidsIn t.kids := by cases t; unfold Nd.In at h; exact h.2.2.2.2.2
theorem Nd.In.nums {t : Nd} (h : t.In) : (-9223372036854775808 ≤ t.kind ∧ t.kind ≤ 9223372036854775807) ∧ (-9223372036854775808 ≤ t.f ∧ t.f ≤ 9223372036854775807) ∧ (0 ≤ t.val ∧ t.val ≤ 18446744073709551615) ∧ (0 ≤ t.mask ∧ t.mask ≤ 18446744073709551615) ∧ t.kids.length ≤ 9223372036854775807 := by
  cases t; unfold Nd.In at h; exact ⟨h.1, h.2.1, h.2.2.1, h.2.2.2.1, h.2.2.2.2.1⟩
/-- Kid j, and where it lies. -/
theorem Nd.At.kid {w : World} {t u : Nd} {j : Nat} (h : t.At w) (hu : t.kids[j]? = some u) : (∃ b o, t.ad = some ⟨b, o, none⟩ ∧ w.rangeAt b (o + j * 5) (ndL u)) ∧ u.At w := by
  have := h.kids.get _ 0 j u hu
  rwa [Nat.zero_add] at this
/-! ### What is wrong with a node by itself -/
def isFld (f : Int) : Prop := 0 ≤ f ∧ f < 9
instance (f : Int) : Decidable (isFld f) := by unfold isFld; infer_instance
def fitsP (k : Int) (pred : Bool) : Bool := if pred then decide (1 ≤ k ∧ k ≤ 6) else decide (11 ≤ k ∧ k ≤ 17)
def argE (t : Nd) : Int :=
  if t.kind = 3 then (if ¬ isFld t.f ∨ andNotN t.mask (fullI t.f.toNat) ≠ 0 ∨ andNotN t.val t.mask ≠ 0 then 1 else 0)
  else if t.kind = 14 then (if ¬ isFld t.f ∨ t.f = 3 ∨ t.f = 6 ∨ t.val > fullI t.f.toNat then 1 else 0) else 0
def leastK (k : Int) : Int := if k = 4 ∨ k = 13 then 1 else if k = 17 then 3 else 0
def mostK (k : Int) : Int := if k = 4 ∨ k = 13 then 1 else if k = 17 then 3 else if k = 5 ∨ k = 6 ∨ k = 15 ∨ k = 16 then 64 else 0
def formE (t : Nd) : Int := if (t.kids.length : Int) < leastK t.kind ∨ mostK t.kind < t.kids.length then 2 else 0
def predK (k : Int) (place : Nat) : Bool := decide (k = 4 ∨ k = 5 ∨ k = 6 ∨ k = 13 ∨ k = 17 ∧ place = 0)
theorem PField_c (w : World) (f : Int) :
    Calls Tryd.prog 119 #[.int .i64 f] w fun e w' => e = .returned (.bool (decide (isFld f))) ∧ Frm (fun _ => False) w w' := by
  refine enter Tryd.func119 rfl Tryd.ntmps119 rfl (St.start (fun _ => False) w) ?_
  refine WC.seq ?_
  refine WC.region ?_
  refine WL.val (v_assign rfl rfl) (.none rfl) rfl rfl ?_
  refine WL.nil ?_
  refine WE.then_n ?_
  refine WC.seq ?_
  refine WC.region ?_
  refine WL.val (v_move rfl rfl) (.none rfl) rfl rfl ?_
  refine WL.test (v_geq rfl rfl rfl) (.none rfl) rfl rfl (fun h4 => ?_) (fun h4 => ?_)
  · -- 4T
    refine WL.val (v_move rfl rfl) (.none rfl) rfl rfl ?_
    refine WL.val (v_move rfl rfl) (.some rfl rfl rfl) rfl rfl ?_
    refine WL.test (v_lss rfl rfl rfl) (.some rfl rfl rfl) rfl rfl (fun h7 => ?_) (fun h7 => ?_)
    · -- 7T
      refine WL.val (v_pick_t rfl rfl rfl) (.none rfl) rfl rfl ?_
      refine WL.val (v_assign rfl rfl) (.none rfl) rfl rfl ?_
      refine WL.nil ?_
      refine WE.then_n ?_
      refine WC.ret ?_
      refine WE.ret1 (P := Tryd.prog) (.inl rfl) Tryd.results119 rfl ?_
      exact fun w' h => ⟨by rw [decide_eq_true (p := isFld f) ⟨h4, h7⟩], h.frm⟩
    · -- 7F
      refine WL.val (v_pick_t rfl rfl rfl) (.none rfl) rfl rfl ?_
      refine WL.val (v_assign rfl rfl) (.none rfl) rfl rfl ?_
      refine WL.nil ?_
      refine WE.then_n ?_
      refine WC.ret ?_
      refine WE.ret1 (P := Tryd.prog) (.inl rfl) Tryd.results119 rfl ?_
      exact fun w' h => ⟨by rw [decide_eq_false (fun q : isFld f => h7 q.2)], h.frm⟩
  · -- 4F
    refine WL.val (v_move rfl rfl) (.none rfl) rfl rfl ?_
    refine WL.skip rfl rfl rfl rfl rfl rfl ?_
    refine WL.skip rfl rfl rfl rfl rfl rfl ?_
    refine WL.val (v_pick_f rfl rfl rfl) (.none rfl) rfl rfl ?_
    refine WL.val (v_assign rfl rfl) (.none rfl) rfl rfl ?_
    refine WL.nil ?_
    refine WE.then_n ?_
    refine WC.ret ?_
    refine WE.ret1 (P := Tryd.prog) (.inl rfl) Tryd.results119 rfl ?_
    exact fun w' h => ⟨by rw [decide_eq_false (fun q : isFld f => h4 q.1)], h.frm⟩
theorem Fits_c (w : World) (k : Int) (pred : Bool) :
    Calls Tryd.prog 86 #[.int .i64 k, .bool pred] w fun e w' => e = .returned (.bool (fitsP k pred)) ∧ Frm (fun _ => False) w w' := by
  refine enter Tryd.func86 rfl Tryd.ntmps86 rfl (St.start (fun _ => False) w) ?_
  refine WC.seq ?_
  refine WC.region ?_
  refine WL.val (v_assign rfl rfl) (.none rfl) rfl rfl ?_
  refine WL.nil ?_
  refine WE.then_n ?_
  refine WC.seq ?_
  refine WC.seq ?_
  refine WC.region ?_
  refine WL.val (v_move rfl rfl) (.none rfl) rfl rfl ?_
  cases pred
  · -- 5F
    refine WL.nil ?_
    refine WE.then_n ?_
    refine WC.cond_f rfl ?_
    refine WC.skip ?_
    refine WE.then_n ?_
    refine WC.seq ?_
    refine WC.region ?_
    refine WL.val (v_move rfl rfl) (.none rfl) rfl rfl ?_
    refine WL.test (v_geq rfl rfl rfl) (.none rfl) rfl rfl (fun h13 => ?_) (fun h13 => ?_)
    · -- 13T
      refine WL.val (v_move rfl rfl) (.none rfl) rfl rfl ?_
      refine WL.val (v_move rfl rfl) (.some rfl rfl rfl) rfl rfl ?_
      refine WL.test (v_leq rfl rfl rfl) (.some rfl rfl rfl) rfl rfl (fun h16 => ?_) (fun h16 => ?_)
      · -- 16T
        refine WL.val (v_pick_t rfl rfl rfl) (.none rfl) rfl rfl ?_
        refine WL.val (v_assign rfl rfl) (.none rfl) rfl rfl ?_
        refine WL.nil ?_
        refine WE.then_n ?_
        refine WC.ret ?_
        refine WE.ret1 (P := Tryd.prog) (.inl rfl) Tryd.results86 rfl ?_
        exact fun w' h => ⟨by unfold fitsP; first | (rw [if_pos rfl, decide_eq_true (by omega)]) | (rw [if_pos rfl, decide_eq_false (by omega)]) | (rw [if_neg (by decide), decide_eq_true (by omega)]) | (rw [if_neg (by decide), decide_eq_false (by omega)]), h.frm⟩
      · -- 16F
        refine WL.val (v_pick_t rfl rfl rfl) (.none rfl) rfl rfl ?_
        refine WL.val (v_assign rfl rfl) (.none rfl) rfl rfl ?_
        refine WL.nil ?_
        refine WE.then_n ?_
        refine WC.ret ?_
        refine WE.ret1 (P := Tryd.prog) (.inl rfl) Tryd.results86 rfl ?_
        exact fun w' h => ⟨by unfold fitsP; first | (rw [if_pos rfl, decide_eq_true (by omega)]) | (rw [if_pos rfl, decide_eq_false (by omega)]) | (rw [if_neg (by decide), decide_eq_true (by omega)]) | (rw [if_neg (by decide), decide_eq_false (by omega)]), h.frm⟩
    · -- 13F
      refine WL.val (v_move rfl rfl) (.none rfl) rfl rfl ?_
      refine WL.skip rfl rfl rfl rfl rfl rfl ?_
      refine WL.skip rfl rfl rfl rfl rfl rfl ?_
      refine WL.val (v_pick_f rfl rfl rfl) (.none rfl) rfl rfl ?_
      refine WL.val (v_assign rfl rfl) (.none rfl) rfl rfl ?_
      refine WL.nil ?_
      refine WE.then_n ?_
      refine WC.ret ?_
      refine WE.ret1 (P := Tryd.prog) (.inl rfl) Tryd.results86 rfl ?_
      exact fun w' h => ⟨by unfold fitsP; first | (rw [if_pos rfl, decide_eq_true (by omega)]) | (rw [if_pos rfl, decide_eq_false (by omega)]) | (rw [if_neg (by decide), decide_eq_true (by omega)]) | (rw [if_neg (by decide), decide_eq_false (by omega)]), h.frm⟩
  · -- 5T
    refine WL.nil ?_
    refine WE.then_n ?_
    refine WC.cond_t rfl ?_
    refine WC.seq ?_
    refine WC.region ?_
    refine WL.val (v_move rfl rfl) (.none rfl) rfl rfl ?_
    refine WL.test (v_geq rfl rfl rfl) (.none rfl) rfl rfl (fun h7 => ?_) (fun h7 => ?_)
    · -- 7T
      refine WL.val (v_move rfl rfl) (.none rfl) rfl rfl ?_
      refine WL.val (v_move rfl rfl) (.some rfl rfl rfl) rfl rfl ?_
      refine WL.test (v_leq rfl rfl rfl) (.some rfl rfl rfl) rfl rfl (fun h10 => ?_) (fun h10 => ?_)
      · -- 10T
        refine WL.val (v_pick_t rfl rfl rfl) (.none rfl) rfl rfl ?_
        refine WL.val (v_assign rfl rfl) (.none rfl) rfl rfl ?_
        refine WL.nil ?_
        refine WE.then_n ?_
        refine WC.ret ?_
        refine WE.then_ret ?_
        refine WE.ret1 (P := Tryd.prog) (.inl rfl) Tryd.results86 rfl ?_
        exact fun w' h => ⟨by unfold fitsP; first | (rw [if_pos rfl, decide_eq_true (by omega)]) | (rw [if_pos rfl, decide_eq_false (by omega)]) | (rw [if_neg (by decide), decide_eq_true (by omega)]) | (rw [if_neg (by decide), decide_eq_false (by omega)]), h.frm⟩
      · -- 10F
        refine WL.val (v_pick_t rfl rfl rfl) (.none rfl) rfl rfl ?_
        refine WL.val (v_assign rfl rfl) (.none rfl) rfl rfl ?_
        refine WL.nil ?_
        refine WE.then_n ?_
        refine WC.ret ?_
        refine WE.then_ret ?_
        refine WE.ret1 (P := Tryd.prog) (.inl rfl) Tryd.results86 rfl ?_
        exact fun w' h => ⟨by unfold fitsP; first | (rw [if_pos rfl, decide_eq_true (by omega)]) | (rw [if_pos rfl, decide_eq_false (by omega)]) | (rw [if_neg (by decide), decide_eq_true (by omega)]) | (rw [if_neg (by decide), decide_eq_false (by omega)]), h.frm⟩
    · -- 7F
      refine WL.val (v_move rfl rfl) (.none rfl) rfl rfl ?_
      refine WL.skip rfl rfl rfl rfl rfl rfl ?_
      refine WL.skip rfl rfl rfl rfl rfl rfl ?_
      refine WL.val (v_pick_f rfl rfl rfl) (.none rfl) rfl rfl ?_
      refine WL.val (v_assign rfl rfl) (.none rfl) rfl rfl ?_
      refine WL.nil ?_
      refine WE.then_n ?_
      refine WC.ret ?_
      refine WE.then_ret ?_
      refine WE.ret1 (P := Tryd.prog) (.inl rfl) Tryd.results86 rfl ?_
      exact fun w' h => ⟨by unfold fitsP; first | (rw [if_pos rfl, decide_eq_true (by omega)]) | (rw [if_pos rfl, decide_eq_false (by omega)]) | (rw [if_neg (by decide), decide_eq_true (by omega)]) | (rw [if_neg (by decide), decide_eq_false (by omega)]), h.frm⟩
theorem PredKid_c (w : World) (t : Nd) (place : Nat) :
    Calls Tryd.prog 89 #[ndV t, .int .i64 place] w fun e w' => e = .returned (.bool (predK t.kind place)) ∧ Frm (fun _ => False) w w' := by
  refine enter Tryd.func89 rfl Tryd.ntmps89 rfl (St.start (fun _ => False) w) ?_
  refine WC.seq ?_
  refine WC.region ?_
  refine WL.box rfl rfl rfl (.none rfl) rfl rfl ?_
  intro g2 hg2
  refine WL.val (v_assign rfl rfl) (.none rfl) rfl rfl ?_
  refine WL.nil ?_
  refine WE.then_n ?_
  refine WC.seq ?_
  refine WC.seq ?_
  refine WC.region ?_
  refine WL.val (v_fieldAddr0 rfl rfl fld_45_0) (.none rfl) rfl rfl ?_
  refine WL.val (v_load1 rfl rfl one_3 (cellAt rfl)) (.none rfl) rfl rfl ?_
  refine WL.nil ?_
  refine WE.then_n ?_
  refine WC.block ?_
  refine WC.seq ?_
  refine WC.seq ?_
  refine WC.region ?_
  refine WL.test (v_eql rfl rfl rfl) (.none rfl) rfl rfl (fun h8 => ?_) (fun h8 => ?_)
  · -- 8T
    refine WL.val (v_assign rfl rfl) (.none rfl) rfl rfl ?_
    refine WL.nil ?_
    refine WE.then_n ?_
    refine WC.cond_t rfl ?_
    refine WC.skip ?_
    refine WE.then_n ?_
    refine WC.cond_t rfl ?_
    refine WC.seq ?_
    refine WC.region ?_
    refine WL.val (v_assign rfl rfl) (.none rfl) rfl rfl ?_
    refine WL.nil ?_
    refine WE.then_n ?_
    refine WC.ret ?_
    refine WE.block_ret ?_
    refine WE.then_ret ?_
    refine WE.ret1 (P := Tryd.prog) (.inl rfl) Tryd.results89 rfl ?_
    exact fun w' h => ⟨by unfold predK; first | rw [decide_eq_true (by omega)] | rw [decide_eq_false (by omega)], h.frm⟩
  · -- 8F
    refine WL.val (v_assign rfl rfl) (.none rfl) rfl rfl ?_
    refine WL.nil ?_
    refine WE.then_n ?_
    refine WC.cond_f rfl ?_
    refine WC.seq ?_
    refine WC.region ?_
    refine WL.test (v_eql rfl rfl rfl) (.none rfl) rfl rfl (fun h9 => ?_) (fun h9 => ?_)
    · -- 9T
      refine WL.val (v_assign rfl rfl) (.none rfl) rfl rfl ?_
      refine WL.nil ?_
      refine WE.then_n ?_
      refine WC.cond_t rfl ?_
      refine WC.skip ?_
      refine WE.then_n ?_
      refine WC.cond_t rfl ?_
      refine WC.seq ?_
      refine WC.region ?_
      refine WL.val (v_assign rfl rfl) (.none rfl) rfl rfl ?_
      refine WL.nil ?_
      refine WE.then_n ?_
      refine WC.ret ?_
      refine WE.block_ret ?_
      refine WE.then_ret ?_
      refine WE.ret1 (P := Tryd.prog) (.inl rfl) Tryd.results89 rfl ?_
      exact fun w' h => ⟨by unfold predK; first | rw [decide_eq_true (by omega)] | rw [decide_eq_false (by omega)], h.frm⟩
    · -- 9F
      refine WL.val (v_assign rfl rfl) (.none rfl) rfl rfl ?_
      refine WL.nil ?_
      refine WE.then_n ?_
      refine WC.cond_f rfl ?_
      refine WC.seq ?_
      refine WC.region ?_
      refine WL.test (v_eql rfl rfl rfl) (.none rfl) rfl rfl (fun h10 => ?_) (fun h10 => ?_)
      · -- 10T
        refine WL.val (v_assign rfl rfl) (.none rfl) rfl rfl ?_
        refine WL.nil ?_
        refine WE.then_n ?_
        refine WC.cond_t rfl ?_
        refine WC.skip ?_
        refine WE.then_n ?_
        refine WC.cond_t rfl ?_
        refine WC.seq ?_
        refine WC.region ?_
        refine WL.val (v_assign rfl rfl) (.none rfl) rfl rfl ?_
        refine WL.nil ?_
        refine WE.then_n ?_
        refine WC.ret ?_
        refine WE.block_ret ?_
        refine WE.then_ret ?_
        refine WE.ret1 (P := Tryd.prog) (.inl rfl) Tryd.results89 rfl ?_
        exact fun w' h => ⟨by unfold predK; first | rw [decide_eq_true (by omega)] | rw [decide_eq_false (by omega)], h.frm⟩
      · -- 10F
        refine WL.val (v_assign rfl rfl) (.none rfl) rfl rfl ?_
        refine WL.nil ?_
        refine WE.then_n ?_
        refine WC.cond_f rfl ?_
        refine WC.region ?_
        refine WL.test (v_eql rfl rfl rfl) (.none rfl) rfl rfl (fun h11 => ?_) (fun h11 => ?_)
        · -- 11T
          refine WL.val (v_assign rfl rfl) (.none rfl) rfl rfl ?_
          refine WL.nil ?_
          refine WE.then_n ?_
          refine WC.cond_t rfl ?_
          refine WC.seq ?_
          refine WC.region ?_
          refine WL.val (v_assign rfl rfl) (.none rfl) rfl rfl ?_
          refine WL.nil ?_
          refine WE.then_n ?_
          refine WC.ret ?_
          refine WE.block_ret ?_
          refine WE.then_ret ?_
          refine WE.ret1 (P := Tryd.prog) (.inl rfl) Tryd.results89 rfl ?_
          exact fun w' h => ⟨by unfold predK; first | rw [decide_eq_true (by omega)] | rw [decide_eq_false (by omega)], h.frm⟩
        · -- 11F
          refine WL.val (v_assign rfl rfl) (.none rfl) rfl rfl ?_
          refine WL.nil ?_
          refine WE.then_n ?_
          refine WC.cond_f rfl ?_
          refine WC.seq ?_
          refine WC.region ?_
          refine WL.test (v_eql rfl rfl rfl) (.none rfl) rfl rfl (fun h13 => ?_) (fun h13 => ?_)
          · -- 13T
            refine WL.val (v_assign rfl rfl) (.none rfl) rfl rfl ?_
            refine WL.nil ?_
            refine WE.then_n ?_
            refine WC.cond_t rfl ?_
            refine WC.seq ?_
            refine WC.region ?_
            refine WL.val (v_move rfl rfl) (.none rfl) rfl rfl ?_
            refine WL.test (v_eql rfl rfl rfl) (.none rfl) rfl rfl (fun h15 => ?_) (fun h15 => ?_)
            · -- 15T
              refine WL.val (v_assign rfl rfl) (.none rfl) rfl rfl ?_
              refine WL.nil ?_
              refine WE.then_n ?_
              refine WC.ret ?_
              refine WE.block_ret ?_
              refine WE.then_ret ?_
              refine WE.ret1 (P := Tryd.prog) (.inl rfl) Tryd.results89 rfl ?_
              exact fun w' h => ⟨by unfold predK; first | rw [decide_eq_true (by omega)] | rw [decide_eq_false (by omega)], h.frm⟩
            · -- 15F
              refine WL.val (v_assign rfl rfl) (.none rfl) rfl rfl ?_
              refine WL.nil ?_
              refine WE.then_n ?_
              refine WC.ret ?_
              refine WE.block_ret ?_
              refine WE.then_ret ?_
              refine WE.ret1 (P := Tryd.prog) (.inl rfl) Tryd.results89 rfl ?_
              exact fun w' h => ⟨by unfold predK; first | rw [decide_eq_true (by omega)] | rw [decide_eq_false (by omega)], h.frm⟩
          · -- 13F
            refine WL.val (v_assign rfl rfl) (.none rfl) rfl rfl ?_
            refine WL.nil ?_
            refine WE.then_n ?_
            refine WC.cond_f rfl ?_
            refine WC.skip ?_
            refine WE.block_n ?_
            refine WE.then_n ?_
            refine WC.seq ?_
            refine WC.region ?_
            refine WL.val (v_assign rfl rfl) (.none rfl) rfl rfl ?_
            refine WL.nil ?_
            refine WE.then_n ?_
            refine WC.ret ?_
            refine WE.ret1 (P := Tryd.prog) (.inl rfl) Tryd.results89 rfl ?_
            exact fun w' h => ⟨by unfold predK; first | rw [decide_eq_true (by omega)] | rw [decide_eq_false (by omega)], h.frm⟩
end Go.Proofs.YtodaanhhnjkncaaDoor
/- policy: what is wrong with a node; the walk of a tree. -/
namespace Go.Proofs.YtodaanhhnjkncaaDoor
open Go.RowKit

theorem Form_c (w : World) (t : Nd) (ht : t.In) :
    Calls Tryd.prog 88 #[ndV t] w fun e w' => e = .returned (.int .i64 (formE t)) ∧ Frm (fun _ => False) w w' := by
  have hn := ht.nums.2.2.2.2
  refine enter Tryd.func88 rfl Tryd.ntmps88 rfl (St.start (fun _ => False) w) ?_
  refine WC.seq ?_
  refine WC.region ?_
  refine WL.box rfl rfl rfl (.none rfl) rfl rfl ?_
  intro g1 hg1
  refine WL.val (v_assign rfl rfl) (.none rfl) rfl rfl ?_
  refine WL.nil ?_
  refine WE.then_n ?_
  refine WC.seq ?_
  refine WC.region ?_
  refine WL.val (v_assign rfl rfl) (.none rfl) rfl rfl ?_
  refine WL.val (v_assign rfl rfl) (.none rfl) rfl rfl ?_
  refine WL.nil ?_
  refine WE.then_n ?_
  refine WC.cut (fun x : Int × Int => [(3, .int .i64 x.1), (4, .int .i64 x.2), (1, .pointer (some ⟨g1, 0, none⟩))]) (fun _ => [.row g1 (ndL t)]) (fun x => x.1 = leastK t.kind ∧ x.2 = mostK t.kind) ?_ ?_
  · -- cutb0
    refine WC.seq ?_
    refine WC.region ?_
    refine WL.val (v_fieldAddr0 rfl rfl fld_45_0) (.none rfl) rfl rfl ?_
    refine WL.val (v_load1 rfl rfl one_3 (cellAt rfl)) (.none rfl) rfl rfl ?_
    refine WL.nil ?_
    refine WE.then_n ?_
    refine WC.block ?_
    refine WC.seq ?_
    refine WC.seq ?_
    refine WC.region ?_
    refine WL.test (v_eql rfl rfl rfl) (.none rfl) rfl rfl (fun h8 => ?_) (fun h8 => ?_)
    · -- 8T
      refine WL.val (v_assign rfl rfl) (.none rfl) rfl rfl ?_
      refine WL.nil ?_
      refine WE.then_n ?_
      refine WC.cond_t rfl ?_
      refine WC.skip ?_
      refine WE.then_n ?_
      refine WC.cond_t rfl ?_
      refine WC.region ?_
      refine WL.val (v_assign rfl rfl) (.none rfl) rfl rfl ?_
      refine WL.val (v_assign rfl rfl) (.none rfl) rfl rfl ?_
      refine WL.nil ?_
      refine WE.block_n ?_
      exact WE.mid (1, 1) ⟨by unfold leastK; rw [if_pos (by omega)], by unfold mostK; rw [if_pos (by omega)]⟩ (.cons rfl (.cons rfl (.cons rfl .nil))) (.refl _)
    · -- 8F
      refine WL.val (v_assign rfl rfl) (.none rfl) rfl rfl ?_
      refine WL.nil ?_
      refine WE.then_n ?_
      refine WC.cond_f rfl ?_
      refine WC.region ?_
      refine WL.test (v_eql rfl rfl rfl) (.none rfl) rfl rfl (fun h9 => ?_) (fun h9 => ?_)
      · -- 9T
        refine WL.val (v_assign rfl rfl) (.none rfl) rfl rfl ?_
        refine WL.nil ?_
        refine WE.then_n ?_
        refine WC.cond_t rfl ?_
        refine WC.region ?_
        refine WL.val (v_assign rfl rfl) (.none rfl) rfl rfl ?_
        refine WL.val (v_assign rfl rfl) (.none rfl) rfl rfl ?_
        refine WL.nil ?_
        refine WE.block_n ?_
        exact WE.mid (1, 1) ⟨by unfold leastK; rw [if_pos (by omega)], by unfold mostK; rw [if_pos (by omega)]⟩ (.cons rfl (.cons rfl (.cons rfl .nil))) (.refl _)
      · -- 9F
        refine WL.val (v_assign rfl rfl) (.none rfl) rfl rfl ?_
        refine WL.nil ?_
        refine WE.then_n ?_
        refine WC.cond_f rfl ?_
        refine WC.seq ?_
        refine WC.region ?_
        refine WL.test (v_eql rfl rfl rfl) (.none rfl) rfl rfl (fun h11 => ?_) (fun h11 => ?_)
        · -- 11T
          refine WL.val (v_assign rfl rfl) (.none rfl) rfl rfl ?_
          refine WL.nil ?_
          refine WE.then_n ?_
          refine WC.cond_t rfl ?_
          refine WC.region ?_
          refine WL.val (v_assign rfl rfl) (.none rfl) rfl rfl ?_
          refine WL.val (v_assign rfl rfl) (.none rfl) rfl rfl ?_
          refine WL.nil ?_
          refine WE.block_n ?_
          exact WE.mid (3, 3) ⟨by unfold leastK; rw [if_neg (by omega), if_pos (by omega)], by unfold mostK; rw [if_neg (by omega), if_pos (by omega)]⟩ (.cons rfl (.cons rfl (.cons rfl .nil))) (.refl _)
        · -- 11F
          refine WL.val (v_assign rfl rfl) (.none rfl) rfl rfl ?_
          refine WL.nil ?_
          refine WE.then_n ?_
          refine WC.cond_f rfl ?_
          refine WC.seq ?_
          refine WC.seq ?_
          refine WC.region ?_
          refine WL.test (v_eql rfl rfl rfl) (.none rfl) rfl rfl (fun h13 => ?_) (fun h13 => ?_)
          · -- 13T
            refine WL.val (v_assign rfl rfl) (.none rfl) rfl rfl ?_
            refine WL.nil ?_
            refine WE.then_n ?_
            refine WC.cond_t rfl ?_
            refine WC.skip ?_
            refine WE.then_n ?_
            refine WC.cond_t rfl ?_
            refine WC.region ?_
            refine WL.val (v_assign rfl rfl) (.none rfl) rfl rfl ?_
            refine WL.nil ?_
            refine WE.block_n ?_
            exact WE.mid (0, 64) ⟨by unfold leastK; rw [if_neg (by omega), if_neg (by omega)], by unfold mostK; rw [if_neg (by omega), if_neg (by omega), if_pos (by omega)]⟩ (.cons rfl (.cons rfl (.cons rfl .nil))) (.refl _)
          · -- 13F
            refine WL.val (v_assign rfl rfl) (.none rfl) rfl rfl ?_
            refine WL.nil ?_
            refine WE.then_n ?_
            refine WC.cond_f rfl ?_
            refine WC.seq ?_
            refine WC.region ?_
            refine WL.test (v_eql rfl rfl rfl) (.none rfl) rfl rfl (fun h14 => ?_) (fun h14 => ?_)
            · -- 14T
              refine WL.val (v_assign rfl rfl) (.none rfl) rfl rfl ?_
              refine WL.nil ?_
              refine WE.then_n ?_
              refine WC.cond_t rfl ?_
              refine WC.skip ?_
              refine WE.then_n ?_
              refine WC.cond_t rfl ?_
              refine WC.region ?_
              refine WL.val (v_assign rfl rfl) (.none rfl) rfl rfl ?_
              refine WL.nil ?_
              refine WE.block_n ?_
              exact WE.mid (0, 64) ⟨by unfold leastK; rw [if_neg (by omega), if_neg (by omega)], by unfold mostK; rw [if_neg (by omega), if_neg (by omega), if_pos (by omega)]⟩ (.cons rfl (.cons rfl (.cons rfl .nil))) (.refl _)
            · -- 14F
              refine WL.val (v_assign rfl rfl) (.none rfl) rfl rfl ?_
              refine WL.nil ?_
              refine WE.then_n ?_
              refine WC.cond_f rfl ?_
              refine WC.seq ?_
              refine WC.region ?_
              refine WL.test (v_eql rfl rfl rfl) (.none rfl) rfl rfl (fun h15 => ?_) (fun h15 => ?_)
              · -- 15T
                refine WL.val (v_assign rfl rfl) (.none rfl) rfl rfl ?_
                refine WL.nil ?_
                refine WE.then_n ?_
                refine WC.cond_t rfl ?_
                refine WC.skip ?_
                refine WE.then_n ?_
                refine WC.cond_t rfl ?_
                refine WC.region ?_
                refine WL.val (v_assign rfl rfl) (.none rfl) rfl rfl ?_
                refine WL.nil ?_
                refine WE.block_n ?_
                exact WE.mid (0, 64) ⟨by unfold leastK; rw [if_neg (by omega), if_neg (by omega)], by unfold mostK; rw [if_neg (by omega), if_neg (by omega), if_pos (by omega)]⟩ (.cons rfl (.cons rfl (.cons rfl .nil))) (.refl _)
              · -- 15F
                refine WL.val (v_assign rfl rfl) (.none rfl) rfl rfl ?_
                refine WL.nil ?_
                refine WE.then_n ?_
                refine WC.cond_f rfl ?_
                refine WC.region ?_
                refine WL.test (v_eql rfl rfl rfl) (.none rfl) rfl rfl (fun h16 => ?_) (fun h16 => ?_)
                · -- 16T
                  refine WL.val (v_assign rfl rfl) (.none rfl) rfl rfl ?_
                  refine WL.nil ?_
                  refine WE.then_n ?_
                  refine WC.cond_t rfl ?_
                  refine WC.region ?_
                  refine WL.val (v_assign rfl rfl) (.none rfl) rfl rfl ?_
                  refine WL.nil ?_
                  refine WE.block_n ?_
                  exact WE.mid (0, 64) ⟨by unfold leastK; rw [if_neg (by omega), if_neg (by omega)], by unfold mostK; rw [if_neg (by omega), if_neg (by omega), if_pos (by omega)]⟩ (.cons rfl (.cons rfl (.cons rfl .nil))) (.refl _)
                · -- 16F
                  refine WL.val (v_assign rfl rfl) (.none rfl) rfl rfl ?_
                  refine WL.nil ?_
                  refine WE.then_n ?_
                  refine WC.cond_f rfl ?_
                  refine WC.skip ?_
                  refine WE.block_n ?_
                  exact WE.mid (0, 0) ⟨by unfold leastK; rw [if_neg (by omega), if_neg (by omega)], by unfold mostK; rw [if_neg (by omega), if_neg (by omega), if_neg (by omega)]⟩ (.cons rfl (.cons rfl (.cons rfl .nil))) (.refl _)
  · -- behind cutb0
    rintro ⟨le, mo⟩ ⟨h1, h2⟩
    dsimp only at h1 h2
    dsimp only
    refine WC.seq ?_
    refine WC.seq ?_
    refine WC.region ?_
    refine WL.val (v_fieldAddr0 rfl rfl fld_45_4) (.none rfl) rfl rfl ?_
    refine WL.val (v_load1 rfl rfl one_43 (cellAt rfl)) (.none rfl) rfl rfl ?_
    refine WL.val (v_len_slice rfl rfl Tryd.underlying43) (.none rfl) rfl rfl ?_
    refine WL.val (v_move rfl rfl) (.none rfl) rfl rfl ?_
    refine WL.test (v_lss rfl rfl rfl) (.none rfl) rfl rfl (fun h21 => ?_) (fun h21 => ?_)
    · -- 21T
      refine WL.val (v_move rfl rfl) (.none rfl) rfl rfl ?_
      refine WL.skip rfl rfl rfl rfl rfl rfl ?_
      refine WL.skip rfl rfl rfl rfl rfl rfl ?_
      refine WL.skip rfl rfl rfl rfl rfl rfl ?_
      refine WL.skip rfl rfl rfl rfl rfl rfl ?_
      refine WL.skip rfl rfl rfl rfl rfl rfl ?_
      refine WL.val (v_pick_t rfl rfl rfl) (.none rfl) rfl rfl ?_
      refine WL.nil ?_
      refine WE.then_n ?_
      refine WC.cond_t rfl ?_
      refine WC.seq ?_
      refine WC.region ?_
      refine WL.val (v_assign rfl rfl) (.none rfl) rfl rfl ?_
      refine WL.nil ?_
      refine WE.then_n ?_
      refine WC.ret ?_
      refine WE.then_ret ?_
      refine WE.ret1 (P := Tryd.prog) (.inl rfl) Tryd.results88 rfl ?_
      exact fun w' h => ⟨by unfold formE; first | rw [if_pos (by omega)] | rw [if_neg (by omega)], h.frm⟩
    · -- 21F
      refine WL.val (v_move rfl rfl) (.none rfl) rfl rfl ?_
      refine WL.val (v_fieldAddr0 rfl rfl fld_45_4) (.some rfl rfl rfl) rfl rfl ?_
      refine WL.val (v_load1 rfl rfl one_43 (cellAt rfl)) (.some rfl rfl rfl) rfl rfl ?_
      refine WL.val (v_len_slice rfl rfl Tryd.underlying43) (.some rfl rfl rfl) rfl rfl ?_
      refine WL.val (v_move rfl rfl) (.some rfl rfl rfl) rfl rfl ?_
      refine WL.test (v_gtr rfl rfl rfl) (.some rfl rfl rfl) rfl rfl (fun h27 => ?_) (fun h27 => ?_)
      · -- 27T
        refine WL.val (v_pick_f rfl rfl rfl) (.none rfl) rfl rfl ?_
        refine WL.nil ?_
        refine WE.then_n ?_
        refine WC.cond_t rfl ?_
        refine WC.seq ?_
        refine WC.region ?_
        refine WL.val (v_assign rfl rfl) (.none rfl) rfl rfl ?_
        refine WL.nil ?_
        refine WE.then_n ?_
        refine WC.ret ?_
        refine WE.then_ret ?_
        refine WE.ret1 (P := Tryd.prog) (.inl rfl) Tryd.results88 rfl ?_
        exact fun w' h => ⟨by unfold formE; first | rw [if_pos (by omega)] | rw [if_neg (by omega)], h.frm⟩
      · -- 27F
        refine WL.val (v_pick_f rfl rfl rfl) (.none rfl) rfl rfl ?_
        refine WL.nil ?_
        refine WE.then_n ?_
        refine WC.cond_f rfl ?_
        refine WC.skip ?_
        refine WE.then_n ?_
        refine WC.seq ?_
        refine WC.region ?_
        refine WL.val (v_assign rfl rfl) (.none rfl) rfl rfl ?_
        refine WL.nil ?_
        refine WE.then_n ?_
        refine WC.ret ?_
        refine WE.ret1 (P := Tryd.prog) (.inl rfl) Tryd.results88 rfl ?_
        exact fun w' h => ⟨by unfold formE; first | rw [if_pos (by omega)] | rw [if_neg (by omega)], h.frm⟩
theorem isFld.nat {f : Int} (h : isFld f) : ∃ k : Nat, f = k ∧ k < 9 ∧ f.toNat = k := ⟨f.toNat, by have := h.1; omega, by have := h.2; omega, rfl⟩
theorem Argu_c (w : World) (t : Nd) (ht : t.In) (hG : GW w) :
    Calls Tryd.prog 87 #[ndV t] w fun e w' => e = .returned (.int .i64 (argE t)) ∧ Frm (fun _ => False) w w' := by
  obtain ⟨_, _, hv, hm, _⟩ := ht.nums
  have hfu := fullI_u64 t.f.toNat
  have full : ∀ w, GW w → isFld t.f → Calls Tryd.prog 30 #[.int .i64 t.f] w fun e w' => e = .returned (.int .u64 (fullI t.f.toNat)) ∧ Frm (fun _ => False) w w' := fun w hG h => by
    obtain ⟨k, e, hk, e2⟩ := h.nat
    rw [e2, e]
    exact Full_n w k hk hG
  refine enter Tryd.func87 rfl Tryd.ntmps87 rfl (St.start (fun _ => False) w) ?_
  refine WC.seq ?_
  refine WC.region ?_
  refine WL.box rfl rfl rfl (.none rfl) rfl rfl ?_
  intro g1 hg1
  refine WL.val (v_assign rfl rfl) (.none rfl) rfl rfl ?_
  refine WL.nil ?_
  refine WE.then_n ?_
  refine WC.seq ?_
  refine WC.seq ?_
  refine WC.region ?_
  refine WL.val (v_fieldAddr0 rfl rfl fld_45_0) (.none rfl) rfl rfl ?_
  refine WL.val (v_load1 rfl rfl one_3 (cellAt rfl)) (.none rfl) rfl rfl ?_
  refine WL.nil ?_
  refine WE.then_n ?_
  refine WC.block ?_
  refine WC.seq ?_
  refine WC.region ?_
  refine WL.test (v_eql rfl rfl rfl) (.none rfl) rfl rfl (fun h6 => ?_) (fun h6 => ?_)
  · -- 6T
    refine WL.val (v_assign rfl rfl) (.none rfl) rfl rfl ?_
    refine WL.nil ?_
    refine WE.then_n ?_
    refine WC.cond_t rfl ?_
    refine WC.seq ?_
    refine WC.quiet mixed (by kernel_rfl) ?_
    refine WQ.val (v_fieldAddr0 rfl rfl fld_45_1) (.none rfl) rfl rfl ?_
    refine WQ.val (v_load1 rfl rfl one_37 (cellAt rfl)) (.none rfl) rfl rfl ?_
    refine WQ.call _ rfl rfl ck_119 (.none rfl) rfl rfl (fun w hS => Calls.still (PField_c w t.f) hS) ?_
    generalize hb9 : decide (isFld t.f) = bb
    cases bb
    · -- 9F
      refine WQ.val (v_not rfl rfl rfl) (.none rfl) rfl rfl ?_
      refine WQ.val (v_move rfl rfl) (.none rfl) rfl rfl ?_
      refine WQ.skip rfl rfl rfl rfl rfl rfl ?_
      refine WQ.skip rfl rfl rfl rfl rfl rfl ?_
      refine WQ.skip rfl rfl rfl rfl rfl rfl ?_
      refine WQ.skip rfl rfl rfl rfl rfl rfl ?_
      refine WQ.skip rfl rfl rfl rfl rfl rfl ?_
      refine WQ.skip rfl rfl rfl rfl rfl rfl ?_
      refine WQ.skip rfl rfl rfl rfl rfl rfl ?_
      refine WQ.val (v_pick_t rfl rfl rfl) (.none rfl) rfl rfl ?_
      refine WQ.val (v_move rfl rfl) (.none rfl) rfl rfl ?_
      refine WQ.skip rfl rfl rfl rfl rfl rfl ?_
      refine WQ.skip rfl rfl rfl rfl rfl rfl ?_
      refine WQ.skip rfl rfl rfl rfl rfl rfl ?_
      refine WQ.skip rfl rfl rfl rfl rfl rfl ?_
      refine WQ.skip rfl rfl rfl rfl rfl rfl ?_
      refine WQ.skip rfl rfl rfl rfl rfl rfl ?_
      refine WQ.val (v_pick_t rfl rfl rfl) (.none rfl) rfl rfl ?_
      refine WQ.nil ?_
      refine WE.then_n ?_
      refine WC.cond_t rfl ?_
      refine WC.seq ?_
      refine WC.region ?_
      refine WL.val (v_assign rfl rfl) (.none rfl) rfl rfl ?_
      refine WL.nil ?_
      refine WE.then_n ?_
      refine WC.ret ?_
      refine WE.block_ret ?_
      refine WE.then_ret ?_
      refine WE.ret1 (P := Tryd.prog) (.inl rfl) Tryd.results87 rfl ?_
      exact fun w' h => ⟨by unfold argE; rw [if_pos h6, if_pos (.inl (of_decide_eq_false hb9))], h.frm⟩
    · -- 9T
      refine WQ.val (v_not rfl rfl rfl) (.none rfl) rfl rfl ?_
      refine WQ.val (v_move rfl rfl) (.none rfl) rfl rfl ?_
      refine WQ.val (v_fieldAddr0 rfl rfl fld_45_3) (.some rfl rfl rfl) rfl rfl ?_
      refine WQ.val (v_load1 rfl rfl one_22 (cellAt rfl)) (.some rfl rfl rfl) rfl rfl ?_
      refine WQ.val (v_fieldAddr0 rfl rfl fld_45_1) (.some rfl rfl rfl) rfl rfl ?_
      refine WQ.val (v_load1 rfl rfl one_37 (cellAt rfl)) (.some rfl rfl rfl) rfl rfl ?_
      refine WQ.call _ rfl rfl ck_30 (.some rfl rfl rfl) rfl rfl (fun w hS => Calls.still (full w (hG.keep (fun h => h) hS) (of_decide_eq_true hb9)) hS) ?_
      refine WQ.val (v_andNot rfl rfl rfl (bits_andNot_u64 hm.1 hm.2 hfu.1 hfu.2)) (.some rfl rfl rfl) rfl rfl ?_
      refine WQ.test (v_neq rfl rfl rfl) (.some rfl rfl rfl) rfl rfl (fun h18 => ?_) (fun h18 => ?_)
      · -- 18T
        refine WQ.val (v_pick_f rfl rfl rfl) (.none rfl) rfl rfl ?_
        refine WQ.val (v_move rfl rfl) (.none rfl) rfl rfl ?_
        refine WQ.skip rfl rfl rfl rfl rfl rfl ?_
        refine WQ.skip rfl rfl rfl rfl rfl rfl ?_
        refine WQ.skip rfl rfl rfl rfl rfl rfl ?_
        refine WQ.skip rfl rfl rfl rfl rfl rfl ?_
        refine WQ.skip rfl rfl rfl rfl rfl rfl ?_
        refine WQ.skip rfl rfl rfl rfl rfl rfl ?_
        refine WQ.val (v_pick_t rfl rfl rfl) (.none rfl) rfl rfl ?_
        refine WQ.nil ?_
        refine WE.then_n ?_
        refine WC.cond_t rfl ?_
        refine WC.seq ?_
        refine WC.region ?_
        refine WL.val (v_assign rfl rfl) (.none rfl) rfl rfl ?_
        refine WL.nil ?_
        refine WE.then_n ?_
        refine WC.ret ?_
        refine WE.block_ret ?_
        refine WE.then_ret ?_
        refine WE.ret1 (P := Tryd.prog) (.inl rfl) Tryd.results87 rfl ?_
        exact fun w' h => ⟨by unfold argE; rw [if_pos h6, if_pos (.inr (.inl h18))], h.frm⟩
      · -- 18F
        refine WQ.val (v_pick_f rfl rfl rfl) (.none rfl) rfl rfl ?_
        refine WQ.val (v_move rfl rfl) (.none rfl) rfl rfl ?_
        refine WQ.val (v_fieldAddr0 rfl rfl fld_45_2) (.some rfl rfl rfl) rfl rfl ?_
        refine WQ.val (v_load1 rfl rfl one_22 (cellAt rfl)) (.some rfl rfl rfl) rfl rfl ?_
        refine WQ.val (v_fieldAddr0 rfl rfl fld_45_3) (.some rfl rfl rfl) rfl rfl ?_
        refine WQ.val (v_load1 rfl rfl one_22 (cellAt rfl)) (.some rfl rfl rfl) rfl rfl ?_
        refine WQ.val (v_andNot rfl rfl rfl (bits_andNot_u64 hv.1 hv.2 hm.1 hm.2)) (.some rfl rfl rfl) rfl rfl ?_
        refine WQ.test (v_neq rfl rfl rfl) (.some rfl rfl rfl) rfl rfl (fun h26 => ?_) (fun h26 => ?_)
        · -- 26T
          refine WQ.val (v_pick_f rfl rfl rfl) (.none rfl) rfl rfl ?_
          refine WQ.nil ?_
          refine WE.then_n ?_
          refine WC.cond_t rfl ?_
          refine WC.seq ?_
          refine WC.region ?_
          refine WL.val (v_assign rfl rfl) (.none rfl) rfl rfl ?_
          refine WL.nil ?_
          refine WE.then_n ?_
          refine WC.ret ?_
          refine WE.block_ret ?_
          refine WE.then_ret ?_
          refine WE.ret1 (P := Tryd.prog) (.inl rfl) Tryd.results87 rfl ?_
          exact fun w' h => ⟨by unfold argE; rw [if_pos h6, if_pos (.inr (.inr h26))], h.frm⟩
        · -- 26F
          refine WQ.val (v_pick_f rfl rfl rfl) (.none rfl) rfl rfl ?_
          refine WQ.nil ?_
          refine WE.then_n ?_
          refine WC.cond_f rfl ?_
          refine WC.skip ?_
          refine WE.block_n ?_
          refine WE.then_n ?_
          refine WC.seq ?_
          refine WC.region ?_
          refine WL.val (v_assign rfl rfl) (.none rfl) rfl rfl ?_
          refine WL.nil ?_
          refine WE.then_n ?_
          refine WC.ret ?_
          refine WE.ret1 (P := Tryd.prog) (.inl rfl) Tryd.results87 rfl ?_
          have hb9 := of_decide_eq_true hb9
          exact fun w' h => ⟨by unfold argE; rw [if_pos h6, if_neg (fun q => by rcases q with q | q | q <;> contradiction)], h.frm⟩
  · -- 6F
    refine WL.val (v_assign rfl rfl) (.none rfl) rfl rfl ?_
    refine WL.nil ?_
    refine WE.then_n ?_
    refine WC.cond_f rfl ?_
    refine WC.seq ?_
    refine WC.region ?_
    refine WL.test (v_eql rfl rfl rfl) (.none rfl) rfl rfl (fun h29 => ?_) (fun h29 => ?_)
    · -- 29T
      refine WL.val (v_assign rfl rfl) (.none rfl) rfl rfl ?_
      refine WL.nil ?_
      refine WE.then_n ?_
      refine WC.cond_t rfl ?_
      refine WC.seq ?_
      refine WC.quiet mixed (by kernel_rfl) ?_
      refine WQ.val (v_fieldAddr0 rfl rfl fld_45_1) (.none rfl) rfl rfl ?_
      refine WQ.val (v_load1 rfl rfl one_37 (cellAt rfl)) (.none rfl) rfl rfl ?_
      refine WQ.call _ rfl rfl ck_119 (.none rfl) rfl rfl (fun w hS => Calls.still (PField_c w t.f) hS) ?_
      generalize hb32 : decide (isFld t.f) = bb
      cases bb
      · -- 32F
        refine WQ.val (v_not rfl rfl rfl) (.none rfl) rfl rfl ?_
        refine WQ.val (v_move rfl rfl) (.none rfl) rfl rfl ?_
        refine WQ.skip rfl rfl rfl rfl rfl rfl ?_
        refine WQ.skip rfl rfl rfl rfl rfl rfl ?_
        refine WQ.skip rfl rfl rfl rfl rfl rfl ?_
        refine WQ.val (v_pick_t rfl rfl rfl) (.none rfl) rfl rfl ?_
        refine WQ.val (v_move rfl rfl) (.none rfl) rfl rfl ?_
        refine WQ.skip rfl rfl rfl rfl rfl rfl ?_
        refine WQ.skip rfl rfl rfl rfl rfl rfl ?_
        refine WQ.skip rfl rfl rfl rfl rfl rfl ?_
        refine WQ.val (v_pick_t rfl rfl rfl) (.none rfl) rfl rfl ?_
        refine WQ.val (v_move rfl rfl) (.none rfl) rfl rfl ?_
        refine WQ.skip rfl rfl rfl rfl rfl rfl ?_
        refine WQ.skip rfl rfl rfl rfl rfl rfl ?_
        refine WQ.skip rfl rfl rfl rfl rfl rfl ?_
        refine WQ.skip rfl rfl rfl rfl rfl rfl ?_
        refine WQ.skip rfl rfl rfl rfl rfl rfl ?_
        refine WQ.skip rfl rfl rfl rfl rfl rfl ?_
        refine WQ.val (v_pick_t rfl rfl rfl) (.none rfl) rfl rfl ?_
        refine WQ.nil ?_
        refine WE.then_n ?_
        refine WC.cond_t rfl ?_
        refine WC.seq ?_
        refine WC.region ?_
        refine WL.val (v_assign rfl rfl) (.none rfl) rfl rfl ?_
        refine WL.nil ?_
        refine WE.then_n ?_
        refine WC.ret ?_
        refine WE.block_ret ?_
        refine WE.then_ret ?_
        refine WE.ret1 (P := Tryd.prog) (.inl rfl) Tryd.results87 rfl ?_
        exact fun w' h => ⟨by unfold argE; rw [if_neg h6, if_pos h29, if_pos (.inl (of_decide_eq_false hb32))], h.frm⟩
      · -- 32T
        refine WQ.val (v_not rfl rfl rfl) (.none rfl) rfl rfl ?_
        refine WQ.val (v_move rfl rfl) (.none rfl) rfl rfl ?_
        refine WQ.val (v_fieldAddr0 rfl rfl fld_45_1) (.some rfl rfl rfl) rfl rfl ?_
        refine WQ.val (v_load1 rfl rfl one_37 (cellAt rfl)) (.some rfl rfl rfl) rfl rfl ?_
        refine WQ.test (v_eql rfl rfl rfl) (.some rfl rfl rfl) rfl rfl (fun h37 => ?_) (fun h37 => ?_)
        · -- 37T
          refine WQ.val (v_pick_f rfl rfl rfl) (.none rfl) rfl rfl ?_
          refine WQ.val (v_move rfl rfl) (.none rfl) rfl rfl ?_
          refine WQ.skip rfl rfl rfl rfl rfl rfl ?_
          refine WQ.skip rfl rfl rfl rfl rfl rfl ?_
          refine WQ.skip rfl rfl rfl rfl rfl rfl ?_
          refine WQ.val (v_pick_t rfl rfl rfl) (.none rfl) rfl rfl ?_
          refine WQ.val (v_move rfl rfl) (.none rfl) rfl rfl ?_
          refine WQ.skip rfl rfl rfl rfl rfl rfl ?_
          refine WQ.skip rfl rfl rfl rfl rfl rfl ?_
          refine WQ.skip rfl rfl rfl rfl rfl rfl ?_
          refine WQ.skip rfl rfl rfl rfl rfl rfl ?_
          refine WQ.skip rfl rfl rfl rfl rfl rfl ?_
          refine WQ.skip rfl rfl rfl rfl rfl rfl ?_
          refine WQ.val (v_pick_t rfl rfl rfl) (.none rfl) rfl rfl ?_
          refine WQ.nil ?_
          refine WE.then_n ?_
          refine WC.cond_t rfl ?_
          refine WC.seq ?_
          refine WC.region ?_
          refine WL.val (v_assign rfl rfl) (.none rfl) rfl rfl ?_
          refine WL.nil ?_
          refine WE.then_n ?_
          refine WC.ret ?_
          refine WE.block_ret ?_
          refine WE.then_ret ?_
          refine WE.ret1 (P := Tryd.prog) (.inl rfl) Tryd.results87 rfl ?_
          exact fun w' h => ⟨by unfold argE; rw [if_neg h6, if_pos h29, if_pos (.inr (.inl h37))], h.frm⟩
        · -- 37F
          refine WQ.val (v_pick_f rfl rfl rfl) (.none rfl) rfl rfl ?_
          refine WQ.val (v_move rfl rfl) (.none rfl) rfl rfl ?_
          refine WQ.val (v_fieldAddr0 rfl rfl fld_45_1) (.some rfl rfl rfl) rfl rfl ?_
          refine WQ.val (v_load1 rfl rfl one_37 (cellAt rfl)) (.some rfl rfl rfl) rfl rfl ?_
          refine WQ.test (v_eql rfl rfl rfl) (.some rfl rfl rfl) rfl rfl (fun h42 => ?_) (fun h42 => ?_)
          · -- 42T
            refine WQ.val (v_pick_f rfl rfl rfl) (.none rfl) rfl rfl ?_
            refine WQ.val (v_move rfl rfl) (.none rfl) rfl rfl ?_
            refine WQ.skip rfl rfl rfl rfl rfl rfl ?_
            refine WQ.skip rfl rfl rfl rfl rfl rfl ?_
            refine WQ.skip rfl rfl rfl rfl rfl rfl ?_
            refine WQ.skip rfl rfl rfl rfl rfl rfl ?_
            refine WQ.skip rfl rfl rfl rfl rfl rfl ?_
            refine WQ.skip rfl rfl rfl rfl rfl rfl ?_
            refine WQ.val (v_pick_t rfl rfl rfl) (.none rfl) rfl rfl ?_
            refine WQ.nil ?_
            refine WE.then_n ?_
            refine WC.cond_t rfl ?_
            refine WC.seq ?_
            refine WC.region ?_
            refine WL.val (v_assign rfl rfl) (.none rfl) rfl rfl ?_
            refine WL.nil ?_
            refine WE.then_n ?_
            refine WC.ret ?_
            refine WE.block_ret ?_
            refine WE.then_ret ?_
            refine WE.ret1 (P := Tryd.prog) (.inl rfl) Tryd.results87 rfl ?_
            exact fun w' h => ⟨by unfold argE; rw [if_neg h6, if_pos h29, if_pos (.inr (.inr (.inl h42)))], h.frm⟩
          · -- 42F
            refine WQ.val (v_pick_f rfl rfl rfl) (.none rfl) rfl rfl ?_
            refine WQ.val (v_move rfl rfl) (.none rfl) rfl rfl ?_
            refine WQ.val (v_fieldAddr0 rfl rfl fld_45_2) (.some rfl rfl rfl) rfl rfl ?_
            refine WQ.val (v_load1 rfl rfl one_22 (cellAt rfl)) (.some rfl rfl rfl) rfl rfl ?_
            refine WQ.val (v_fieldAddr0 rfl rfl fld_45_1) (.some rfl rfl rfl) rfl rfl ?_
            refine WQ.val (v_load1 rfl rfl one_37 (cellAt rfl)) (.some rfl rfl rfl) rfl rfl ?_
            refine WQ.call _ rfl rfl ck_30 (.some rfl rfl rfl) rfl rfl (fun w hS => Calls.still (full w (hG.keep (fun h => h) hS) (of_decide_eq_true hb32)) hS) ?_
            refine WQ.test (v_gtr rfl rfl rfl) (.some rfl rfl rfl) rfl rfl (fun h50 => ?_) (fun h50 => ?_)
            · -- 50T
              refine WQ.val (v_pick_f rfl rfl rfl) (.none rfl) rfl rfl ?_
              refine WQ.nil ?_
              refine WE.then_n ?_
              refine WC.cond_t rfl ?_
              refine WC.seq ?_
              refine WC.region ?_
              refine WL.val (v_assign rfl rfl) (.none rfl) rfl rfl ?_
              refine WL.nil ?_
              refine WE.then_n ?_
              refine WC.ret ?_
              refine WE.block_ret ?_
              refine WE.then_ret ?_
              refine WE.ret1 (P := Tryd.prog) (.inl rfl) Tryd.results87 rfl ?_
              exact fun w' h => ⟨by unfold argE; rw [if_neg h6, if_pos h29, if_pos (.inr (.inr (.inr h50)))], h.frm⟩
            · -- 50F
              refine WQ.val (v_pick_f rfl rfl rfl) (.none rfl) rfl rfl ?_
              refine WQ.nil ?_
              refine WE.then_n ?_
              refine WC.cond_f rfl ?_
              refine WC.skip ?_
              refine WE.block_n ?_
              refine WE.then_n ?_
              refine WC.seq ?_
              refine WC.region ?_
              refine WL.val (v_assign rfl rfl) (.none rfl) rfl rfl ?_
              refine WL.nil ?_
              refine WE.then_n ?_
              refine WC.ret ?_
              refine WE.ret1 (P := Tryd.prog) (.inl rfl) Tryd.results87 rfl ?_
              have hb32 := of_decide_eq_true hb32
              exact fun w' h => ⟨by unfold argE; rw [if_neg h6, if_pos h29, if_neg (fun q => by rcases q with q | q | q | q <;> contradiction)], h.frm⟩
    · -- 29F
      refine WL.val (v_assign rfl rfl) (.none rfl) rfl rfl ?_
      refine WL.nil ?_
      refine WE.then_n ?_
      refine WC.cond_f rfl ?_
      refine WC.skip ?_
      refine WE.block_n ?_
      refine WE.then_n ?_
      refine WC.seq ?_
      refine WC.region ?_
      refine WL.val (v_assign rfl rfl) (.none rfl) rfl rfl ?_
      refine WL.nil ?_
      refine WE.then_n ?_
      refine WC.ret ?_
      refine WE.ret1 (P := Tryd.prog) (.inl rfl) Tryd.results87 rfl ?_
      exact fun w' h => ⟨by unfold argE; rw [if_neg h6, if_neg h29], h.frm⟩
end Go.Proofs.YtodaanhhnjkncaaDoor
/- policy: the walk of a tree, as the code does it. -/
namespace Go.Proofs.YtodaanhhnjkncaaDoor
open Go.RowKit

mutual
/-- The errno, and how many were counted. -/
def walkT : Nd → Int → Bool → Int → Int × Int
  | .mk k f v m a c kids, deep, pred, n =>
    if 16 < deep ∨ 64 < n + 1 then (34, n + 1)
    else if fitsP k pred = false then (12, n + 1)
    else if argE (.mk k f v m a c kids) ≠ 0 then (argE (.mk k f v m a c kids), n + 1)
    else if formE (.mk k f v m a c kids) ≠ 0 then (formE (.mk k f v m a c kids), n + 1)
    else walkKs k 0 kids (deep + 1) (n + 1)
def walkKs (k : Int) : Nat → List Nd → Int → Int → Int × Int
  | _, [], _, n => (0, n)
  | i, t :: ts, deep, n => if (walkT t deep (predK k i) n).1 ≠ 0 then walkT t deep (predK k i) n else walkKs k (i + 1) ts deep (walkT t deep (predK k i) n).2
end
theorem walkT_eq (t : Nd) (deep : Int) (pred : Bool) (n : Int) : walkT t deep pred n =
    if 16 < deep ∨ 64 < n + 1 then (34, n + 1) else if fitsP t.kind pred = false then (12, n + 1) else if argE t ≠ 0 then (argE t, n + 1) else if formE t ≠ 0 then (formE t, n + 1) else walkKs t.kind 0 t.kids (deep + 1) (n + 1) := by
  cases t; rw [walkT]; rfl
mutual
theorem walkT_le : ∀ (t : Nd) (deep : Int) (pred : Bool) (n : Int), 0 ≤ n → (walkT t deep pred n).1 = 0 → n ≤ (walkT t deep pred n).2 ∧ (walkT t deep pred n).2 ≤ 64
  | .mk k f v m a c kids, deep, pred, n, h0, he => by
    rw [walkT] at he ⊢
    split at he
    · cases he
    · split at he
      · cases he
      · split at he
        · rename_i h; exact absurd he h
        · split at he
          · rename_i h; exact absurd he h
          · rename_i h1 h2 h3 h4
            rw [if_neg h1, if_neg h2, if_neg h3, if_neg h4]
            have := walkKs_le k 0 kids (deep + 1) (n + 1) (by omega) (by omega) he
            omega
theorem walkKs_le (k : Int) : ∀ (i : Nat) (ts : List Nd) (deep n : Int), 0 ≤ n → n ≤ 64 → (walkKs k i ts deep n).1 = 0 → n ≤ (walkKs k i ts deep n).2 ∧ (walkKs k i ts deep n).2 ≤ 64
  | _, [], _, n, _, h1, _ => by rw [walkKs]; exact ⟨Int.le_refl _, h1⟩
  | i, t :: ts, deep, n, h0, h1, he => by
    rw [walkKs] at he ⊢
    split at he
    · rename_i h; exact absurd he h
    · rename_i h
      rw [if_neg h]
      have a := walkT_le t deep (predK k i) n h0 (Classical.not_not.1 h)
      have b := walkKs_le k (i + 1) ts deep _ (by omega) a.2 he
      omega
end
theorem Nd.kid_size {t u : Nd} {j : Nat} (h : t.kids[j]? = some u) : SizeOf.sizeOf u < SizeOf.sizeOf t := by
  cases t with
  | mk k f v m a c kids =>
    have h1 := List.sizeOf_lt_of_mem (List.mem_of_getElem? h)
    show SizeOf.sizeOf u < SizeOf.sizeOf (Nd.mk k f v m a c kids)
    simp only [Nd.mk.sizeOf_spec]
    have : SizeOf.sizeOf (Nd.mk k f v m a c kids).kids = SizeOf.sizeOf kids := rfl
    omega
theorem Nd.At.kidAt {w : World} {t u : Nd} {j b o : Nat} (h : t.At w) (hu : t.kids[j]? = some u) (e : t.ad = some ⟨b, o, none⟩) : w.rangeAt b (o + j * 5) (ndL u) := by
  obtain ⟨⟨b', o', e', hr⟩, _⟩ := h.kid hu
  rw [e] at e'
  injection e' with e'
  injection e' with e1 e2
  subst e1 e2
  exact hr
theorem St.swap22 {p : Nat → Prop} {w0 w : World} {a b c d : Ent} {L : List Ent} (h : St p w0 w (a :: b :: c :: d :: L)) : St p w0 w (c :: d :: a :: b :: L) :=
  h.perm ((List.perm_append_comm (l₁ := [c, d]) (l₂ := [a, b])).append_right L)
def ckF (gc gw : Nat) : Value := .func (.func 85) #[] #[.pointer (some ⟨gc, 0, none⟩), .pointer (some ⟨gw, 0, none⟩)]
set_option maxHeartbeats 1000000 in
theorem Chk1_c (p : Nat → Prop) (hp : ∀ b, ¬ p b) (w0 : World) (hG : GW w0) (gc gw : Nat) : ∀ (N : Nat) (t : Nd), SizeOf.sizeOf t ≤ N → ∀ (L : List Ent) (w : World) (deep : Int) (pred : Bool) (n : Int), t.In → (∀ w, St p w0 w L → t.At w) → 0 ≤ n → n ≤ 64 → 1 ≤ deep → deep ≤ 17 →
    St p w0 w (.row gc [.int .i64 n] :: .row gw [ckF gc gw] :: L) →
    Calls Tryd.prog 85 #[ndV t, .int .i64 deep, .bool pred, .pointer (some ⟨gc, 0, none⟩), .pointer (some ⟨gw, 0, none⟩)] w
      fun e w' => e = .returned (.int .i64 (walkT t deep pred n).1) ∧ St p w0 w' (.row gc [.int .i64 (walkT t deep pred n).2] :: .row gw [ckF gc gw] :: L) := by
  intro N
  induction N with
  | zero => intro t hN; cases t; simp only [Nd.mk.sizeOf_spec] at hN; omega
  | succ N ih =>
    intro t hN L w deep pred n hI hAt hn0 hn1 hd0 hd1 hS
    have hlen := hI.nums.2.2.2.2
    refine enter Tryd.func85 rfl Tryd.ntmps85 rfl hS ?_
    refine WC.seq ?_
    refine WC.region ?_
    refine WL.box rfl rfl rfl (.none rfl) rfl rfl ?_
    intro g5 hg5
    refine WL.val (v_assign rfl rfl) (.none rfl) rfl rfl ?_
    refine WL.nil ?_
    refine WE.then_n ?_
    refine WC.seq ?_
    refine WC.region ?_
    refine WL.val (v_load1 rfl rfl one_3 (cellAt rfl)) (.none rfl) rfl rfl ?_
    refine WL.val (v_add rfl rfl rfl (w_i64 (by omega) (by omega))) (.none rfl) rfl rfl ?_
    refine WL.store1 rfl rfl rfl rfl one_3 (Nat.le_of_ble_eq_true rfl) (.none rfl) rfl ?_
    refine WL.nil ?_
    refine WE.then_n ?_
    refine WC.seq ?_
    refine WC.seq ?_
    refine WC.region ?_
    refine WL.val (v_move rfl rfl) (.none rfl) rfl rfl ?_
    refine WL.test (v_gtr rfl rfl rfl) (.none rfl) rfl rfl (fun h17 => ?_) (fun h17 => ?_)
    · -- 17T
      refine WL.val (v_move rfl rfl) (.none rfl) rfl rfl ?_
      refine WL.skip rfl rfl rfl rfl rfl rfl ?_
      refine WL.skip rfl rfl rfl rfl rfl rfl ?_
      refine WL.val (v_pick_t rfl rfl rfl) (.none rfl) rfl rfl ?_
      refine WL.nil ?_
      refine WE.then_n ?_
      refine WC.cond_t rfl ?_
      refine WC.seq ?_
      refine WC.region ?_
      refine WL.val (v_assign rfl rfl) (.none rfl) rfl rfl ?_
      refine WL.nil ?_
      refine WE.then_n ?_
      refine WC.ret ?_
      refine WE.then_ret ?_
      refine WE.ret1 (P := Tryd.prog) (.inl rfl) Tryd.results85 rfl ?_
      exact fun w' h => ⟨by rw [walkT_eq, if_pos (.inl h17)], by rw [walkT_eq, if_pos (.inl h17)]; exact h.tail⟩
    · -- 17F
      refine WL.val (v_move rfl rfl) (.none rfl) rfl rfl ?_
      refine WL.val (v_load1 rfl rfl one_3 (cellAt rfl)) (.some rfl rfl rfl) rfl rfl ?_
      refine WL.test (v_gtr rfl rfl rfl) (.some rfl rfl rfl) rfl rfl (fun h20 => ?_) (fun h20 => ?_)
      · -- 20T
        refine WL.val (v_pick_f rfl rfl rfl) (.none rfl) rfl rfl ?_
        refine WL.nil ?_
        refine WE.then_n ?_
        refine WC.cond_t rfl ?_
        refine WC.seq ?_
        refine WC.region ?_
        refine WL.val (v_assign rfl rfl) (.none rfl) rfl rfl ?_
        refine WL.nil ?_
        refine WE.then_n ?_
        refine WC.ret ?_
        refine WE.then_ret ?_
        refine WE.ret1 (P := Tryd.prog) (.inl rfl) Tryd.results85 rfl ?_
        exact fun w' h => ⟨by rw [walkT_eq, if_pos (.inr h20)], by rw [walkT_eq, if_pos (.inr h20)]; exact h.tail⟩
      · -- 20F
        refine WL.val (v_pick_f rfl rfl rfl) (.none rfl) rfl rfl ?_
        refine WL.nil ?_
        refine WE.then_n ?_
        refine WC.cond_f rfl ?_
        refine WC.skip ?_
        refine WE.then_n ?_
        refine WC.seq ?_
        refine WC.seq ?_
        refine WC.region ?_
        refine WL.val (v_fieldAddr0 rfl rfl fld_45_0) (.none rfl) rfl rfl ?_
        refine WL.val (v_load1 rfl rfl one_3 (cellAt rfl)) (.none rfl) rfl rfl ?_
        refine WL.val (v_move rfl rfl) (.none rfl) rfl rfl ?_
        refine WL.call rfl rfl ck_86 (.none rfl) rfl rfl ?_
        intro w hS
        refine Calls.then (Fits_c w t.kind pred) hS ?_
        generalize hb25 : fitsP t.kind pred = bb
        cases bb
        · -- 25F
          refine WL.val (v_not rfl rfl rfl) (.none rfl) rfl rfl ?_
          refine WL.nil ?_
          refine WE.then_n ?_
          refine WC.cond_t rfl ?_
          refine WC.seq ?_
          refine WC.region ?_
          refine WL.val (v_assign rfl rfl) (.none rfl) rfl rfl ?_
          refine WL.nil ?_
          refine WE.then_n ?_
          refine WC.ret ?_
          refine WE.then_ret ?_
          refine WE.ret1 (P := Tryd.prog) (.inl rfl) Tryd.results85 rfl ?_
          have e := walkT_eq t deep pred n
          rw [if_neg (by omega), if_pos hb25] at e
          exact fun w' h => ⟨by rw [e], by rw [e]; exact h.tail⟩
        · -- 25T
          refine WL.val (v_not rfl rfl rfl) (.none rfl) rfl rfl ?_
          refine WL.nil ?_
          refine WE.then_n ?_
          refine WC.cond_f rfl ?_
          refine WC.skip ?_
          refine WE.then_n ?_
          refine WC.seq ?_
          refine WC.seq ?_
          refine WC.region ?_
          refine WL.val (v_loadN rfl rfl many_45 rfl allAt) (.none rfl) rfl rfl ?_
          refine WL.call rfl rfl ck_87 (.none rfl) rfl rfl ?_
          intro w hS
          refine Calls.then (Argu_c w t hI (hG.keep (hp _) hS)) hS ?_
          refine WL.val (v_assign rfl rfl) (.none rfl) rfl rfl ?_
          refine WL.nil ?_
          refine WE.then_n ?_
          refine WC.seq ?_
          refine WC.region ?_
          refine WL.val (v_move rfl rfl) (.none rfl) rfl rfl ?_
          refine WL.test (v_neq rfl rfl rfl) (.none rfl) rfl rfl (fun h30 => ?_) (fun h30 => ?_)
          · -- 30T
            refine WL.nil ?_
            refine WE.then_n ?_
            refine WC.cond_t rfl ?_
            refine WC.seq ?_
            refine WC.region ?_
            refine WL.val (v_move rfl rfl) (.none rfl) rfl rfl ?_
            refine WL.val (v_assign rfl rfl) (.none rfl) rfl rfl ?_
            refine WL.nil ?_
            refine WE.then_n ?_
            refine WC.ret ?_
            refine WE.then_ret ?_
            refine WE.ret1 (P := Tryd.prog) (.inl rfl) Tryd.results85 rfl ?_
            have e := walkT_eq t deep pred n
            rw [if_neg (by omega), if_neg (by rw [hb25]; decide), if_pos h30] at e
            exact fun w' h => ⟨by rw [e], by rw [e]; exact h.tail⟩
          · -- 30F
            refine WL.nil ?_
            refine WE.then_n ?_
            refine WC.cond_f rfl ?_
            refine WC.skip ?_
            refine WE.then_n ?_
            refine WC.seq ?_
            refine WC.seq ?_
            refine WC.region ?_
            refine WL.val (v_loadN rfl rfl many_45 rfl allAt) (.none rfl) rfl rfl ?_
            refine WL.call rfl rfl ck_88 (.none rfl) rfl rfl ?_
            intro w hS
            refine Calls.then (Form_c w t hI) hS ?_
            refine WL.val (v_assign rfl rfl) (.none rfl) rfl rfl ?_
            refine WL.nil ?_
            refine WE.then_n ?_
            refine WC.seq ?_
            refine WC.region ?_
            refine WL.val (v_move rfl rfl) (.none rfl) rfl rfl ?_
            refine WL.test (v_neq rfl rfl rfl) (.none rfl) rfl rfl (fun h35 => ?_) (fun h35 => ?_)
            · -- 35T
              refine WL.nil ?_
              refine WE.then_n ?_
              refine WC.cond_t rfl ?_
              refine WC.seq ?_
              refine WC.region ?_
              refine WL.val (v_move rfl rfl) (.none rfl) rfl rfl ?_
              refine WL.val (v_assign rfl rfl) (.none rfl) rfl rfl ?_
              refine WL.nil ?_
              refine WE.then_n ?_
              refine WC.ret ?_
              refine WE.then_ret ?_
              refine WE.ret1 (P := Tryd.prog) (.inl rfl) Tryd.results85 rfl ?_
              have e := walkT_eq t deep pred n
              rw [if_neg (by omega), if_neg (by rw [hb25]; decide), if_neg h30, if_pos h35] at e
              exact fun w' h => ⟨by rw [e], by rw [e]; exact h.tail⟩
            · -- 35F
              refine WL.nil ?_
              refine WE.then_n ?_
              refine WC.cond_f rfl ?_
              refine WC.skip ?_
              refine WE.then_n ?_
              refine WC.seq ?_
              refine WC.seq ?_
              refine WC.region ?_
              refine WL.val (v_fieldAddr0 rfl rfl fld_45_4) (.none rfl) rfl rfl ?_
              refine WL.val (v_load1 rfl rfl one_43 (cellAt rfl)) (.none rfl) rfl rfl ?_
              refine WL.val (v_len_slice rfl rfl Tryd.underlying43) (.none rfl) rfl rfl ?_
              refine WL.val (v_move rfl rfl) (.none rfl) rfl rfl ?_
              refine WL.nil ?_
              refine WE.then_n ?_
              refine WC.block ?_
              refine WC.loop (fun x : Nat × Int => [(40, .int .i64 x.1), (39, .int .i64 t.kids.length), (38, .slice t.ad t.kids.length t.cap), (1, .int .i64 deep), (3, .pointer (some ⟨gc, 0, none⟩)), (4, .pointer (some ⟨gw, 0, none⟩)), (5, .pointer (some ⟨g5, 0, none⟩))]) (fun x => .row g5 (ndL t) :: .row gc [.int .i64 x.2] :: .row gw [ckF gc gw] :: L) (fun x => x.1 ≤ t.kids.length ∧ walkKs t.kind x.1 (t.kids.drop x.1) (deep + 1) x.2 = walkKs t.kind 0 t.kids (deep + 1) (n + 1) ∧ 0 ≤ x.2 ∧ x.2 ≤ 64) (fun x => t.kids.length - x.1) (0, n + 1) ⟨Nat.zero_le _, rfl, by dsimp only; omega, by dsimp only; omega⟩ (.cons rfl (.cons rfl (.cons rfl (.cons rfl (.cons rfl (.cons rfl (.cons rfl .nil))))))) (.refl _) ?_
              rintro ⟨k, c⟩ ⟨hk, hw, hc0, hc1⟩
              dsimp only at hk hw hc0 hc1
              dsimp only
              refine WC.seq ?_
              refine WC.region ?_
              refine WL.test (v_lss rfl rfl rfl) (.none rfl) rfl rfl (fun h41 => ?_) (fun h41 => ?_)
              · -- 41T
                refine WL.nil ?_
                refine WE.then_n ?_
                refine WC.seq ?_
                refine WC.cond_t rfl ?_
                refine WC.skip ?_
                refine WE.then_n ?_
                refine WC.seq ?_
                refine WC.block ?_
                refine WC.seq ?_
                refine WC.region ?_
                refine WL.val (v_move rfl rfl) (.none rfl) rfl rfl ?_
                obtain ⟨u, hu⟩ : ∃ u, t.kids[k]? = some u := ⟨t.kids[k]'(by omega), List.getElem?_eq_getElem _⟩
                obtain ⟨b, o, ea, _⟩ := ((hAt _ hS.tail.tail.tail).kid hu).1
                have hdr : t.kids.drop k = u :: t.kids.drop (k + 1) := (by
                  rw [List.drop_eq_getElem_cons (show k < t.kids.length by omega)]
                  congr 1
                  rw [List.getElem?_eq_getElem (show k < t.kids.length by omega)] at hu
                  exact Option.some.inj hu)
                rw [hdr, walkKs] at hw
                refine WL.val (v_indexAddr (b := b) (off := o) (lo := k) rfl (by show some (Value.slice t.ad _ _) = _; rw [ea]) rfl Tryd.underlying43 sz_45 rfl (by omega)) (.none rfl) rfl rfl ?_
                refine WL.val (v_loadN (cs := ndL u) rfl rfl many_45 rfl (fun w' hS' => (hAt w' hS'.tail.tail.tail).kidAt hu ea)) (.none rfl) rfl rfl ?_
                refine WL.alloc rfl zero_45 (.none rfl) rfl rfl ?_
                intro g12 hg12
                refine WL.val (v_assign rfl rfl) (.none rfl) rfl rfl ?_
                refine WL.storeW rfl rfl rfl rfl many_45 rfl rfl (.none rfl) rfl ?_
                refine WL.nil ?_
                refine WE.then_n ?_
                refine WC.seq ?_
                refine WC.orders mixed ?_
                refine WR.first (g := 6) [2, 3, 5] (by kernel_rfl) (by kernel_rfl) ?_
                refine WP.val (v_move rfl rfl) (.none rfl) rfl rfl ?_
                refine WP.val (v_add rfl rfl rfl (w_i64 (by omega) (by omega))) (.none rfl) rfl rfl ?_
                refine WP.val (v_move rfl rfl) (.none rfl) rfl rfl ?_
                refine WP.nil ?_
                refine WR.read (g := 2) [0, 1, 4, 6] (by kernel_rfl) (by kernel_rfl) (by kernel_rfl) (by kernel_rfl) rfl ?_
                refine WQ.val (v_load1 rfl rfl one_139 (cellAt rfl)) (.none rfl) rfl rfl ?_
                refine WQ.val (v_loadN rfl rfl many_45 rfl allAt) (.none rfl) rfl rfl ?_
                refine WQ.val (v_loadN rfl rfl many_45 rfl allAt) (.none rfl) rfl rfl ?_
                refine WQ.call _ rfl rfl ck_89 (.none rfl) rfl rfl (fun w hS => Calls.still (PredKid_c w t k) hS) ?_
                refine WQ.nilR ?_
                refine WR.ones (g := 1) [7] (by kernel_rfl) ?_
                refine WL.callV rfl rfl rfl ck_85 (.none rfl) rfl rfl ?_
                intro w1 hS1
                refine (ih u (by have := Nd.kid_size hu; omega) (.row g12 (ndL u) :: .row g5 (ndL t) :: L) w1 (deep + 1) (predK t.kind k) c (hI.kids.get _ _ _ hu) (fun w' hS' => ((hAt w' hS'.tail.tail).kid hu).2) hc0 hc1 (by omega) (by omega) hS1.swap22).mono ?_
                rintro e w' ⟨rfl, hS'⟩
                refine ⟨_, _, rfl, hS'.swap22, ?_⟩
                refine WL.nilR ?_
                refine WR.first (g := 0) [8] (by kernel_rfl) (by kernel_rfl) ?_
                refine WP.val (v_assign rfl rfl) (.none rfl) rfl rfl ?_
                refine WP.nil ?_
                refine WR.done (by kernel_rfl) ?_
                refine WE.then_n ?_
                refine WC.seq ?_
                refine WC.region ?_
                refine WL.val (v_move rfl rfl) (.none rfl) rfl rfl ?_
                refine WL.test (v_neq rfl rfl rfl) (.none rfl) rfl rfl (fun h54 => ?_) (fun h54 => ?_)
                · -- 54T
                  refine WL.nil ?_
                  refine WE.then_n ?_
                  refine WC.cond_t rfl ?_
                  refine WC.seq ?_
                  refine WC.region ?_
                  refine WL.val (v_move rfl rfl) (.none rfl) rfl rfl ?_
                  refine WL.val (v_assign rfl rfl) (.none rfl) rfl rfl ?_
                  refine WL.nil ?_
                  refine WE.then_n ?_
                  refine WC.ret ?_
                  refine WE.block_ret ?_
                  refine WE.then_ret ?_
                  refine WE.then_ret ?_
                  refine WE.block_ret ?_
                  refine WE.then_ret ?_
                  refine WE.ret1 (P := Tryd.prog) (.inl rfl) Tryd.results85 rfl ?_
                  have e := walkT_eq t deep pred n
                  rw [if_pos h54] at hw
                  rw [if_neg (by omega), if_neg (by rw [hb25]; decide), if_neg h30, if_neg h35, ← hw] at e
                  exact fun w' h => ⟨by rw [e], by rw [e]; exact h.tail.tail⟩
                · -- 54F
                  refine WL.nil ?_
                  refine WE.then_n ?_
                  refine WC.cond_f rfl ?_
                  refine WC.skip ?_
                  refine WE.block_n ?_
                  refine WE.then_n ?_
                  refine WC.region ?_
                  refine WL.val (v_add rfl rfl rfl (w_i64 (by omega) (by omega))) (.none rfl) rfl rfl ?_
                  refine WL.val (v_move rfl rfl) (.none rfl) rfl rfl ?_
                  refine WL.nil ?_
                  have h54' := Classical.not_not.1 h54
                  rw [if_neg (fun q => q h54')] at hw
                  have hle := walkT_le u (deep + 1) (predK t.kind k) c hc0 h54'
                  exact WE.next (k + 1, (walkT u (deep + 1) (predK t.kind k) c).2) (by dsimp only; omega) ⟨by dsimp only; omega, hw, by dsimp only; omega, by dsimp only; omega⟩ (.int rfl (by dsimp only; omega) (.cons rfl (.cons rfl (.cons rfl (.cons rfl (.cons rfl (.cons rfl .nil))))))) (.cons _ (.refl _))
              · -- 41F
                refine WL.nil ?_
                refine WE.then_n ?_
                refine WC.seq ?_
                refine WC.cond_f rfl ?_
                refine WC.exit ?_
                refine WE.then_exit ?_
                refine WE.then_exit ?_
                refine WE.block_hit ?_
                refine WE.then_n ?_
                refine WC.seq ?_
                refine WC.region ?_
                refine WL.val (v_assign rfl rfl) (.none rfl) rfl rfl ?_
                refine WL.nil ?_
                refine WE.then_n ?_
                refine WC.ret ?_
                refine WE.ret1 (P := Tryd.prog) (.inl rfl) Tryd.results85 rfl ?_
                obtain rfl : k = t.kids.length := (by omega)
                have e := walkT_eq t deep pred n
                rw [List.drop_length, walkKs] at hw
                rw [if_neg (by omega), if_neg (by rw [hb25]; decide), if_neg h30, if_neg h35, ← hw] at e
                exact fun w' h => ⟨by rw [e], by rw [e]; exact h.tail⟩
end Go.Proofs.YtodaanhhnjkncaaDoor
/- policy: Check, CheckPred; holds. -/
namespace Go.Proofs.YtodaanhhnjkncaaDoor
open Go.RowKit

theorem St.range {p : Nat → Prop} {w0 w : World} {L : List Ent} (hp : ∀ b, ¬ p b) (hS : St p w0 w L) (b o : Nat) (cs : List Value) (h : w0.rangeAt b o cs) : w.rangeAt b o cs := fun j v hj => hS.old (hp b) (h j v hj)
theorem Nd.At.st {p : Nat → Prop} {w0 w : World} {L : List Ent} {t : Nd} (hp : ∀ b, ¬ p b) (h : t.At w0) (hS : St p w0 w L) : t.At w := Nd.At.keep (hS.range hp) t h
theorem check_c (w : World) (t : Nd) (pred : Bool) (hI : t.In) (hA : t.At w) (hG : GW w) :
    Calls Tryd.prog 65 #[ndV t, .bool pred] w fun e w' => e = .returned (.int .i64 (walkT t 1 pred 0).1) ∧ Frm (fun _ => False) w w' := by
  refine enter Tryd.func65 rfl Tryd.ntmps65 rfl (St.start (fun _ => False) w) ?_
  refine WC.seq ?_
  refine WC.region ?_
  refine WL.box rfl rfl rfl (.none rfl) rfl rfl ?_
  intro g2 hg2
  refine WL.val (v_assign rfl rfl) (.none rfl) rfl rfl ?_
  refine WL.nil ?_
  refine WE.then_n ?_
  refine WC.seq ?_
  refine WC.region ?_
  refine WL.alloc rfl zero_3 (.none rfl) rfl rfl ?_
  intro g5 hg5
  refine WL.store1 rfl rfl rfl rfl one_3 (Nat.le_of_ble_eq_true rfl) (.none rfl) rfl ?_
  refine WL.nil ?_
  refine WE.then_n ?_
  refine WC.seq ?_
  refine WC.region ?_
  refine WL.alloc rfl zero_139 (.none rfl) rfl rfl ?_
  intro g6 hg6
  refine WL.nil ?_
  refine WE.then_n ?_
  refine WC.seq ?_
  refine WC.region ?_
  refine WL.val (v_makeFunc rfl rfl rfl) (.none rfl) rfl rfl ?_
  refine WL.store1 rfl rfl rfl rfl one_139 (Nat.le_of_ble_eq_true rfl) (.none rfl) rfl ?_
  refine WL.nil ?_
  refine WE.then_n ?_
  refine WC.seq ?_
  refine WC.region ?_
  refine WL.val (v_load1 rfl rfl one_139 (cellAt rfl)) (.none rfl) rfl rfl ?_
  refine WL.val (v_loadN rfl rfl many_45 rfl allAt) (.none rfl) rfl rfl ?_
  refine WL.val (v_move rfl rfl) (.none rfl) rfl rfl ?_
  refine WL.callV rfl rfl rfl ck_85 (.none rfl) rfl rfl ?_
  intro w1 hS1
  refine (Chk1_c (fun _ => False) (fun _ h => h) w hG g5 g6 _ t (Nat.le_refl _) [.row g2 (ndL t)] w1 1 pred 0 hI (fun w' hS' => hA.st (fun _ h => h) hS') (by omega) (by omega) (by omega) (by omega) (hS1.perm (List.Perm.swap _ _ _))).mono ?_
  rintro e w' ⟨rfl, hS'⟩
  refine ⟨_, _, rfl, hS', ?_⟩
  refine WL.val (v_assign rfl rfl) (.none rfl) rfl rfl ?_
  refine WL.nil ?_
  refine WE.then_n ?_
  refine WC.ret ?_
  refine WE.ret1 (P := Tryd.prog) (.inl rfl) Tryd.results65 rfl ?_
  exact fun w' h => ⟨rfl, h.frm⟩
theorem Check_c (w : World) (t : Nd) (hI : t.In) (hA : t.At w) (hG : GW w) :
    Calls Tryd.prog 33 #[ndV t] w fun e w' => e = .returned (.int .i64 (walkT t 1 false 0).1) ∧ Frm (fun _ => False) w w' := by
  refine enter Tryd.func33 rfl Tryd.ntmps33 rfl (St.start (fun _ => False) w) ?_
  refine WC.seq ?_
  refine WC.region ?_
  refine WL.box rfl rfl rfl (.none rfl) rfl rfl ?_
  intro g1 hg1
  refine WL.val (v_assign rfl rfl) (.none rfl) rfl rfl ?_
  refine WL.nil ?_
  refine WE.then_n ?_
  refine WC.seq ?_
  refine WC.region ?_
  refine WL.val (v_loadN rfl rfl many_45 rfl allAt) (.none rfl) rfl rfl ?_
  refine WL.call rfl rfl ck_65 (.none rfl) rfl rfl ?_
  intro w hS
  refine Calls.then (check_c w t false hI (hA.st (fun _ h => h) hS) (hG.keep (fun h => h) hS)) hS ?_
  refine WL.val (v_assign rfl rfl) (.none rfl) rfl rfl ?_
  refine WL.nil ?_
  refine WE.then_n ?_
  refine WC.ret ?_
  refine WE.ret1 (P := Tryd.prog) (.inl rfl) Tryd.results33 rfl ?_
  exact fun w' h => ⟨rfl, h.frm⟩
theorem CheckPred_c (w : World) (t : Nd) (hI : t.In) (hA : t.At w) (hG : GW w) :
    Calls Tryd.prog 34 #[ndV t] w fun e w' => e = .returned (.int .i64 (walkT t 1 true 0).1) ∧ Frm (fun _ => False) w w' := by
  refine enter Tryd.func34 rfl Tryd.ntmps34 rfl (St.start (fun _ => False) w) ?_
  refine WC.seq ?_
  refine WC.region ?_
  refine WL.box rfl rfl rfl (.none rfl) rfl rfl ?_
  intro g1 hg1
  refine WL.val (v_assign rfl rfl) (.none rfl) rfl rfl ?_
  refine WL.nil ?_
  refine WE.then_n ?_
  refine WC.seq ?_
  refine WC.region ?_
  refine WL.val (v_loadN rfl rfl many_45 rfl allAt) (.none rfl) rfl rfl ?_
  refine WL.call rfl rfl ck_65 (.none rfl) rfl rfl ?_
  intro w hS
  refine Calls.then (check_c w t true hI (hA.st (fun _ h => h) hS) (hG.keep (fun h => h) hS)) hS ?_
  refine WL.val (v_assign rfl rfl) (.none rfl) rfl rfl ?_
  refine WL.nil ?_
  refine WE.then_n ?_
  refine WC.ret ?_
  refine WE.ret1 (P := Tryd.prog) (.inl rfl) Tryd.results34 rfl ?_
  exact fun w' h => ⟨rfl, h.frm⟩
end Go.Proofs.YtodaanhhnjkncaaDoor
/- rules.List: Find; Run where one act at most is to be done; the document's example of layer 17. -/
namespace Go.Proofs.YtodaanhhnjkncaaDoor
open Go.RowKit

theorem rangeIn {p : Nat → Prop} {w0 : World} {L : List Ent} {b off : Nat} {cs : List Value} (hp : ¬ p b) (h : w0.rangeAt b off cs) : ∀ w, St p w0 w L → w.rangeAt b off cs := fun _ hS j v hj => hS.old hp (h j v hj)
structure Ru where
  m : Mt
  ad : Option Addr
  n : Nat
  c : Nat
def ruL (r : Ru) : List Value := mtL r.m ++ [.slice r.ad r.n r.c]
theorem ruL_acts (r : Ru) : (ruL r)[18]? = some (.slice r.ad r.n r.c) := by
  unfold ruL
  rw [List.getElem?_append_right (by rw [mtL_len]; omega), mtL_len]; rfl
theorem ruL_match (r : Ru) : seg (ruL r) 0 18 = mtL r.m := by
  unfold seg ruL
  rw [List.drop_zero, List.take_left' (mtL_len _)]
theorem ruL_len (r : Ru) : (ruL r).length = 19 := by simp [ruL, mtL_len]
/-- The first of so many, or -1. -/
def findI (t : Nat → Bool) (n : Nat) : Int := match (List.range n).find? t with | some k => (k : Int) | none => -1
theorem findI_some {t : Nat → Bool} {n k : Nat} (hk : k < n) (h : t k = true) (hb : ∀ j, j < k → t j = false) : findI t n = (k : Int) := by
  unfold findI
  rw [List.find?_range_eq_some.2 ⟨h, List.mem_range.2 hk, fun j hj => by rw [hb j hj]; rfl⟩]
theorem findI_none {t : Nat → Bool} {n : Nat} (hb : ∀ j, j < n → t j = false) : findI t n = -1 := by
  unfold findI
  rw [List.find?_eq_none.2 (fun x hx => by rw [hb x (List.mem_range.1 hx)]; decide)]
theorem Hit1_c (w : World) (gh : Nat) (r : Ru) (H : Hd) (hm : r.m.In) (hH : H.In) (hG : GW w) (hh : w.rangeAt gh 0 (hdL H)) :
    Calls Tryd.prog 106 #[.agg (ruL r).toArray, .pointer (some ⟨gh, 0, none⟩)] w fun e w' => e = .returned (.bool (decide (r.m.hits H))) ∧ Frm (fun _ => False) w w' := by
  refine enter Tryd.func106 rfl Tryd.ntmps106 rfl (St.start (fun _ => False) w) ?_
  refine WC.seq ?_
  refine WC.region ?_
  refine WL.box rfl rfl rfl (.none rfl) rfl rfl ?_
  intro g2 hg2
  refine WL.val (v_assign rfl rfl) (.none rfl) rfl rfl ?_
  refine WL.nil ?_
  refine WE.then_n ?_
  refine WC.seq ?_
  refine WC.region ?_
  refine WL.val (v_fieldAddr0 rfl rfl fld_89_0) (.none rfl) rfl rfl ?_
  refine WL.val (v_loadN rfl rfl many_86 rfl (segAt (m := 18) (ruL_match r))) (.none rfl) rfl rfl ?_
  refine WL.val (v_loadN (cs := hdL H) rfl rfl many_31 rfl (rangeIn (fun h => h) hh)) (.none rfl) rfl rfl ?_
  refine WL.call rfl rfl ck_101 (.none rfl) rfl rfl ?_
  intro w hS
  refine Calls.then (Hits_c w r.m H hm hH (hG.keep (fun h => h) hS)) hS ?_
  refine WL.val (v_assign rfl rfl) (.none rfl) rfl rfl ?_
  refine WL.nil ?_
  refine WE.then_n ?_
  refine WC.ret ?_
  refine WE.ret1 (P := Tryd.prog) (.inl rfl) Tryd.results106 rfl ?_
  exact fun w' h => ⟨rfl, h.frm⟩
theorem Idx_c (w : World) (b o n c gh : Nat) (R : Nat → Ru) (H : Hd) (hm : ∀ i, i < n → (R i).m.In) (hH : H.In) (hG : GW w) (hh : w.rangeAt gh 0 (hdL H)) (hn : n ≤ 1000000) (hl : ∀ i, i < n → w.rangeAt b (o + i * 19) (ruL (R i))) :
    Calls Tryd.prog 105 #[.slice (some ⟨b, o, none⟩) n c, .func (.func 106) #[] #[.pointer (some ⟨gh, 0, none⟩)]] w
      fun e w' => e = .returned (.int .i64 (findI (fun i => decide ((R i).m.hits H)) n)) ∧ Frm (fun _ => False) w w' := by
  refine enter Tryd.func105 rfl Tryd.ntmps105 rfl (St.start (fun _ => False) w) ?_
  refine WC.seq ?_
  refine WC.region ?_
  refine WL.val (v_assign rfl rfl) (.none rfl) rfl rfl ?_
  refine WL.nil ?_
  refine WE.then_n ?_
  refine WC.seq ?_
  refine WC.seq ?_
  refine WC.region ?_
  refine WL.val (v_move rfl rfl) (.none rfl) rfl rfl ?_
  refine WL.val (v_len_slice rfl rfl Tryd.underlying104) (.none rfl) rfl rfl ?_
  refine WL.val (v_move rfl rfl) (.none rfl) rfl rfl ?_
  refine WL.nil ?_
  refine WE.then_n ?_
  refine WC.block ?_
  refine WC.loop (fun k : Nat => [(8, .int .i64 k), (7, .int .i64 n), (6, .slice (some ⟨b, o, none⟩) n c), (0, .slice (some ⟨b, o, none⟩) n c), (1, .func (.func 106) #[] #[.pointer (some ⟨gh, 0, none⟩)])]) (fun _ => []) (fun k => k ≤ n ∧ ∀ j, j < k → decide ((R j).m.hits H) = false) (fun k => n - k) 0 ⟨Nat.zero_le _, fun j h => absurd h (by omega)⟩ (.cons rfl (.cons rfl (.cons rfl (.cons rfl (.cons rfl .nil))))) (.refl _) ?_
  rintro k ⟨hk, hno⟩
  refine WC.seq ?_
  refine WC.region ?_
  refine WL.test (v_lss rfl rfl rfl) (.none rfl) rfl rfl (fun h9 => ?_) (fun h9 => ?_)
  · -- 9T
    refine WL.nil ?_
    refine WE.then_n ?_
    refine WC.seq ?_
    refine WC.cond_t rfl ?_
    refine WC.skip ?_
    refine WE.then_n ?_
    refine WC.seq ?_
    refine WC.block ?_
    refine WC.seq ?_
    refine WC.region ?_
    refine WL.val (v_move rfl rfl) (.none rfl) rfl rfl ?_
    refine WL.val (v_assign rfl rfl) (.none rfl) rfl rfl ?_
    refine WL.nil ?_
    refine WE.then_n ?_
    refine WC.seq ?_
    refine WC.region ?_
    refine WL.val (v_move rfl rfl) (.none rfl) rfl rfl ?_
    refine WL.val (v_move rfl rfl) (.none rfl) rfl rfl ?_
    refine WL.val (v_move rfl rfl) (.none rfl) rfl rfl ?_
    refine WL.val (v_indexAddr (lo := k) rfl rfl rfl Tryd.underlying104 sz_89 (by omega) (by omega)) (.none rfl) rfl rfl ?_
    refine WL.val (v_loadN (cs := ruL (R k)) rfl rfl many_89 (ruL_len _) (rangeIn (fun h => h) (hl k (by omega)))) (.none rfl) rfl rfl ?_
    refine WL.callV rfl rfl rfl ck_106 (.none rfl) rfl rfl ?_
    intro w hS
    refine Calls.then (Hit1_c w gh (R k) H (hm k (by omega)) hH (hG.keep (fun h => h) hS) (rangeIn (fun h => h) hh w hS)) hS ?_
    refine WL.nil ?_
    refine WE.then_n ?_
    refine WC.cond_d rfl (fun h16 => ?_) (fun h16 => ?_)
    · -- 16T
      refine WC.seq ?_
      refine WC.region ?_
      refine WL.val (v_move rfl rfl) (.none rfl) rfl rfl ?_
      refine WL.val (v_assign rfl rfl) (.none rfl) rfl rfl ?_
      refine WL.nil ?_
      refine WE.then_n ?_
      refine WC.ret ?_
      refine WE.block_ret ?_
      refine WE.then_ret ?_
      refine WE.then_ret ?_
      refine WE.block_ret ?_
      refine WE.then_ret ?_
      refine WE.ret1 (P := Tryd.prog) (.inl rfl) Tryd.results105 rfl ?_
      exact fun w' h => ⟨by rw [findI_some (by omega) (decide_eq_true h16) hno], h.frm⟩
    · -- 16F
      refine WC.skip ?_
      refine WE.block_n ?_
      refine WE.then_n ?_
      refine WC.region ?_
      refine WL.val (v_add rfl rfl rfl (w_i64 (by omega) (by omega))) (.none rfl) rfl rfl ?_
      refine WL.val (v_move rfl rfl) (.none rfl) rfl rfl ?_
      refine WL.nil ?_
      exact WE.next (k + 1) (by omega) ⟨by omega, fun j hj => by
      by_cases e : j = k
      · subst e; exact decide_eq_false h16
      · exact hno j (by omega)⟩ (.int rfl (by omega) (.cons rfl (.cons rfl (.cons rfl (.cons rfl .nil))))) (.refl _)
  · -- 9F
    refine WL.nil ?_
    refine WE.then_n ?_
    refine WC.seq ?_
    refine WC.cond_f rfl ?_
    refine WC.exit ?_
    refine WE.then_exit ?_
    refine WE.then_exit ?_
    refine WE.block_hit ?_
    refine WE.then_n ?_
    refine WC.seq ?_
    refine WC.region ?_
    refine WL.val (v_assign rfl rfl) (.none rfl) rfl rfl ?_
    refine WL.nil ?_
    refine WE.then_n ?_
    refine WC.ret ?_
    refine WE.ret1 (P := Tryd.prog) (.inl rfl) Tryd.results105 rfl ?_
    obtain rfl : k = n := (by omega)
    exact fun w' h => ⟨by rw [findI_none hno], h.frm⟩
theorem Find_c (w : World) (b o n c : Nat) (R : Nat → Ru) (H : Hd) (hm : ∀ i, i < n → (R i).m.In) (hH : H.In) (hG : GW w) (hn : n ≤ 1000000) (hl : ∀ i, i < n → w.rangeAt b (o + i * 19) (ruL (R i))) :
    Calls Tryd.prog 76 #[.slice (some ⟨b, o, none⟩) n c, .agg (hdCells H)] w
      fun e w' => e = .returned (.int .i64 (findI (fun i => decide ((R i).m.hits H)) n)) ∧ Frm (fun _ => False) w w' := by
  refine enter Tryd.func76 rfl Tryd.ntmps76 rfl (St.start (fun _ => False) w) ?_
  refine WC.seq ?_
  refine WC.region ?_
  refine WL.box rfl rfl rfl (.none rfl) rfl rfl ?_
  intro g3 hg3
  refine WL.val (v_assign rfl rfl) (.none rfl) rfl rfl ?_
  refine WL.nil ?_
  refine WE.then_n ?_
  refine WC.seq ?_
  refine WC.region ?_
  refine WL.val (v_move rfl rfl) (.none rfl) rfl rfl ?_
  refine WL.val (v_makeFunc rfl rfl rfl) (.none rfl) rfl rfl ?_
  refine WL.call rfl rfl ck_105 (.none rfl) rfl rfl ?_
  intro w hS
  refine Calls.then (Idx_c w b o n c g3 R H hm hH (hG.keep (fun h => h) hS) (allAt (g := g3) w hS) hn (fun i hi => rangeIn (fun h => h) (hl i hi) w hS)) hS ?_
  refine WL.val (v_assign rfl rfl) (.none rfl) rfl rfl ?_
  refine WL.nil ?_
  refine WE.then_n ?_
  refine WC.ret ?_
  refine WE.ret1 (P := Tryd.prog) (.inl rfl) Tryd.results76 rfl ?_
  exact fun w' h => ⟨rfl, h.frm⟩
/-! ### A sort of one at most, and what stands beside it -/
set_option maxRecDepth 8000 in
theorem Len64_s (w : World) (n : Nat) (hn : n ≤ 1) : Calls Tryd.prog 118 #[.int .u64 n] w fun e w' => e = .returned (.int .i64 n) ∧ Frm (fun _ => False) w w' := by
  have hq : ((UInt8.ofNat n).toNat : Int) = n := (by match n, hn with | 0, _ => rfl | 1, _ => rfl)
  refine enter Tryd.func118 rfl Tryd.ntmps118 rfl (St.start (fun _ => False) w) ?_
  refine WC.seq ?_
  refine WC.region ?_
  refine WL.val (v_assign rfl rfl) (.none rfl) rfl rfl ?_
  refine WL.nil ?_
  refine WE.then_n ?_
  refine WC.seq ?_
  refine WC.seq ?_
  refine WC.region ?_
  refine WL.val (v_move rfl rfl) (.none rfl) rfl rfl ?_
  refine WL.val ((v_geq rfl rfl rfl).f (by omega)) (.none rfl) rfl rfl ?_
  refine WL.nil ?_
  refine WE.then_n ?_
  refine WC.cond_f rfl ?_
  refine WC.skip ?_
  refine WE.then_n ?_
  refine WC.seq ?_
  refine WC.seq ?_
  refine WC.region ?_
  refine WL.val (v_move rfl rfl) (.none rfl) rfl rfl ?_
  refine WL.val ((v_geq rfl rfl rfl).f (by omega)) (.none rfl) rfl rfl ?_
  refine WL.nil ?_
  refine WE.then_n ?_
  refine WC.cond_f rfl ?_
  refine WC.skip ?_
  refine WE.then_n ?_
  refine WC.seq ?_
  refine WC.seq ?_
  refine WC.region ?_
  refine WL.val (v_move rfl rfl) (.none rfl) rfl rfl ?_
  refine WL.val ((v_geq rfl rfl rfl).f (by omega)) (.none rfl) rfl rfl ?_
  refine WL.nil ?_
  refine WE.then_n ?_
  refine WC.cond_f rfl ?_
  refine WC.skip ?_
  refine WE.then_n ?_
  refine WC.seq ?_
  refine WC.region ?_
  refine WL.val (v_move rfl rfl) (.none rfl) rfl rfl ?_
  refine WL.val (v_move rfl rfl) (.none rfl) rfl rfl ?_
  refine WL.val (v_conv rfl rfl Tryd.underlying5 Tryd.underlying22 (by first | exact w_u8 (by omega) (by omega) | exact w_u8m _)) (.none rfl) rfl rfl ?_
  refine WL.val (v_indexS (lo := n) (v := UInt8.ofNat n) rfl rfl rfl Tryd.underlying9 (by omega) (by match n, hn with | 0, _ => exact rfl | 1, _ => exact rfl)) (.none rfl) rfl rfl ?_
  refine WL.val (v_conv rfl rfl Tryd.underlying3 Tryd.underlying5 (w_i64 (by omega) (by omega))) (.none rfl) rfl rfl ?_
  refine WL.val (v_add rfl rfl rfl (w_i64 (by omega) (by omega))) (.none rfl) rfl rfl ?_
  refine WL.val (v_assign rfl rfl) (.none rfl) rfl rfl ?_
  refine WL.nil ?_
  refine WE.then_n ?_
  refine WC.ret ?_
  refine WE.ret1 (P := Tryd.prog) (.inl rfl) Tryd.results118 rfl ?_
  exact fun w' h => ⟨by rw [← hq]; simp, h.frm⟩
theorem Len_s (w : World) (n : Nat) (hn : n ≤ 1) : Calls Tryd.prog 83 #[.int .u64 n] w fun e w' => e = .returned (.int .i64 n) ∧ Frm (fun _ => False) w w' := by
  refine enter Tryd.func83 rfl Tryd.ntmps83 rfl (St.start (fun _ => False) w) ?_
  refine WC.seq ?_
  refine WC.region ?_
  refine WL.val (v_assign rfl rfl) (.none rfl) rfl rfl ?_
  refine WL.nil ?_
  refine WE.then_n ?_
  refine WC.seq ?_
  refine WC.cond_f rfl ?_
  refine WC.skip ?_
  refine WE.then_n ?_
  refine WC.seq ?_
  refine WC.region ?_
  refine WL.val (v_move rfl rfl) (.none rfl) rfl rfl ?_
  refine WL.call rfl rfl ck_118 (.none rfl) rfl rfl ?_
  intro w hS
  refine Calls.then (Len64_s w n hn) hS ?_
  refine WL.val (v_assign rfl rfl) (.none rfl) rfl rfl ?_
  refine WL.nil ?_
  refine WE.then_n ?_
  refine WC.ret ?_
  refine WE.ret1 (P := Tryd.prog) (.inl rfl) Tryd.results83 rfl ?_
  exact fun w' h => ⟨rfl, h.frm⟩
theorem Insert_s (w : World) (ad : Option Addr) (n c : Nat) (f : Value) (hn : n ≤ 1) : Calls Tryd.prog 109 #[.slice ad n c, .int .i64 0, .int .i64 n, f] w fun e w' => e = .returned (.tuple #[]) ∧ Frm (fun _ => False) w w' := by
  refine enter Tryd.func109 rfl Tryd.ntmps109 rfl (St.start (fun _ => False) w) ?_
  refine WC.seq ?_
  refine WC.region ?_
  refine WL.val (v_move rfl rfl) (.none rfl) rfl rfl ?_
  refine WL.val (v_add rfl rfl rfl (w_i64 (by omega) (by omega))) (.none rfl) rfl rfl ?_
  refine WL.val (v_assign rfl rfl) (.none rfl) rfl rfl ?_
  refine WL.nil ?_
  refine WE.then_n ?_
  refine WC.block ?_
  refine WC.loop (fun _ : Unit => [(8, .int .i64 1), (2, .int .i64 n)]) (fun _ => []) (fun _ => True) (fun _ => 0) () trivial (.cons rfl (.cons rfl .nil)) (.refl _) ?_
  intro _ _
  refine WC.seq ?_
  refine WC.seq ?_
  refine WC.region ?_
  refine WL.val (v_move rfl rfl) (.none rfl) rfl rfl ?_
  refine WL.val (v_move rfl rfl) (.none rfl) rfl rfl ?_
  refine WL.val ((v_lss rfl rfl rfl).f (by omega)) (.none rfl) rfl rfl ?_
  refine WL.nil ?_
  refine WE.then_n ?_
  refine WC.cond_f rfl ?_
  refine WC.exit ?_
  refine WE.then_exit ?_
  refine WE.then_exit ?_
  refine WE.block_hit ?_
  refine WE.ret0 (P := Tryd.prog) (.inr rfl) Tryd.results109  ?_
  exact fun w' h => ⟨rfl, h.frm⟩
theorem Pdq_s (w : World) (ad : Option Addr) (n c : Nat) (f : Value) (m : Int) (hn : n ≤ 1) : Calls Tryd.prog 82 #[.slice ad n c, .int .i64 0, .int .i64 n, .int .i64 m, f] w fun e w' => e = .returned (.tuple #[]) ∧ Frm (fun _ => False) w w' := by
  refine enter Tryd.func82 rfl Tryd.ntmps82 rfl (St.start (fun _ => False) w) ?_
  refine WC.seq ?_
  refine WC.region ?_
  refine WL.val (v_assign rfl rfl) (.none rfl) rfl rfl ?_
  refine WL.nil ?_
  refine WE.then_n ?_
  refine WC.seq ?_
  refine WC.region ?_
  refine WL.val (v_assign rfl rfl) (.none rfl) rfl rfl ?_
  refine WL.nil ?_
  refine WE.then_n ?_
  refine WC.block ?_
  refine WC.loop (fun _ : Unit => [(0, .slice ad n c), (1, .int .i64 0), (2, .int .i64 n), (4, f)]) (fun _ => []) (fun _ => True) (fun _ => 0) () trivial (.cons rfl (.cons rfl (.cons rfl (.cons rfl .nil)))) (.refl _) ?_
  intro _ _
  refine WC.block ?_
  refine WC.seq ?_
  refine WC.region ?_
  refine WL.val (v_move rfl rfl) (.none rfl) rfl rfl ?_
  refine WL.val (v_move rfl rfl) (.none rfl) rfl rfl ?_
  refine WL.val (v_sub rfl rfl rfl (w_i64 (by omega) (by omega))) (.none rfl) rfl rfl ?_
  refine WL.val (v_assign rfl rfl) (.none rfl) rfl rfl ?_
  refine WL.nil ?_
  refine WE.then_n ?_
  refine WC.seq ?_
  refine WC.seq ?_
  refine WC.region ?_
  refine WL.val (v_move rfl rfl) (.none rfl) rfl rfl ?_
  refine WL.val ((v_leq rfl rfl rfl).t (by omega)) (.none rfl) rfl rfl ?_
  refine WL.nil ?_
  refine WE.then_n ?_
  refine WC.cond_t rfl ?_
  refine WC.seq ?_
  refine WC.region ?_
  refine WL.val (v_move rfl rfl) (.none rfl) rfl rfl ?_
  refine WL.val (v_move rfl rfl) (.none rfl) rfl rfl ?_
  refine WL.val (v_move rfl rfl) (.none rfl) rfl rfl ?_
  refine WL.val (v_move rfl rfl) (.none rfl) rfl rfl ?_
  refine WL.call rfl rfl ck_109 (.none rfl) rfl rfl ?_
  intro w hS
  refine Calls.then (Insert_s w ad n c f hn) hS ?_
  refine WL.nil ?_
  refine WE.then_n ?_
  refine WC.ret ?_
  refine WE.then_ret ?_
  refine WE.block_ret ?_
  refine WE.then_ret ?_
  refine WE.block_ret ?_
  refine WE.ret0 (P := Tryd.prog) (.inl rfl) Tryd.results82  ?_
  exact fun w' h => ⟨rfl, h.frm⟩
theorem Sort_s (w : World) (ad : Option Addr) (n c : Nat) (f : Value) (hn : n ≤ 1) : Calls Tryd.prog 57 #[.slice ad n c, f] w fun e w' => e = .returned (.tuple #[]) ∧ Frm (fun _ => False) w w' := by
  refine enter Tryd.func57 rfl Tryd.ntmps57 rfl (St.start (fun _ => False) w) ?_
  refine WC.seq ?_
  refine WC.region ?_
  refine WL.val (v_move rfl rfl) (.none rfl) rfl rfl ?_
  refine WL.val (v_len_slice rfl rfl Tryd.underlying47) (.none rfl) rfl rfl ?_
  refine WL.val (v_assign rfl rfl) (.none rfl) rfl rfl ?_
  refine WL.nil ?_
  refine WE.then_n ?_
  refine WC.region ?_
  refine WL.val (v_move rfl rfl) (.none rfl) rfl rfl ?_
  refine WL.val (v_move rfl rfl) (.none rfl) rfl rfl ?_
  refine WL.val (v_move rfl rfl) (.none rfl) rfl rfl ?_
  refine WL.val (v_conv rfl rfl Tryd.underlying39 Tryd.underlying3 (by first | exact w_u64 (by omega) (by omega) | exact w_u64m _)) (.none rfl) rfl rfl ?_
  refine WL.call rfl rfl ck_83 (.none rfl) rfl rfl ?_
  intro w hS
  refine Calls.then (Len_s w n hn) hS ?_
  refine WL.val (v_move rfl rfl) (.none rfl) rfl rfl ?_
  refine WL.call rfl rfl ck_82 (.none rfl) rfl rfl ?_
  intro w hS
  refine Calls.then (Pdq_s w ad n c f n hn) hS ?_
  refine WL.nil ?_
  refine WE.ret0 (P := Tryd.prog) (.inr rfl) Tryd.results57  ?_
  exact fun w' h => ⟨rfl, h.frm⟩
theorem Compact_s (w : World) (ad : Option Addr) (n c : Nat) (hn : n ≤ 1) : Calls Tryd.prog 77 #[.slice ad n c] w fun e w' => e = .returned (.slice ad n c) ∧ Frm (fun _ => False) w w' := by
  refine enter Tryd.func77 rfl Tryd.ntmps77 rfl (St.start (fun _ => False) w) ?_
  refine WC.seq ?_
  refine WC.region ?_
  refine WL.val (v_assign rfl rfl) (.none rfl) rfl rfl ?_
  refine WL.nil ?_
  refine WE.then_n ?_
  refine WC.seq ?_
  refine WC.seq ?_
  refine WC.region ?_
  refine WL.val (v_move rfl rfl) (.none rfl) rfl rfl ?_
  refine WL.val (v_len_slice rfl rfl Tryd.underlying47) (.none rfl) rfl rfl ?_
  refine WL.val ((v_lss rfl rfl rfl).t (by omega)) (.none rfl) rfl rfl ?_
  refine WL.nil ?_
  refine WE.then_n ?_
  refine WC.cond_t rfl ?_
  refine WC.seq ?_
  refine WC.region ?_
  refine WL.val (v_move rfl rfl) (.none rfl) rfl rfl ?_
  refine WL.val (v_assign rfl rfl) (.none rfl) rfl rfl ?_
  refine WL.nil ?_
  refine WE.then_n ?_
  refine WC.ret ?_
  refine WE.then_ret ?_
  refine WE.ret1 (P := Tryd.prog) (.inl rfl) Tryd.results77 rfl ?_
  exact fun w' h => ⟨rfl, h.frm⟩
end Go.Proofs.YtodaanhhnjkncaaDoor
/- policy: holds. -/
namespace Go.Proofs.YtodaanhhnjkncaaDoor
open Go.RowKit

mutual
/-- All is right with a tree (as a predicate, or as a policy). -/
def okT : Bool → Nd → Prop
  | pred, .mk k f v m a c kids => fitsP k pred = true ∧ argE (.mk k f v m a c kids) = 0 ∧ formE (.mk k f v m a c kids) = 0 ∧ okKs k 0 kids
def okKs (k : Int) : Nat → List Nd → Prop
  | _, [] => True
  | i, t :: ts => okT (predK k i) t ∧ okKs k (i + 1) ts
end
theorem okT.parts {t : Nd} {pred : Bool} (h : okT pred t) : fitsP t.kind pred = true ∧ argE t = 0 ∧ formE t = 0 ∧ okKs t.kind 0 t.kids := by
  cases t; unfold okT at h; exact h
theorem okKs.get {k : Int} : ∀ (ts : List Nd) (i j : Nat) (t : Nd), okKs k i ts → ts[j]? = some t → okT (predK k (i + j)) t
  | [], _, _, _, _, h => by simp at h
  | t :: ts, i, 0, t', h, ht => by
    simp only [List.getElem?_cons_zero, Option.some.injEq] at ht
    subst ht
    unfold okKs at h
    exact h.1
  | t :: ts, i, j + 1, t', h, ht => by
    unfold okKs at h
    rw [List.getElem?_cons_succ] at ht
    have := okKs.get ts (i + 1) j t' h.2 ht
    rwa [show i + 1 + j = i + (j + 1) by omega] at this
theorem okT.kid {t u : Nd} {pred : Bool} {j : Nat} (h : okT pred t) (hu : t.kids[j]? = some u) : okT (predK t.kind j) u := by
  have := h.parts.2.2.2.get _ 0 j u hu
  rwa [Nat.zero_add] at this
mutual
theorem walkT_ok : ∀ (t : Nd) (deep : Int) (pred : Bool) (n : Int), (walkT t deep pred n).1 = 0 → okT pred t
  | .mk k f v m a c kids, deep, pred, n, he => by
    rw [walkT] at he
    split at he
    · cases he
    · split at he
      · cases he
      · split at he
        · rename_i h; exact absurd he h
        · split at he
          · rename_i h; exact absurd he h
          · rename_i h1 h2 h3 h4
            unfold okT
            exact ⟨by simpa using h2, Classical.not_not.1 h3, Classical.not_not.1 h4, walkKs_ok k 0 kids (deep + 1) (n + 1) he⟩
theorem walkKs_ok (k : Int) : ∀ (i : Nat) (ts : List Nd) (deep n : Int), (walkKs k i ts deep n).1 = 0 → okKs k i ts
  | _, [], _, _, _ => by unfold okKs; trivial
  | i, t :: ts, deep, n, he => by
    rw [walkKs] at he
    split at he
    · rename_i h; exact absurd he h
    · rename_i h
      unfold okKs
      exact ⟨walkT_ok t deep (predK k i) n (Classical.not_not.1 h), walkKs_ok k (i + 1) ts deep _ he⟩
end
mutual
/-- Whether a predicate holds of a header. -/
def holdsT (H : Hd) : Nd → Bool
  | .mk k f v m _ _ kids => if k = 1 then true else if k = 3 then decide (andN (xorN (getF H f.toNat) v) m = 0) else if k = 4 then !(holdsKs H kids).getD 0 false else if k = 5 then (holdsKs H kids).all id else if k = 6 then (holdsKs H kids).any id else false
def holdsKs (H : Hd) : List Nd → List Bool
  | [] => []
  | t :: ts => holdsT H t :: holdsKs H ts
end
theorem holdsKs_map (H : Hd) : ∀ ts : List Nd, holdsKs H ts = ts.map (holdsT H)
  | [] => by rw [holdsKs]; rfl
  | t :: ts => by rw [holdsKs, holdsKs_map H ts]; rfl
theorem holdsT_eq (H : Hd) (t : Nd) : holdsT H t = if t.kind = 1 then true else if t.kind = 3 then decide (andN (xorN (getF H t.f.toNat) t.val) t.mask = 0) else if t.kind = 4 then !((t.kids.map (holdsT H)).getD 0 false) else if t.kind = 5 then (t.kids.map (holdsT H)).all id else if t.kind = 6 then (t.kids.map (holdsT H)).any id else false := by
  cases t; rw [holdsT, holdsKs_map]; rfl
/-- The first of a node's kids that a function says true of. -/
theorem PIdx_c (w : World) (t : Nd) (fn : FuncId) (ck_fn : callOk Tryd.prog fn) (cap : Array Value) (r : Nd → Bool) (hI : t.In) (hA : t.At w)
    (hf : ∀ (i : Nat) (u : Nd), t.kids[i]? = some u → ∀ w', Frm (fun _ => False) w w' → Calls Tryd.prog fn (#[] ++ #[ndV u] ++ cap) w' fun e w'' => e = .returned (.bool (r u)) ∧ Frm (fun _ => False) w' w'') :
    Calls Tryd.prog 120 #[.slice t.ad t.kids.length t.cap, .func (.func fn) #[] cap] w
      fun e w' => e = .returned (.int .i64 (findI (fun i => ((t.kids[i]?).map r).getD false) t.kids.length)) ∧ Frm (fun _ => False) w w' := by
  have hlen := hI.nums.2.2.2.2
  refine enter Tryd.func120 rfl Tryd.ntmps120 rfl (St.start (fun _ => False) w) ?_
  refine WC.seq ?_
  refine WC.region ?_
  refine WL.val (v_assign rfl rfl) (.none rfl) rfl rfl ?_
  refine WL.nil ?_
  refine WE.then_n ?_
  refine WC.seq ?_
  refine WC.seq ?_
  refine WC.region ?_
  refine WL.val (v_move rfl rfl) (.none rfl) rfl rfl ?_
  refine WL.val (v_len_slice rfl rfl Tryd.underlying43) (.none rfl) rfl rfl ?_
  refine WL.val (v_move rfl rfl) (.none rfl) rfl rfl ?_
  refine WL.nil ?_
  refine WE.then_n ?_
  refine WC.block ?_
  refine WC.loop (fun k : Nat => [(8, .int .i64 k), (7, .int .i64 t.kids.length), (6, .slice t.ad t.kids.length t.cap), (0, .slice t.ad t.kids.length t.cap), (1, .func (.func fn) #[] cap)]) (fun _ => []) (fun k => k ≤ t.kids.length ∧ ∀ j, j < k → ((t.kids[j]?).map r).getD false = false) (fun k => t.kids.length - k) 0 ⟨Nat.zero_le _, fun j h => absurd h (by omega)⟩ (.cons rfl (.cons rfl (.cons rfl (.cons rfl (.cons rfl .nil))))) (.refl _) ?_
  rintro k ⟨hk, hno⟩
  refine WC.seq ?_
  refine WC.region ?_
  refine WL.test (v_lss rfl rfl rfl) (.none rfl) rfl rfl (fun h9 => ?_) (fun h9 => ?_)
  · -- 9T
    refine WL.nil ?_
    refine WE.then_n ?_
    refine WC.seq ?_
    refine WC.cond_t rfl ?_
    refine WC.skip ?_
    refine WE.then_n ?_
    refine WC.seq ?_
    refine WC.block ?_
    refine WC.seq ?_
    refine WC.region ?_
    refine WL.val (v_move rfl rfl) (.none rfl) rfl rfl ?_
    obtain ⟨u, hu⟩ : ∃ u, t.kids[k]? = some u := ⟨t.kids[k]'(by omega), List.getElem?_eq_getElem _⟩
    obtain ⟨b, o, ea, hr⟩ := (hA.kid hu).1
    refine WL.val (v_assign rfl rfl) (.none rfl) rfl rfl ?_
    refine WL.nil ?_
    refine WE.then_n ?_
    refine WC.seq ?_
    refine WC.region ?_
    refine WL.val (v_move rfl rfl) (.none rfl) rfl rfl ?_
    refine WL.val (v_move rfl rfl) (.none rfl) rfl rfl ?_
    refine WL.val (v_move rfl rfl) (.none rfl) rfl rfl ?_
    refine WL.val (v_indexAddr (b := b) (off := o) (lo := k) rfl (by show some (Value.slice t.ad _ _) = _; rw [ea]) rfl Tryd.underlying43 sz_45 rfl (by omega)) (.none rfl) rfl rfl ?_
    refine WL.val (v_loadN (cs := ndL u) rfl rfl many_45 rfl (rangeIn (fun h => h) hr)) (.none rfl) rfl rfl ?_
    refine WL.callV rfl rfl rfl ck_fn (.none rfl) rfl rfl ?_
    intro w hS
    refine Calls.then (hf k u hu w hS.frm) hS ?_
    generalize hb : r u = bb
    cases bb
    · -- 16F
      refine WL.nil ?_
      refine WE.then_n ?_
      refine WC.cond_f rfl ?_
      refine WC.skip ?_
      refine WE.block_n ?_
      refine WE.then_n ?_
      refine WC.region ?_
      refine WL.val (v_add rfl rfl rfl (w_i64 (by omega) (by omega))) (.none rfl) rfl rfl ?_
      refine WL.val (v_move rfl rfl) (.none rfl) rfl rfl ?_
      refine WL.nil ?_
      exact WE.next (k + 1) (by omega) ⟨by omega, fun j hj => by
      by_cases e : j = k
      · subst e; rw [hu]; exact hb
      · exact hno j (by omega)⟩ (.int rfl (by omega) (.cons rfl (.cons rfl (.cons rfl (.cons rfl .nil))))) (.refl _)
    · -- 16T
      refine WL.nil ?_
      refine WE.then_n ?_
      refine WC.cond_t rfl ?_
      refine WC.seq ?_
      refine WC.region ?_
      refine WL.val (v_move rfl rfl) (.none rfl) rfl rfl ?_
      refine WL.val (v_assign rfl rfl) (.none rfl) rfl rfl ?_
      refine WL.nil ?_
      refine WE.then_n ?_
      refine WC.ret ?_
      refine WE.block_ret ?_
      refine WE.then_ret ?_
      refine WE.then_ret ?_
      refine WE.block_ret ?_
      refine WE.then_ret ?_
      refine WE.ret1 (P := Tryd.prog) (.inl rfl) Tryd.results120 rfl ?_
      exact fun w' h => ⟨by rw [findI_some (k := k) (by omega) (by rw [hu]; exact hb) hno], h.frm⟩
  · -- 9F
    refine WL.nil ?_
    refine WE.then_n ?_
    refine WC.seq ?_
    refine WC.cond_f rfl ?_
    refine WC.exit ?_
    refine WE.then_exit ?_
    refine WE.then_exit ?_
    refine WE.block_hit ?_
    refine WE.then_n ?_
    refine WC.seq ?_
    refine WC.region ?_
    refine WL.val (v_assign rfl rfl) (.none rfl) rfl rfl ?_
    refine WL.nil ?_
    refine WE.then_n ?_
    refine WC.ret ?_
    refine WE.ret1 (P := Tryd.prog) (.inl rfl) Tryd.results120 rfl ?_
    obtain rfl : k = t.kids.length := (by omega)
    exact fun w' h => ⟨by rw [findI_none hno], h.frm⟩
theorem findI_any (r : Nd → Bool) (ts : List Nd) : decide (0 ≤ findI (fun i => ((ts[i]?).map r).getD false) ts.length) = ts.any r := by
  by_cases h : ∃ i, i < ts.length ∧ ((ts[i]?).map r).getD false = true
  · obtain ⟨i, hi, ht⟩ := h
    have h2 : findI (fun i => ((ts[i]?).map r).getD false) ts.length ≠ -1 := by
      intro e
      unfold findI at e
      split at e
      · rename_i k _; omega
      · rename_i hn
        have := List.find?_eq_none.1 hn i (List.mem_range.2 hi)
        exact this ht
    have h3 : 0 ≤ findI (fun i => ((ts[i]?).map r).getD false) ts.length := by
      unfold findI at h2 ⊢
      split
      · omega
      · rename_i hn; rw [hn] at h2; exact absurd rfl h2
    rw [decide_eq_true h3]
    symm
    rw [List.any_eq_true]
    rw [List.getElem?_eq_getElem hi] at ht
    exact ⟨ts[i], List.getElem_mem hi, ht⟩
  · rw [findI_none (fun j hj => by
      cases e : ((ts[j]?).map r).getD false with
      | false => rfl
      | true => exact absurd ⟨j, hj, e⟩ h)]
    symm
    rw [show decide ((0 : Int) ≤ -1) = false by decide, List.any_eq_false]
    intro u hu ht
    obtain ⟨i, hi, e⟩ := List.getElem_of_mem hu
    exact h ⟨i, hi, by rw [List.getElem?_eq_getElem hi, e]; exact ht⟩
theorem PCon_c (w : World) (t : Nd) (fn : FuncId) (ck_fn : callOk Tryd.prog fn) (cap : Array Value) (r : Nd → Bool) (hI : t.In) (hA : t.At w)
    (hf : ∀ (i : Nat) (u : Nd), t.kids[i]? = some u → ∀ w', Frm (fun _ => False) w w' → Calls Tryd.prog fn (#[] ++ #[ndV u] ++ cap) w' fun e w'' => e = .returned (.bool (r u)) ∧ Frm (fun _ => False) w' w'') :
    Calls Tryd.prog 91 #[.slice t.ad t.kids.length t.cap, .func (.func fn) #[] cap] w
      fun e w' => e = .returned (.bool (t.kids.any r)) ∧ Frm (fun _ => False) w w' := by
  refine enter Tryd.func91 rfl Tryd.ntmps91 rfl (St.start (fun _ => False) w) ?_
  refine WC.seq ?_
  refine WC.region ?_
  refine WL.val (v_assign rfl rfl) (.none rfl) rfl rfl ?_
  refine WL.nil ?_
  refine WE.then_n ?_
  refine WC.seq ?_
  refine WC.region ?_
  refine WL.val (v_move rfl rfl) (.none rfl) rfl rfl ?_
  refine WL.val (v_move rfl rfl) (.none rfl) rfl rfl ?_
  refine WL.call rfl rfl ck_120 (.none rfl) rfl rfl ?_
  intro w hS
  refine Calls.then (PIdx_c w t fn ck_fn cap r hI (hA.st (fun _ h => h) hS) (fun i u hu w' hF => hf i u hu w' (hS.frm.trans hF))) hS ?_
  refine WL.val (v_geq rfl rfl rfl) (.none rfl) rfl rfl ?_
  refine WL.val (v_assign rfl rfl) (.none rfl) rfl rfl ?_
  refine WL.nil ?_
  refine WE.then_n ?_
  refine WC.ret ?_
  refine WE.ret1 (P := Tryd.prog) (.inl rfl) Tryd.results91 rfl ?_
  exact fun w' h => ⟨by rw [← findI_any], h.frm⟩
end Go.Proofs.YtodaanhhnjkncaaDoor
/- policy: holds, Holds. -/
namespace Go.Proofs.YtodaanhhnjkncaaDoor
open Go.RowKit

theorem Frm.range {w w' : World} (hF : Frm (fun _ => False) w w') (b o : Nat) (cs : List Value) (h : w.rangeAt b o cs) : w'.rangeAt b o cs := ((St.start (fun _ => False) w).ext hF).range (fun _ h => h) b o cs h
theorem Frm.gw {w w' : World} (hF : Frm (fun _ => False) w w') (h : GW w) : GW w' := h.keep (fun h => h) ((St.start (fun _ => False) w).ext hF)
theorem Frm.at {w w' : World} {t : Nd} (hF : Frm (fun _ => False) w w') (h : t.At w) : t.At w' := h.keep (Frm.range hF)
theorem formE_le {t : Nd} (h : formE t = 0) : leastK t.kind ≤ t.kids.length ∧ (t.kids.length : Int) ≤ mostK t.kind := by
  unfold formE at h
  split at h
  · cases h
  · omega
/-- What is shown of holds, up to a size. -/
def HoldsTo (N : Nat) (H : Hd) : Prop := ∀ (t : Nd), SizeOf.sizeOf t ≤ N → ∀ (w : World), okT true t → t.In → t.At w → GW w →
  Calls Tryd.prog 66 #[ndV t, .agg (hdCells H)] w fun e w' => e = .returned (.bool (holdsT H t)) ∧ Frm (fun _ => False) w w'
theorem Of1_c (N : Nat) (H : Hd) (ih : HoldsTo N H) (w : World) (gh : Nat) (u : Nd) (hN : SizeOf.sizeOf u ≤ N) (hk : okT true u) (hI : u.In) (hA : u.At w) (hG : GW w) (hh : w.rangeAt gh 0 (hdL H)) :
    Calls Tryd.prog 90 #[ndV u, .pointer (some ⟨gh, 0, none⟩)] w fun e w' => e = .returned (.bool (holdsT H u)) ∧ Frm (fun _ => False) w w' := by
  refine enter Tryd.func90 rfl Tryd.ntmps90 rfl (St.start (fun _ => False) w) ?_
  refine WC.seq ?_
  refine WC.region ?_
  refine WL.box rfl rfl rfl (.none rfl) rfl rfl ?_
  intro g2 hg2
  refine WL.val (v_assign rfl rfl) (.none rfl) rfl rfl ?_
  refine WL.nil ?_
  refine WE.then_n ?_
  refine WC.seq ?_
  refine WC.region ?_
  refine WL.val (v_loadN rfl rfl many_45 rfl allAt) (.none rfl) rfl rfl ?_
  refine WL.val (v_loadN (cs := hdL H) rfl rfl many_31 rfl (rangeIn (fun h => h) hh)) (.none rfl) rfl rfl ?_
  refine WL.call rfl rfl ck_66 (.none rfl) rfl rfl ?_
  intro w hS
  refine Calls.then (ih u hN w hk hI (hA.st (fun _ h => h) hS) (hG.keep (fun h => h) hS)) hS ?_
  refine WL.val (v_assign rfl rfl) (.none rfl) rfl rfl ?_
  refine WL.nil ?_
  refine WE.then_n ?_
  refine WC.ret ?_
  refine WE.ret1 (P := Tryd.prog) (.inl rfl) Tryd.results90 rfl ?_
  exact fun w' h => ⟨rfl, h.frm⟩
def ofF (gh : Nat) : Value := .func (.func 90) #[] #[.pointer (some ⟨gh, 0, none⟩)]
theorem Of2_c (N : Nat) (H : Hd) (ih : HoldsTo N H) (w : World) (gh gv : Nat) (u : Nd) (hN : SizeOf.sizeOf u ≤ N) (hk : okT true u) (hI : u.In) (hA : u.At w) (hG : GW w) (hh : w.rangeAt gh 0 (hdL H)) (hv : w.cell? ⟨gv, 0, none⟩ = some (ofF gh)) :
    Calls Tryd.prog 92 #[ndV u, .pointer (some ⟨gv, 0, none⟩)] w fun e w' => e = .returned (.bool (!holdsT H u)) ∧ Frm (fun _ => False) w w' := by
  refine enter Tryd.func92 rfl Tryd.ntmps92 rfl (St.start (fun _ => False) w) ?_
  refine WC.seq ?_
  refine WC.region ?_
  refine WL.box rfl rfl rfl (.none rfl) rfl rfl ?_
  intro g2 hg2
  refine WL.val (v_assign rfl rfl) (.none rfl) rfl rfl ?_
  refine WL.nil ?_
  refine WE.then_n ?_
  refine WC.seq ?_
  refine WC.region ?_
  refine WL.val (v_load1 rfl rfl one_71 (cellOld (fun h => h) hv)) (.none rfl) rfl rfl ?_
  refine WL.val (v_loadN rfl rfl many_45 rfl allAt) (.none rfl) rfl rfl ?_
  refine WL.callV rfl rfl rfl ck_90 (.none rfl) rfl rfl ?_
  intro w hS
  refine Calls.then (Of1_c N H ih w gh u hN hk hI (hA.st (fun _ h => h) hS) (hG.keep (fun h => h) hS) (rangeIn (fun h => h) hh w hS)) hS ?_
  generalize holdsT H u = bb
  cases bb
  · -- 6F
    refine WL.val (v_not rfl rfl rfl) (.none rfl) rfl rfl ?_
    refine WL.val (v_assign rfl rfl) (.none rfl) rfl rfl ?_
    refine WL.nil ?_
    refine WE.then_n ?_
    refine WC.ret ?_
    refine WE.ret1 (P := Tryd.prog) (.inl rfl) Tryd.results92 rfl ?_
    exact fun w' h => ⟨rfl, h.frm⟩
  · -- 6T
    refine WL.val (v_not rfl rfl rfl) (.none rfl) rfl rfl ?_
    refine WL.val (v_assign rfl rfl) (.none rfl) rfl rfl ?_
    refine WL.nil ?_
    refine WE.then_n ?_
    refine WC.ret ?_
    refine WE.ret1 (P := Tryd.prog) (.inl rfl) Tryd.results92 rfl ?_
    exact fun w' h => ⟨rfl, h.frm⟩
theorem predK_pred {k : Int} {j : Nat} (h : k = 4 ∨ k = 5 ∨ k = 6 ∨ k = 13) : predK k j = true := by unfold predK; rw [decide_eq_true (by omega)]
set_option maxHeartbeats 1000000 in
theorem holds_step (H : Hd) (hH : H.In) (N : Nat) (ih : HoldsTo N H) : HoldsTo (N + 1) H := by
  intro t hN w hk hI hA hG
  obtain ⟨hfit, harg, hform, _⟩ := hk.parts
  have hnum := hI.nums
  have hkid : ∀ (j : Nat) (u : Nd), t.kids[j]? = some u → t.kind = 4 ∨ t.kind = 5 ∨ t.kind = 6 → SizeOf.sizeOf u ≤ N ∧ okT true u ∧ u.In := fun j u hu h4 => by
    refine ⟨by have := Nd.kid_size hu; omega, ?_, hI.kids.get _ _ _ hu⟩
    have := hk.kid hu
    rwa [predK_pred (by omega)] at this
  refine enter Tryd.func66 rfl Tryd.ntmps66 rfl (St.start (fun _ => False) w) ?_
  refine WC.seq ?_
  refine WC.region ?_
  refine WL.box rfl rfl rfl (.none rfl) rfl rfl ?_
  intro g2 hg2
  refine WL.box rfl rfl rfl (.none rfl) rfl rfl ?_
  intro g3 hg3
  refine WL.val (v_assign rfl rfl) (.none rfl) rfl rfl ?_
  refine WL.nil ?_
  refine WE.then_n ?_
  refine WC.seq ?_
  refine WC.region ?_
  refine WL.val (v_makeFunc rfl rfl rfl) (.none rfl) rfl rfl ?_
  refine WL.alloc rfl zero_71 (.none rfl) rfl rfl ?_
  intro g5 hg5
  skip
  refine WL.store1 rfl rfl rfl rfl one_71 (Nat.le_of_ble_eq_true rfl) (.none rfl) rfl ?_
  refine WL.nil ?_
  refine WE.then_n ?_
  refine WC.seq ?_
  refine WC.seq ?_
  refine WC.region ?_
  refine WL.val (v_fieldAddr0 rfl rfl fld_45_0) (.none rfl) rfl rfl ?_
  refine WL.val (v_load1 rfl rfl one_3 (cellAt rfl)) (.none rfl) rfl rfl ?_
  refine WL.nil ?_
  refine WE.then_n ?_
  refine WC.block ?_
  refine WC.seq ?_
  refine WC.region ?_
  refine WL.test (v_eql rfl rfl rfl) (.none rfl) rfl rfl (fun h10 => ?_) (fun h10 => ?_)
  · -- 10T
    refine WL.val (v_assign rfl rfl) (.none rfl) rfl rfl ?_
    refine WL.nil ?_
    refine WE.then_n ?_
    refine WC.cond_t rfl ?_
    refine WC.seq ?_
    refine WC.region ?_
    refine WL.val (v_assign rfl rfl) (.none rfl) rfl rfl ?_
    refine WL.nil ?_
    refine WE.then_n ?_
    refine WC.ret ?_
    refine WE.block_ret ?_
    refine WE.then_ret ?_
    refine WE.ret1 (P := Tryd.prog) (.inl rfl) Tryd.results66 rfl ?_
    exact fun w' h => ⟨by rw [holdsT_eq, if_pos h10], h.frm⟩
  · -- 10F
    refine WL.val (v_assign rfl rfl) (.none rfl) rfl rfl ?_
    refine WL.nil ?_
    refine WE.then_n ?_
    refine WC.cond_f rfl ?_
    refine WC.seq ?_
    refine WC.region ?_
    refine WL.test (v_eql rfl rfl rfl) (.none rfl) rfl rfl (fun h12 => ?_) (fun h12 => ?_)
    · -- 12T
      refine WL.val (v_assign rfl rfl) (.none rfl) rfl rfl ?_
      refine WL.nil ?_
      refine WE.then_n ?_
      refine WC.cond_t rfl ?_
      refine WC.seq ?_
      refine WC.quiet mixed (by kernel_rfl) ?_
      refine WQ.val (v_loadN rfl rfl many_31 rfl allAt) (.none rfl) rfl rfl ?_
      obtain ⟨q, eq, hq9, eq2⟩ : ∃ q : Nat, t.f = q ∧ q < 9 ∧ t.f.toNat = q := (by
        unfold argE at harg
        rw [if_pos h12] at harg
        split at harg
        · cases harg
        · rename_i h; exact isFld.nat (Classical.not_not.1 (fun q => h (.inl q))))
      have hg := getF_le H q
      have hf := fullI_u64 q
      have hx := xorN_le (x := getF H q) (y := t.val) (by omega) hnum.2.2.1.2
      refine WQ.val (v_fieldAddr0 rfl rfl fld_45_1) (.none rfl) rfl rfl ?_
      refine WQ.val (v_load1 rfl rfl one_37 (cellAt rfl)) (.none rfl) rfl rfl ?_
      refine WQ.call _ rfl rfl ck_16 (.none rfl) rfl rfl (fun w hS => Calls.still (by rw [eq]; exact Get_c w H q hq9 hH (hG.keep (fun h => h) hS)) hS) ?_
      refine WQ.val (v_fieldAddr0 rfl rfl fld_45_2) (.none rfl) rfl rfl ?_
      refine WQ.val (v_load1 rfl rfl one_22 (cellAt rfl)) (.none rfl) rfl rfl ?_
      refine WQ.val (v_xor rfl rfl rfl (bits_xor_u64 hg.1 (by omega) hnum.2.2.1.1 hnum.2.2.1.2)) (.none rfl) rfl rfl ?_
      refine WQ.val (v_fieldAddr0 rfl rfl fld_45_3) (.none rfl) rfl rfl ?_
      refine WQ.val (v_load1 rfl rfl one_22 (cellAt rfl)) (.none rfl) rfl rfl ?_
      refine WQ.val (v_and rfl rfl rfl (bits_and_u64 hx.1 hx.2 hnum.2.2.2.1.1 hnum.2.2.2.1.2)) (.none rfl) rfl rfl ?_
      refine WQ.val (v_eql rfl rfl rfl) (.none rfl) rfl rfl ?_
      refine WQ.val (v_assign rfl rfl) (.none rfl) rfl rfl ?_
      refine WQ.nil ?_
      refine WE.then_n ?_
      refine WC.ret ?_
      refine WE.block_ret ?_
      refine WE.then_ret ?_
      refine WE.ret1 (P := Tryd.prog) (.inl rfl) Tryd.results66 rfl ?_
      exact fun w' h => ⟨by rw [holdsT_eq, if_neg h10, if_pos h12, eq2], h.frm⟩
    · -- 12F
      refine WL.val (v_assign rfl rfl) (.none rfl) rfl rfl ?_
      refine WL.nil ?_
      refine WE.then_n ?_
      refine WC.cond_f rfl ?_
      refine WC.seq ?_
      refine WC.region ?_
      refine WL.test (v_eql rfl rfl rfl) (.none rfl) rfl rfl (fun h25 => ?_) (fun h25 => ?_)
      · -- 25T
        refine WL.val (v_assign rfl rfl) (.none rfl) rfl rfl ?_
        refine WL.nil ?_
        refine WE.then_n ?_
        refine WC.cond_t rfl ?_
        refine WC.seq ?_
        refine WC.quiet mixed (by kernel_rfl) ?_
        refine WQ.val (v_load1 rfl rfl one_71 (cellAt rfl)) (.none rfl) rfl rfl ?_
        refine WQ.val (v_fieldAddr0 rfl rfl fld_45_4) (.none rfl) rfl rfl ?_
        refine WQ.val (v_load1 rfl rfl one_43 (cellAt rfl)) (.none rfl) rfl rfl ?_
        obtain ⟨u, hu⟩ : ∃ u, t.kids[0]? = some u := (by
          have : 1 ≤ t.kids.length := (by have := (formE_le hform).1; rw [h25, show leastK 4 = 1 by decide] at this; omega)
          exact ⟨t.kids[0]'(by omega), List.getElem?_eq_getElem _⟩)
        obtain ⟨b, o, ea, hr⟩ := (hA.kid hu).1
        obtain ⟨k1, k2, k3⟩ := hkid 0 u hu (.inl h25)
        have hl0 : 0 < t.kids.length := (by
          rcases Nat.eq_zero_or_pos t.kids.length with h | h
          · rw [List.getElem?_eq_none (by omega)] at hu; cases hu
          · exact h)
        refine WQ.val (v_indexAddr (b := b) (off := o) (lo := 0) rfl (by show some (Value.slice t.ad _ _) = _; rw [ea]) rfl Tryd.underlying43 sz_45 rfl hl0) (.none rfl) rfl rfl ?_
        refine WQ.val (v_loadN (cs := ndL u) rfl rfl many_45 rfl (rangeIn (fun h => h) hr)) (.none rfl) rfl rfl ?_
        refine WQ.callV _ rfl rfl rfl ck_90 (.none rfl) rfl rfl (fun w hS => Calls.still (Of1_c N H ih w g3 u k1 k2 k3 ((hA.kid hu).2.st (fun _ h => h) hS) (hG.keep (fun h => h) hS) (allAt (g := g3) w hS)) hS) ?_
        generalize hbb : holdsT H u = bb
        cases bb
        · -- 31F
          refine WQ.val (v_not rfl rfl rfl) (.none rfl) rfl rfl ?_
          refine WQ.val (v_assign rfl rfl) (.none rfl) rfl rfl ?_
          refine WQ.nil ?_
          refine WE.then_n ?_
          refine WC.ret ?_
          refine WE.block_ret ?_
          refine WE.then_ret ?_
          refine WE.ret1 (P := Tryd.prog) (.inl rfl) Tryd.results66 rfl ?_
          exact fun w' h => ⟨by rw [holdsT_eq, if_neg h10, if_neg h12, if_pos h25, List.getD_eq_getElem?_getD, List.getElem?_map, hu]; simp [hbb], h.frm⟩
        · -- 31T
          refine WQ.val (v_not rfl rfl rfl) (.none rfl) rfl rfl ?_
          refine WQ.val (v_assign rfl rfl) (.none rfl) rfl rfl ?_
          refine WQ.nil ?_
          refine WE.then_n ?_
          refine WC.ret ?_
          refine WE.block_ret ?_
          refine WE.then_ret ?_
          refine WE.ret1 (P := Tryd.prog) (.inl rfl) Tryd.results66 rfl ?_
          exact fun w' h => ⟨by rw [holdsT_eq, if_neg h10, if_neg h12, if_pos h25, List.getD_eq_getElem?_getD, List.getElem?_map, hu]; simp [hbb], h.frm⟩
      · -- 25F
        refine WL.val (v_assign rfl rfl) (.none rfl) rfl rfl ?_
        refine WL.nil ?_
        refine WE.then_n ?_
        refine WC.cond_f rfl ?_
        refine WC.seq ?_
        refine WC.region ?_
        refine WL.test (v_eql rfl rfl rfl) (.none rfl) rfl rfl (fun h34 => ?_) (fun h34 => ?_)
        · -- 34T
          refine WL.val (v_assign rfl rfl) (.none rfl) rfl rfl ?_
          refine WL.nil ?_
          refine WE.then_n ?_
          refine WC.cond_t rfl ?_
          refine WC.seq ?_
          refine WC.region ?_
          refine WL.val (v_fieldAddr0 rfl rfl fld_45_4) (.none rfl) rfl rfl ?_
          refine WL.val (v_load1 rfl rfl one_43 (cellAt rfl)) (.none rfl) rfl rfl ?_
          refine WL.val (v_makeFunc rfl rfl rfl) (.none rfl) rfl rfl ?_
          refine WL.call rfl rfl ck_91 (.none rfl) rfl rfl ?_
          intro w hS
          refine Calls.then (PCon_c w t 92 ck_92 _ (fun u => !holdsT H u) hI (hA.st (fun _ h => h) hS) (fun i u hu w' hF => Of2_c N H ih w' g3 g5 u (hkid i u hu (by omega)).1 (hkid i u hu (by omega)).2.1 (hkid i u hu (by omega)).2.2 (Frm.at hF ((hA.kid hu).2.st (fun _ h => h) hS)) (Frm.gw hF (hG.keep (fun h => h) hS)) (Frm.range hF _ _ _ (allAt (g := g3) w hS)) (((St.start (fun _ => False) w).ext hF).old (fun h => h) (hS.cell (g := g5) rfl)))) hS ?_
          generalize hbb : (t.kids.any fun u => !holdsT H u) = bb
          cases bb
          · -- 38F
            refine WL.val (v_not rfl rfl rfl) (.none rfl) rfl rfl ?_
            refine WL.val (v_assign rfl rfl) (.none rfl) rfl rfl ?_
            refine WL.nil ?_
            refine WE.then_n ?_
            refine WC.ret ?_
            refine WE.block_ret ?_
            refine WE.then_ret ?_
            refine WE.ret1 (P := Tryd.prog) (.inl rfl) Tryd.results66 rfl ?_
            exact fun w' h => ⟨by rw [holdsT_eq, if_neg h10, if_neg h12, if_neg h25, if_pos h34, List.all_map, List.all_eq_not_any_not]; simp only [Function.comp, id]; rw [hbb], h.frm⟩
          · -- 38T
            refine WL.val (v_not rfl rfl rfl) (.none rfl) rfl rfl ?_
            refine WL.val (v_assign rfl rfl) (.none rfl) rfl rfl ?_
            refine WL.nil ?_
            refine WE.then_n ?_
            refine WC.ret ?_
            refine WE.block_ret ?_
            refine WE.then_ret ?_
            refine WE.ret1 (P := Tryd.prog) (.inl rfl) Tryd.results66 rfl ?_
            exact fun w' h => ⟨by rw [holdsT_eq, if_neg h10, if_neg h12, if_neg h25, if_pos h34, List.all_map, List.all_eq_not_any_not]; simp only [Function.comp, id]; rw [hbb], h.frm⟩
        · -- 34F
          refine WL.val (v_assign rfl rfl) (.none rfl) rfl rfl ?_
          refine WL.nil ?_
          refine WE.then_n ?_
          refine WC.cond_f rfl ?_
          refine WC.seq ?_
          refine WC.region ?_
          refine WL.test (v_eql rfl rfl rfl) (.none rfl) rfl rfl (fun h41 => ?_) (fun h41 => ?_)
          · -- 41T
            refine WL.val (v_assign rfl rfl) (.none rfl) rfl rfl ?_
            refine WL.nil ?_
            refine WE.then_n ?_
            refine WC.cond_t rfl ?_
            refine WC.seq ?_
            refine WC.region ?_
            refine WL.val (v_fieldAddr0 rfl rfl fld_45_4) (.none rfl) rfl rfl ?_
            refine WL.val (v_load1 rfl rfl one_43 (cellAt rfl)) (.none rfl) rfl rfl ?_
            refine WL.val (v_load1 rfl rfl one_71 (cellAt rfl)) (.none rfl) rfl rfl ?_
            refine WL.call rfl rfl ck_91 (.none rfl) rfl rfl ?_
            intro w hS
            refine Calls.then (PCon_c w t 90 ck_90 _ (holdsT H) hI (hA.st (fun _ h => h) hS) (fun i u hu w' hF => Of1_c N H ih w' g3 u (hkid i u hu (by omega)).1 (hkid i u hu (by omega)).2.1 (hkid i u hu (by omega)).2.2 (Frm.at hF ((hA.kid hu).2.st (fun _ h => h) hS)) (Frm.gw hF (hG.keep (fun h => h) hS)) (Frm.range hF _ _ _ (allAt (g := g3) w hS)))) hS ?_
            refine WL.val (v_assign rfl rfl) (.none rfl) rfl rfl ?_
            refine WL.nil ?_
            refine WE.then_n ?_
            refine WC.ret ?_
            refine WE.block_ret ?_
            refine WE.then_ret ?_
            refine WE.ret1 (P := Tryd.prog) (.inl rfl) Tryd.results66 rfl ?_
            exact fun w' h => ⟨by rw [holdsT_eq, if_neg h10, if_neg h12, if_neg h25, if_neg h34, if_pos h41, List.any_map]; rfl, h.frm⟩
          · -- 41F
            refine WL.val (v_assign rfl rfl) (.none rfl) rfl rfl ?_
            refine WL.nil ?_
            refine WE.then_n ?_
            refine WC.cond_f rfl ?_
            refine WC.skip ?_
            refine WE.block_n ?_
            refine WE.then_n ?_
            refine WC.seq ?_
            refine WC.region ?_
            refine WL.val (v_assign rfl rfl) (.none rfl) rfl rfl ?_
            refine WL.nil ?_
            refine WE.then_n ?_
            refine WC.ret ?_
            refine WE.ret1 (P := Tryd.prog) (.inl rfl) Tryd.results66 rfl ?_
            exact fun w' h => ⟨by rw [holdsT_eq, if_neg h10, if_neg h12, if_neg h25, if_neg h34, if_neg h41], h.frm⟩
theorem holds_c (H : Hd) (hH : H.In) : ∀ N, HoldsTo N H
  | 0 => fun t hN => by cases t; simp only [Nd.mk.sizeOf_spec] at hN; omega
  | N + 1 => holds_step H hH N (holds_c H hH N)
theorem Holds_c (w : World) (t : Nd) (H : Hd) (hH : H.In) (hI : t.In) (hA : t.At w) (hG : GW w) :
    Calls Tryd.prog 36 #[ndV t, .agg (hdCells H)] w fun e w' => e = .returned (.bool (decide ((walkT t 1 true 0).1 = 0) && holdsT H t)) ∧ Frm (fun _ => False) w w' := by
  refine enter Tryd.func36 rfl Tryd.ntmps36 rfl (St.start (fun _ => False) w) ?_
  refine WC.seq ?_
  refine WC.region ?_
  refine WL.box rfl rfl rfl (.none rfl) rfl rfl ?_
  intro g2 hg2
  refine WL.box rfl rfl rfl (.none rfl) rfl rfl ?_
  intro g3 hg3
  refine WL.val (v_assign rfl rfl) (.none rfl) rfl rfl ?_
  refine WL.nil ?_
  refine WE.then_n ?_
  refine WC.seq ?_
  refine WC.region ?_
  refine WL.val (v_loadN rfl rfl many_45 rfl allAt) (.none rfl) rfl rfl ?_
  refine WL.call rfl rfl ck_34 (.none rfl) rfl rfl ?_
  intro w hS
  refine Calls.then (CheckPred_c w t hI (hA.st (fun _ h => h) hS) (hG.keep (fun h => h) hS)) hS ?_
  refine WL.test (v_eql rfl rfl rfl) (.none rfl) rfl rfl (fun h7 => ?_) (fun h7 => ?_)
  · -- 7T
    refine WL.val (v_move rfl rfl) (.none rfl) rfl rfl ?_
    refine WL.val (v_loadN rfl rfl many_45 rfl allAt) (.some rfl rfl rfl) rfl rfl ?_
    refine WL.val (v_loadN rfl rfl many_31 rfl allAt) (.some rfl rfl rfl) rfl rfl ?_
    refine WL.call rfl rfl ck_66 (.some rfl rfl rfl) rfl rfl ?_
    intro w hS
    refine Calls.then (holds_c H hH _ t (Nat.le_refl _) w (walkT_ok _ _ _ _ h7) hI (hA.st (fun _ h => h) hS) (hG.keep (fun h => h) hS)) hS ?_
    refine WL.val (v_pick_t rfl rfl rfl) (.none rfl) rfl rfl ?_
    refine WL.val (v_assign rfl rfl) (.none rfl) rfl rfl ?_
    refine WL.nil ?_
    refine WE.then_n ?_
    refine WC.ret ?_
    refine WE.ret1 (P := Tryd.prog) (.inl rfl) Tryd.results36 rfl ?_
    exact fun w' h => ⟨by rw [decide_eq_true h7, Bool.true_and], h.frm⟩
  · -- 7F
    refine WL.val (v_move rfl rfl) (.none rfl) rfl rfl ?_
    refine WL.skip rfl rfl rfl rfl rfl rfl ?_
    refine WL.skip rfl rfl rfl rfl rfl rfl ?_
    refine WL.skip rfl rfl rfl rfl rfl rfl ?_
    refine WL.val (v_pick_f rfl rfl rfl) (.none rfl) rfl rfl ?_
    refine WL.val (v_assign rfl rfl) (.none rfl) rfl rfl ?_
    refine WL.nil ?_
    refine WE.then_n ?_
    refine WC.ret ?_
    refine WE.ret1 (P := Tryd.prog) (.inl rfl) Tryd.results36 rfl ?_
    exact fun w' h => ⟨by rw [decide_eq_false h7, Bool.false_and], h.frm⟩
end Go.Proofs.YtodaanhhnjkncaaDoor
/- rules.List: Run where one act at most is to be done; the document's example of layer 17. -/
namespace Go.Proofs.YtodaanhhnjkncaaDoor
open Go.RowKit

def hdsL (Hs : List Hd) : List Value := Hs.flatMap hdL
theorem hdsL_snoc (Hs : List Hd) (H : Hd) : hdsL Hs ++ hdL H = hdsL (Hs ++ [H]) := by simp [hdsL]
def outs (a : Nat → Ac) (H : Hd) (k : Nat) : List Hd := (List.range k).map fun i => appK (a i) H 9
theorem outs_succ (a : Nat → Ac) (H : Hd) (k : Nat) : outs a H (k + 1) = outs a H k ++ [appK (a k) H 9] := by simp [outs, List.range_succ]
set_option maxHeartbeats 1000000 in
theorem Run_s (p : Nat → Prop) (hp : ∀ b, ¬ p b) (w0 w : World) (L : List Ent) (hS : St p w0 w L) (b o n c : Nat) (R : Nat → Ru) (a : Nat → Ac) (H : Hd) (k : Nat) (hk : k < n) (hm : ∀ i, i < n → (R i).m.In) (hH : H.In) (hG : GW w0) (hn : n ≤ 1000000)
    (hl : ∀ w, St p w0 w L → ∀ i, i < n → w.rangeAt b (o + i * 19) (ruL (R i))) (hf : findI (fun i => decide ((R i).m.hits H)) n = (k : Int)) (h1 : (R k).n ≤ 1)
    (b' o' : Nat) (ha : 0 < (R k).n → (R k).ad = some ⟨b', o', none⟩) (har : ∀ w, St p w0 w L → ∀ i, i < (R k).n → w.rangeAt b' (o' + i * 10) (acL (a i))) (hai : ∀ i, (a i).In) (hao : ∀ i, (a i).Ok) :
    Calls Tryd.prog 49 #[.slice (some ⟨b, o, none⟩) n c, .agg (hdCells H)] w
      fun e w' => ∃ ad c' E, e = .returned (.slice ad (R k).n c') ∧ Vec 19 ad (R k).n c' (hdsL (outs a H (R k).n)) E ∧ St p w0 w' (E ++ L) := by
  refine enter Tryd.func49 rfl Tryd.ntmps49 rfl hS ?_
  refine WC.seq ?_
  refine WC.region ?_
  refine WL.box rfl rfl rfl (.none rfl) rfl rfl ?_
  intro g3 hg3
  refine WL.val (v_assign rfl rfl) (.none rfl) rfl rfl ?_
  refine WL.nil ?_
  refine WE.then_n ?_
  refine WC.seq ?_
  refine WC.region ?_
  refine WL.val (v_move rfl rfl) (.none rfl) rfl rfl ?_
  refine WL.val (v_loadN rfl rfl many_31 rfl allAt) (.none rfl) rfl rfl ?_
  refine WL.call rfl rfl ck_76 (.none rfl) rfl rfl ?_
  intro w hS
  refine Calls.then (Find_c w b o n c R H hm hH (hG.keep (hp _) hS) hn (hl w hS.tail)) hS ?_
  refine WL.val (v_assign rfl rfl) (.none rfl) rfl rfl ?_
  refine WL.nil ?_
  refine WE.then_n ?_
  refine WC.seq ?_
  refine WC.seq ?_
  refine WC.region ?_
  refine WL.val (v_move rfl rfl) (.none rfl) rfl rfl ?_
  refine WL.val ((v_lss rfl rfl rfl).f (fun h => by rw [hf] at h; omega)) (.none rfl) rfl rfl ?_
  refine WL.nil ?_
  refine WE.then_n ?_
  refine WC.cond_f rfl ?_
  refine WC.skip ?_
  refine WE.then_n ?_
  refine WC.seq ?_
  refine WC.region ?_
  refine WL.val (v_assign rfl rfl) (.none rfl) rfl rfl ?_
  refine WL.nil ?_
  refine WE.then_n ?_
  refine WC.seq ?_
  refine WC.seq ?_
  refine WC.region ?_
  refine WL.val (v_move rfl rfl) (.none rfl) rfl rfl ?_
  refine WL.val (v_move rfl rfl) (.none rfl) rfl rfl ?_
  refine WL.val (v_indexAddr (lo := k) rfl rfl rfl Tryd.underlying104 sz_89 (by exact hf) (by omega)) (.none rfl) rfl rfl ?_
  refine WL.val (v_fieldAddr rfl rfl fld_89_1) (.none rfl) rfl rfl ?_
  refine WL.val (v_load1 rfl rfl one_87 (fun w hS => hl w hS.tail k hk 18 _ (ruL_acts _))) (.none rfl) rfl rfl ?_
  refine WL.val (v_len_slice rfl rfl Tryd.underlying87) (.none rfl) rfl rfl ?_
  refine WL.val (v_move rfl rfl) (.none rfl) rfl rfl ?_
  refine WL.nil ?_
  refine WE.then_n ?_
  refine WC.block ?_
  refine WC.loop (fun x : Nat × Option Addr × Nat × List Ent => [(20, .int .i64 x.1), (19, .int .i64 (R k).n), (18, .slice (R k).ad (R k).n (R k).c), (6, .slice x.2.1 x.1 x.2.2.1), (3, .pointer (some ⟨g3, 0, none⟩))]) (fun x => x.2.2.2 ++ (.row g3 (hdL H) :: L)) (fun x => x.1 ≤ (R k).n ∧ Vec 19 x.2.1 x.1 x.2.2.1 (hdsL (outs a H x.1)) x.2.2.2) (fun x => (R k).n - x.1) (0, none, 0, []) ⟨Nat.zero_le _, Vec.nil 19⟩ (.cons rfl (.cons rfl (.cons rfl (.cons rfl (.cons rfl .nil))))) (.refl _) ?_
  rintro ⟨j, ad, c', E⟩ ⟨hj, hV⟩
  dsimp only at hj hV
  dsimp only
  refine WC.seq ?_
  refine WC.region ?_
  refine WL.test (v_lss rfl rfl rfl) (.none rfl) rfl rfl (fun h21 => ?_) (fun h21 => ?_)
  · -- 21T
    refine WL.nil ?_
    refine WE.then_n ?_
    refine WC.seq ?_
    refine WC.cond_t rfl ?_
    refine WC.skip ?_
    refine WE.then_n ?_
    refine WC.seq ?_
    refine WC.block ?_
    refine WC.seq ?_
    refine WC.region ?_
    refine WL.val (v_indexAddr (b := b') (off := o') (lo := j) rfl (by show some (Value.slice (R k).ad _ _) = _; rw [ha (by omega)]) rfl Tryd.underlying87 sz_25 rfl (by omega)) (.none rfl) rfl rfl ?_
    refine WL.val (v_loadN rfl rfl many_25 rfl (fun w hS => har w (hS.sub (List.sublist_append_of_sublist_right (.cons _ (.refl _)))) j (by omega))) (.none rfl) rfl rfl ?_
    refine WL.alloc rfl zero_25 (.none rfl) rfl rfl ?_
    intro g8 hg8
    refine WL.storeW rfl rfl rfl rfl many_25 rfl rfl (.none rfl) rfl ?_
    refine WL.nil ?_
    refine WE.then_n ?_
    refine WC.region ?_
    refine WL.val (v_move rfl rfl) (.none rfl) rfl rfl ?_
    refine WL.val (v_loadN rfl rfl many_25 rfl allAt) (.none rfl) rfl rfl ?_
    refine WL.val (v_loadN rfl rfl many_31 rfl allAt) (.none rfl) rfl rfl ?_
    refine WL.call rfl rfl ck_15 (.none rfl) rfl rfl ?_
    intro w hS
    refine Calls.then (Apply_c w (a j) H (hai j) (hao j) (hG.keep (hp _) hS)) hS ?_
    refine WL.buildSlice rfl rfl Tryd.underlying47 sz_31 zero_31 rfl (by decide) rfl (.none rfl) rfl rfl ?_
    intro g28 hg28
    refine WL.to (L' := E ++ (.row g28 (hdL (appK (a j) H 9)) :: .row g8 (acL (a j)) :: .row g3 (hdL H) :: L)) (fun w hS => hS.front [_, _]) ?_
    refine WL.appendL rfl rfl rfl Tryd.underlying47 Tryd.underlying47 sz_31 by_31 zero_31 rfl rfl hV (new := hdL (appK (a j) H 9)) (fun _ => ⟨g28, 0, rfl, fun w hS => allAt (g := g28) w hS⟩) rfl rfl (by omega) (.none rfl) rfl rfl ?_
    intro ad29 c29 E29 hV29 hr29
    refine WL.val (v_assign rfl rfl) (.none rfl) rfl rfl ?_
    refine WL.nil ?_
    refine WE.block_n ?_
    refine WE.then_n ?_
    refine WC.region ?_
    refine WL.val (v_add rfl rfl rfl (w_i64 (by omega) (by omega))) (.none rfl) rfl rfl ?_
    refine WL.val (v_move rfl rfl) (.none rfl) rfl rfl ?_
    refine WL.nil ?_
    exact WE.next (j + 1, ad29, c29, E29) (by dsimp only; omega) ⟨by dsimp only; omega, by dsimp only; rw [outs_succ, ← hdsL_snoc]; exact hV29⟩ (.int rfl (by dsimp only; omega) (.cons rfl (.cons rfl (.cons rfl (.cons rfl .nil))))) (List.Sublist.append_left (.cons _ (.cons _ (.refl _))) _)
  · -- 21F
    refine WL.nil ?_
    refine WE.then_n ?_
    refine WC.seq ?_
    refine WC.cond_f rfl ?_
    refine WC.exit ?_
    refine WE.then_exit ?_
    refine WE.then_exit ?_
    refine WE.block_hit ?_
    refine WE.then_n ?_
    refine WC.seq ?_
    refine WC.region ?_
    refine WL.val (v_move rfl rfl) (.none rfl) rfl rfl ?_
    refine WL.call rfl rfl ck_57 (.none rfl) rfl rfl ?_
    intro w hS
    refine Calls.then (Sort_s w ad j c' _ (by omega)) hS ?_
    refine WL.nil ?_
    refine WE.then_n ?_
    refine WC.seq ?_
    refine WC.region ?_
    refine WL.val (v_move rfl rfl) (.none rfl) rfl rfl ?_
    refine WL.call rfl rfl ck_77 (.none rfl) rfl rfl ?_
    intro w hS
    refine Calls.then (Compact_s w ad j c' (by omega)) hS ?_
    refine WL.val (v_assign rfl rfl) (.none rfl) rfl rfl ?_
    refine WL.nil ?_
    refine WE.then_n ?_
    refine WC.ret ?_
    refine WE.ret1 (P := Tryd.prog) (.inl rfl) Tryd.results49 rfl ?_
    obtain rfl : j = (R k).n := (by omega)
    exact fun w' h => ⟨ad, c', E, rfl, hV, h.sub (List.Sublist.append_left (.cons _ (.refl _)) _)⟩
def mt0 : Mt := ⟨fun _ => 0, fun _ => 0⟩
theorem Total_c (w : World) (b o n c : Nat) (R : Nat → Ru) (hn : n ≤ 1000000) (h0 : 0 < n) (hl : ∀ i, i < n → w.rangeAt b (o + i * 19) (ruL (R i))) (hz : (R (n - 1)).m = mt0) :
    Calls Tryd.prog 50 #[.slice (some ⟨b, o, none⟩) n c] w fun e w' => e = .returned (.bool true) ∧ Frm (fun _ => False) w w' := by
  refine enter Tryd.func50 rfl Tryd.ntmps50 rfl (St.start (fun _ => False) w) ?_
  refine WC.seq ?_
  refine WC.region ?_
  refine WL.val (v_assign rfl rfl) (.none rfl) rfl rfl ?_
  refine WL.nil ?_
  refine WE.then_n ?_
  refine WC.seq ?_
  refine WC.region ?_
  refine WL.val (v_move rfl rfl) (.none rfl) rfl rfl ?_
  refine WL.val (v_len_slice rfl rfl Tryd.underlying104) (.none rfl) rfl rfl ?_
  refine WL.val ((v_gtr rfl rfl rfl).t (by omega)) (.none rfl) rfl rfl ?_
  refine WL.val (v_move rfl rfl) (.none rfl) rfl rfl ?_
  refine WL.val (v_move rfl rfl) (.some rfl rfl rfl) rfl rfl ?_
  refine WL.val (v_move rfl rfl) (.some rfl rfl rfl) rfl rfl ?_
  refine WL.val (v_len_slice rfl rfl Tryd.underlying104) (.some rfl rfl rfl) rfl rfl ?_
  refine WL.val (v_sub rfl rfl rfl (w_i64 (by omega) (by omega))) (.some rfl rfl rfl) rfl rfl ?_
  refine WL.val (v_indexAddr (lo := n - 1) rfl rfl rfl Tryd.underlying104 sz_89 (by omega) (by omega)) (.some rfl rfl rfl) rfl rfl ?_
  refine WL.val (v_fieldAddr rfl rfl fld_89_0) (.some rfl rfl rfl) rfl rfl ?_
  refine WL.val (v_loadN (cs := mtL mt0) rfl rfl many_86 rfl (fun w' hS' j v hj => rangeIn (fun h => h) (hl (n - 1) (by omega)) w' hS' j v (by
  rw [← hz, ← ruL_match] at hj
  unfold seg at hj
  rw [List.drop_zero, List.getElem?_take] at hj
  split at hj
  · exact hj
  · cases hj))) (.some rfl rfl rfl) rfl rfl ?_
  refine WL.val (v_build rfl rfl zero_86 plc_86 rfl) (.some rfl rfl rfl) rfl rfl ?_
  refine WL.val (v_eql_aggT rfl rfl rfl eqk_86 eqg_86 rfl rfl (by rfl)) (.some rfl rfl rfl) rfl rfl ?_
  refine WL.val (v_pick_t rfl rfl rfl) (.none rfl) rfl rfl ?_
  refine WL.val (v_assign rfl rfl) (.none rfl) rfl rfl ?_
  refine WL.nil ?_
  refine WE.then_n ?_
  refine WC.ret ?_
  refine WE.ret1 (P := Tryd.prog) (.inl rfl) Tryd.results50 rfl ?_
  exact fun w' h => ⟨rfl, h.frm⟩
def h80 : Hd := { Hd.zero with dp := 80 }
def exR (g : Nat) : Nat → Ru := fun i => if i = 0 then ⟨Mt.one 8 80 (fullI 8), some ⟨g, 0, none⟩, 1, 1⟩ else ⟨mt0, none, 0, 0⟩
theorem Hd.zero_in : Hd.zero.In := by constructor <;> (try intro k) <;> first | decide | exact ⟨Int.le_refl _, (by decide : (0 : Int) ≤ 255)⟩
theorem h80_in : h80.In := by constructor <;> (try intro k) <;> first | decide | exact ⟨Int.le_refl _, (by decide : (0 : Int) ≤ 255)⟩
theorem exR_in (g i : Nat) : (exR g i).m.In := by
  unfold exR
  split
  · exact ⟨fun k => by show 0 ≤ (if k = 8 then (80 : Int) else 0) ∧ (if k = 8 then (80 : Int) else 0) ≤ _; split <;> decide, fun k => by show 0 ≤ (if k = 8 then fullI 8 else 0) ∧ (if k = 8 then fullI 8 else 0) ≤ _; split <;> decide⟩
  · exact ⟨fun _ => ⟨Int.le_refl _, (by decide : (0 : Int) ≤ 18446744073709551615)⟩, fun _ => ⟨Int.le_refl _, (by decide : (0 : Int) ≤ 18446744073709551615)⟩⟩
theorem act2_in : (Ac.one 0 2).In := ⟨by decide, fun k => by show 0 ≤ (if k = 0 then (2 : Int) else 0) ∧ (if k = 0 then (2 : Int) else 0) ≤ _; split <;> decide⟩
theorem act2_ok : (Ac.one 0 2).Ok := by decide
theorem exF80 (g : Nat) : findI (fun i => decide ((exR g i).m.hits h80)) 2 = ((0 : Nat) : Int) := findI_some (by omega) (by show decide ((Mt.one 8 80 (fullI 8)).hits h80) = true; decide) (fun j h => absurd h (by omega))
theorem exF0 (g : Nat) : findI (fun i => decide ((exR g i).m.hits Hd.zero)) 2 = ((1 : Nat) : Int) :=
  findI_some (by omega) (by show decide (mt0.hits Hd.zero) = true; decide) (fun j h => by obtain rfl : j = 0 := (by omega); show decide ((Mt.one 8 80 (fullI 8)).hits Hd.zero) = false; decide)
set_option maxHeartbeats 2000000 in
theorem Ex17_c (w0 : World) (hG : GW w0) : Calls Tryd.prog 12 #[] w0 fun e w' => e = .returned (.bool true) ∧ Frm (fun _ => False) w0 w' := by
  refine enter Tryd.func12 rfl Tryd.ntmps12 rfl (St.start (fun _ => False) w0) ?_
  refine WC.seq ?_
  refine WC.region ?_
  refine WL.val (v_assign rfl rfl) (.none rfl) rfl rfl ?_
  refine WL.nil ?_
  refine WE.then_n ?_
  refine WC.seq ?_
  refine WC.region ?_
  refine WL.call rfl rfl ck_47 (.none rfl) rfl rfl ?_
  intro w hS
  refine Calls.then (MExact_c w 8 (by omega) 80 (by omega) (by decide) (hG.keep (fun h => h) hS)) hS ?_
  refine WL.val (v_move rfl rfl) (.none rfl) rfl rfl ?_
  refine WL.val (v_extract rfl rfl rfl) (.none rfl) rfl rfl ?_
  refine WL.val (v_extract rfl rfl rfl) (.none rfl) rfl rfl ?_
  refine WL.alloc rfl zero_86 (.none rfl) rfl rfl ?_
  intro g1 hg1
  refine WL.storeW rfl rfl rfl rfl many_86 rfl rfl (.none rfl) rfl ?_
  refine WL.val (v_assign rfl rfl) (.none rfl) rfl rfl ?_
  refine WL.nil ?_
  refine WE.then_n ?_
  refine WC.seq ?_
  refine WC.region ?_
  refine WL.call rfl rfl ck_48 (.none rfl) rfl rfl ?_
  intro w hS
  refine Calls.then (AOn_c w 0 (by omega) 2 (by omega) (by decide) (hG.keep (fun h => h) hS)) hS ?_
  refine WL.val (v_move rfl rfl) (.none rfl) rfl rfl ?_
  refine WL.val (v_extract rfl rfl rfl) (.none rfl) rfl rfl ?_
  refine WL.val (v_extract rfl rfl rfl) (.none rfl) rfl rfl ?_
  refine WL.alloc rfl zero_25 (.none rfl) rfl rfl ?_
  intro g3 hg3
  refine WL.storeW rfl rfl rfl rfl many_25 rfl rfl (.none rfl) rfl ?_
  refine WL.val (v_assign rfl rfl) (.none rfl) rfl rfl ?_
  refine WL.nil ?_
  refine WE.then_n ?_
  refine WC.seq ?_
  refine WC.region ?_
  refine WL.val (v_loadN rfl rfl many_86 rfl allAt) (.none rfl) rfl rfl ?_
  refine WL.val (v_loadN rfl rfl many_25 rfl allAt) (.none rfl) rfl rfl ?_
  refine WL.buildSlice rfl rfl Tryd.underlying87 sz_25 zero_25 rfl (by decide) rfl (.none rfl) rfl rfl ?_
  intro g17 hg17
  refine WL.val (v_build rfl rfl zero_89 plc_89 rfl) (.none rfl) rfl rfl ?_
  refine WL.val (v_build rfl rfl zero_89 plc_89 rfl) (.none rfl) rfl rfl ?_
  refine WL.buildSlice rfl rfl Tryd.underlying104 sz_89 zero_89 rfl (by decide) rfl (.none rfl) rfl rfl ?_
  intro g20 hg20
  refine WL.as (L' := [.row g20 (ruL (exR g17 0) ++ ruL (exR g17 1)), .row g17 (acL (Ac.one 0 2)), .row g3 (acL (Ac.one 0 2)), .row g1 (mtL (Mt.one 8 80 (fullI 8)))]) rfl ?_
  have hru : ∀ w', St (fun _ => False) w0 w' [.row g20 (ruL (exR g17 0) ++ ruL (exR g17 1)), .row g17 (acL (Ac.one 0 2)), .row g3 (acL (Ac.one 0 2)), .row g1 (mtL (Mt.one 8 80 (fullI 8)))] → ∀ i, i < 2 → w'.rangeAt g20 (0 + i * 19) (ruL (exR g17 i)) := (by
    intro w' hS' i hi
    match i, hi with
    | 0, _ => exact segAt (m := 19) (g := g20) rfl w' hS'
    | 1, _ => exact segAt (m := 19) (g := g20) rfl w' hS')
  refine WL.val (v_assign rfl rfl) (.none rfl) rfl rfl ?_
  refine WL.nil ?_
  refine WE.then_n ?_
  refine WC.seq ?_
  refine WC.region ?_
  refine WL.val (v_move rfl rfl) (.none rfl) rfl rfl ?_
  refine WL.val (v_build rfl rfl zero_31 plc_31 rfl) (.none rfl) rfl rfl ?_
  refine WL.call rfl rfl ck_49 (.none rfl) rfl rfl ?_
  intro w1 hS
  refine (Run_s (fun _ => False) (fun _ h => h) w0 w1 _ hS g20 0 2 2 (exR g17) (fun _ => Ac.one 0 2) h80 0 (by omega) (fun i _ => exR_in g17 i) h80_in hG (by omega) hru (exF80 g17) (Nat.le_refl 1) g17 0 (fun _ => rfl) (fun w' hS' i hi => by obtain rfl : i = 0 := Nat.lt_one_iff.1 hi; exact allAt (g := g17) w' hS') (fun _ => act2_in) (fun _ => act2_ok)).mono ?_
  rintro e w' ⟨ad, c', E, rfl, hV, hS'⟩
  rcases hV with ⟨_, h, _⟩ | ⟨g, cs, rfl, rfl, hx, hl, hk⟩
  · cases h
  have hcs : cs[0]? = some (.int .i64 2) := (by
    have h0 : (cs.take 19)[0]? = some (.int .i64 2) := (by rw [show cs.take 19 = _ from hx]; rfl)
    rw [List.getElem?_take, if_pos (by omega)] at h0
    exact h0)
  refine ⟨_, [.row g cs, .row g20 (ruL (exR g17 0) ++ ruL (exR g17 1)), .row g17 (acL (Ac.one 0 2)), .row g3 (acL (Ac.one 0 2)), .row g1 (mtL (Mt.one 8 80 (fullI 8)))], rfl, hS', ?_⟩
  refine WL.val (v_assign rfl rfl) (.none rfl) rfl rfl ?_
  refine WL.nil ?_
  refine WE.then_n ?_
  refine WC.seq ?_
  refine WC.region ?_
  refine WL.val (v_move rfl rfl) (.none rfl) rfl rfl ?_
  refine WL.val ((v_eql rfl rfl rfl).t (by omega)) (.none rfl) rfl rfl ?_
  refine WL.val (v_move rfl rfl) (.none rfl) rfl rfl ?_
  refine WL.val (v_move rfl rfl) (.some rfl rfl rfl) rfl rfl ?_
  refine WL.val ((v_eql rfl rfl rfl).t (by omega)) (.some rfl rfl rfl) rfl rfl ?_
  refine WL.val (v_pick_t rfl rfl rfl) (.none rfl) rfl rfl ?_
  refine WL.val (v_move rfl rfl) (.none rfl) rfl rfl ?_
  refine WL.val (v_move rfl rfl) (.some rfl rfl rfl) rfl rfl ?_
  refine WL.val (v_len_slice rfl rfl Tryd.underlying47) (.some rfl rfl rfl) rfl rfl ?_
  refine WL.val ((v_eql rfl rfl rfl).t (rfl)) (.some rfl rfl rfl) rfl rfl ?_
  refine WL.val (v_pick_t rfl rfl rfl) (.none rfl) rfl rfl ?_
  refine WL.val (v_move rfl rfl) (.none rfl) rfl rfl ?_
  refine WL.val (v_move rfl rfl) (.some rfl rfl rfl) rfl rfl ?_
  refine WL.val (v_indexAddr (lo := 0) rfl rfl rfl Tryd.underlying47 sz_31 rfl (by (show 0 < 1; omega))) (.some rfl rfl rfl) rfl rfl ?_
  refine WL.val (v_fieldAddr rfl rfl fld_31_0) (.some rfl rfl rfl) rfl rfl ?_
  refine WL.val (v_load1 rfl rfl one_3 (cellAt hcs)) (.some rfl rfl rfl) rfl rfl ?_
  refine WL.val ((v_eql rfl rfl rfl).t (by omega)) (.some rfl rfl rfl) rfl rfl ?_
  refine WL.val (v_pick_t rfl rfl rfl) (.none rfl) rfl rfl ?_
  refine WL.val (v_move rfl rfl) (.none rfl) rfl rfl ?_
  refine WL.val (v_move rfl rfl) (.some rfl rfl rfl) rfl rfl ?_
  refine WL.val (v_build rfl rfl zero_31 plc_31 rfl) (.some rfl rfl rfl) rfl rfl ?_
  refine WL.call rfl rfl ck_49 (.some rfl rfl rfl) rfl rfl ?_
  intro w1 hS
  refine (Run_s (fun _ => False) (fun _ h => h) w0 w1 _ hS g20 0 2 2 (exR g17) (fun _ => Ac.one 0 2) Hd.zero 1 (by omega) (fun i _ => exR_in g17 i) Hd.zero_in hG (by omega) (fun w' hS' => hru w' hS'.tail) (exF0 g17) (Nat.zero_le 1) 0 0 (fun h => absurd h (Nat.lt_irrefl 0)) (fun w' hS' i hi => absurd hi (Nat.not_lt_zero i)) (fun _ => act2_in) (fun _ => act2_ok)).mono ?_
  rintro e w' ⟨ad2, c2, E2, rfl, hV2, hS'⟩
  refine ⟨_, _, rfl, hS', ?_⟩
  refine WL.val (v_len_slice rfl rfl Tryd.underlying47) (.some rfl rfl rfl) rfl rfl ?_
  refine WL.val ((v_eql rfl rfl rfl).t (rfl)) (.some rfl rfl rfl) rfl rfl ?_
  refine WL.val (v_pick_t rfl rfl rfl) (.none rfl) rfl rfl ?_
  refine WL.val (v_move rfl rfl) (.none rfl) rfl rfl ?_
  refine WL.val (v_move rfl rfl) (.some rfl rfl rfl) rfl rfl ?_
  refine WL.call rfl rfl ck_50 (.some rfl rfl rfl) rfl rfl ?_
  intro w hS
  refine Calls.then (Total_c w g20 0 2 2 (exR g17) (by omega) (by omega) (hru w (hS.sub (List.sublist_append_of_sublist_right (.cons _ (.refl _))))) rfl) hS ?_
  refine WL.val (v_pick_t rfl rfl rfl) (.none rfl) rfl rfl ?_
  refine WL.val (v_assign rfl rfl) (.none rfl) rfl rfl ?_
  refine WL.nil ?_
  refine WE.then_n ?_
  refine WC.ret ?_
  refine WE.ret1 (P := Tryd.prog) (.inl rfl) Tryd.results12 rfl ?_
  exact fun w' h => ⟨rfl, h.frm⟩
end Go.Proofs.YtodaanhhnjkncaaDoor
/- policy: headers that are the same; Index, Contains, gather. -/
namespace Go.Proofs.YtodaanhhnjkncaaDoor
open Go.RowKit

def Hd.same (A B : Hd) : Prop := A.port = B.port ∧ (∀ i, i < 6 → A.src i = B.src i) ∧ (∀ i, i < 6 → A.dst i = B.dst i) ∧ A.ty = B.ty ∧ A.sip = B.sip ∧ A.dip = B.dip ∧ A.proto = B.proto ∧ A.sp = B.sp ∧ A.dp = B.dp
instance (A B : Hd) : Decidable (A.same B) := by unfold Hd.same; infer_instance
theorem hdL_same {A B : Hd} : hdL A = hdL B ↔ A.same B := by
  constructor
  · intro h
    unfold hdL at h
    simp only [List.cons.injEq, Value.int.injEq, true_and, and_true] at h
    obtain ⟨h0, h1, h2, h3, h4, h5, h6, h7, h8, h9, h10, h11, h12, h13, h14, h15, h16, h17, h18⟩ := h
    exact ⟨h0, fun i hi => by match i, hi with | 0, _ => exact h1 | 1, _ => exact h2 | 2, _ => exact h3 | 3, _ => exact h4 | 4, _ => exact h5 | 5, _ => exact h6,
      fun i hi => by match i, hi with | 0, _ => exact h7 | 1, _ => exact h8 | 2, _ => exact h9 | 3, _ => exact h10 | 4, _ => exact h11 | 5, _ => exact h12, h13, h14, h15, h16, h17, h18⟩
  · rintro ⟨h0, h1, h2, h3, h4, h5, h6, h7, h8⟩
    unfold hdL
    rw [h0, h1 0 (by omega), h1 1 (by omega), h1 2 (by omega), h1 3 (by omega), h1 4 (by omega), h1 5 (by omega), h2 0 (by omega), h2 1 (by omega), h2 2 (by omega), h2 3 (by omega), h2 4 (by omega), h2 5 (by omega), h3, h4, h5, h6, h7, h8]
theorem hdL_len (H : Hd) : (hdL H).length = 19 := rfl
theorem hdsL_len : ∀ Hs : List Hd, (hdsL Hs).length = Hs.length * 19
  | [] => rfl
  | H :: Hs => by
    show (hdL H ++ hdsL Hs).length = _
    rw [List.length_append, hdsL_len Hs, hdL_len, List.length_cons]; omega
theorem hdsL_seg : ∀ (Hs : List Hd) (i : Nat) (H : Hd), Hs[i]? = some H → ((hdsL Hs).drop (i * 19)).take 19 = hdL H
  | [], _, _, h => by simp at h
  | G :: Hs, 0, H, h => by
    simp only [List.getElem?_cons_zero, Option.some.injEq] at h
    subst h
    show ((hdL G ++ hdsL Hs).drop (0 * 19)).take 19 = _
    rw [Nat.zero_mul, List.drop_zero, List.take_left' (hdL_len G)]
  | G :: Hs, i + 1, H, h => by
    rw [List.getElem?_cons_succ] at h
    show ((hdL G ++ hdsL Hs).drop ((i + 1) * 19)).take 19 = _
    rw [show (i + 1) * 19 = 19 + i * 19 by omega, ← List.drop_drop, List.drop_left' (hdL_len G)]
    exact hdsL_seg Hs i H h
/-- Headers lie there, one behind the other. -/
def HdsAt (w : World) (ad : Option Addr) (Hs : List Hd) : Prop := ∀ (i : Nat) (H : Hd), Hs[i]? = some H → ∃ b o, ad = some ⟨b, o, none⟩ ∧ w.rangeAt b (o + i * 19) (hdL H)
theorem HdsAt.keep {w w' : World} {ad : Option Addr} {Hs : List Hd} (hw : ∀ b o cs, w.rangeAt b o cs → w'.rangeAt b o cs) (h : HdsAt w ad Hs) : HdsAt w' ad Hs := fun i H hi => by
  obtain ⟨b, o, e, hr⟩ := h i H hi
  exact ⟨b, o, e, hw _ _ _ hr⟩
theorem HdsAt.at {w : World} {b o : Nat} {Hs : List Hd} {i : Nat} {H : Hd} (h : HdsAt w (some ⟨b, o, none⟩) Hs) (hi : Hs[i]? = some H) : w.rangeAt b (o + i * 19) (hdL H) := by
  obtain ⟨b', o', e', hr⟩ := h i H hi
  injection e' with e'
  injection e' with e1 e2
  subst e1 e2
  exact hr
theorem Vec.hds {p : Nat → Prop} {w0 w : World} {L E : List Ent} {ad : Option Addr} {n c : Nat} {Hs : List Hd} (hV : Vec 19 ad n c (hdsL Hs) E) (hS : St p w0 w L) (hm : ∀ e ∈ E, e ∈ L) : HdsAt w ad Hs := fun i H hi => by
  have hlt : i < Hs.length := (List.getElem?_eq_some_iff.1 hi).1
  have hl := hV.len.1
  rw [hdsL_len] at hl
  rcases hV with ⟨_, h, _⟩ | ⟨g, cs, rfl, rfl, hx, hcl, hk⟩
  · subst h; omega
  · refine ⟨g, 0, rfl, fun j v hj => ?_⟩
    have hR : Row w g cs := hS.holds (.row g cs) (hm _ (by simp))
    refine hR.cell ?_
    have hs := hdsL_seg Hs i H hi
    rw [← hs, List.getElem?_take] at hj
    split at hj
    · rename_i hj19
      rw [List.getElem?_drop, ← hx, List.getElem?_take] at hj
      split at hj
      · rw [Nat.zero_add]; exact hj
      · cases hj
    · cases hj
theorem HIdx_c (w : World) (ad : Option Addr) (c : Nat) (Hs : List Hd) (H : Hd) (hA : HdsAt w ad Hs) (hn : Hs.length ≤ 1000) :
    Calls Tryd.prog 140 #[.slice ad Hs.length c, .agg (hdCells H)] w
      fun e w' => e = .returned (.int .i64 (findI (fun i => ((Hs[i]?).map fun x => decide (H.same x)).getD false) Hs.length)) ∧ Frm (fun _ => False) w w' := by
  refine enter Tryd.func140 rfl Tryd.ntmps140 rfl (St.start (fun _ => False) w) ?_
  refine WC.seq ?_
  refine WC.region ?_
  refine WL.box rfl rfl rfl (.none rfl) rfl rfl ?_
  intro g3 hg3
  refine WL.val (v_assign rfl rfl) (.none rfl) rfl rfl ?_
  refine WL.nil ?_
  refine WE.then_n ?_
  refine WC.seq ?_
  refine WC.seq ?_
  refine WC.region ?_
  refine WL.val (v_move rfl rfl) (.none rfl) rfl rfl ?_
  refine WL.val (v_len_slice rfl rfl Tryd.underlying47) (.none rfl) rfl rfl ?_
  refine WL.val (v_move rfl rfl) (.none rfl) rfl rfl ?_
  refine WL.nil ?_
  refine WE.then_n ?_
  refine WC.block ?_
  refine WC.loop (fun k : Nat => [(8, .int .i64 k), (7, .int .i64 Hs.length), (6, .slice ad Hs.length c), (0, .slice ad Hs.length c), (3, .pointer (some ⟨g3, 0, none⟩))]) (fun _ => [.row g3 (hdL H)]) (fun k => k ≤ Hs.length ∧ ∀ j, j < k → ((Hs[j]?).map fun x => decide (H.same x)).getD false = false) (fun k => Hs.length - k) 0 ⟨Nat.zero_le _, fun j h => absurd h (by omega)⟩ (.cons rfl (.cons rfl (.cons rfl (.cons rfl (.cons rfl .nil))))) (.refl _) ?_
  rintro k ⟨hk, hno⟩
  refine WC.seq ?_
  refine WC.region ?_
  refine WL.test (v_lss rfl rfl rfl) (.none rfl) rfl rfl (fun h9 => ?_) (fun h9 => ?_)
  · -- 9T
    refine WL.nil ?_
    refine WE.then_n ?_
    refine WC.seq ?_
    refine WC.cond_t rfl ?_
    refine WC.skip ?_
    refine WE.then_n ?_
    refine WC.seq ?_
    refine WC.block ?_
    refine WC.seq ?_
    refine WC.region ?_
    refine WL.val (v_move rfl rfl) (.none rfl) rfl rfl ?_
    obtain ⟨x, hx⟩ : ∃ x, Hs[k]? = some x := ⟨Hs[k]'(by omega), List.getElem?_eq_getElem _⟩
    obtain ⟨b, o, ea, hr⟩ := hA k x hx
    refine WL.val (v_assign rfl rfl) (.none rfl) rfl rfl ?_
    refine WL.nil ?_
    refine WE.then_n ?_
    refine WC.seq ?_
    refine WC.quiet mixed (by kernel_rfl) ?_
    refine WQ.val (v_loadN rfl rfl many_31 rfl allAt) (.none rfl) rfl rfl ?_
    refine WQ.val (v_move rfl rfl) (.none rfl) rfl rfl ?_
    refine WQ.val (v_move rfl rfl) (.none rfl) rfl rfl ?_
    refine WQ.val (v_indexAddr (b := b) (off := o) (lo := k) rfl (by show some (Value.slice ad _ _) = _; rw [ea]) rfl Tryd.underlying47 sz_31 rfl (by omega)) (.none rfl) rfl rfl ?_
    refine WQ.val (v_loadN (cs := hdL x) rfl rfl many_31 rfl (rangeIn (fun h => h) hr)) (.none rfl) rfl rfl ?_
    generalize hb : decide (H.same x) = bb
    cases bb
    · -- 15F
      refine WQ.val (v_eql_aggF rfl rfl rfl eqk_31 eqg_31 rfl rfl (by exact fun e => of_decide_eq_false hb (hdL_same.1 e))) (.none rfl) rfl rfl ?_
      refine WQ.nil ?_
      refine WE.then_n ?_
      refine WC.cond_f rfl ?_
      refine WC.skip ?_
      refine WE.block_n ?_
      refine WE.then_n ?_
      refine WC.region ?_
      refine WL.val (v_add rfl rfl rfl (w_i64 (by omega) (by omega))) (.none rfl) rfl rfl ?_
      refine WL.val (v_move rfl rfl) (.none rfl) rfl rfl ?_
      refine WL.nil ?_
      exact WE.next (k + 1) (by omega) ⟨by omega, fun j hj => by
      by_cases e : j = k
      · subst e; rw [hx]; exact hb
      · exact hno j (by omega)⟩ (.int rfl (by omega) (.cons rfl (.cons rfl (.cons rfl (.cons rfl .nil))))) (.refl _)
    · -- 15T
      refine WQ.val (v_eql_aggT rfl rfl rfl eqk_31 eqg_31 rfl rfl (by exact hdL_same.2 (of_decide_eq_true hb))) (.none rfl) rfl rfl ?_
      refine WQ.nil ?_
      refine WE.then_n ?_
      refine WC.cond_t rfl ?_
      refine WC.seq ?_
      refine WC.region ?_
      refine WL.val (v_move rfl rfl) (.none rfl) rfl rfl ?_
      refine WL.val (v_assign rfl rfl) (.none rfl) rfl rfl ?_
      refine WL.nil ?_
      refine WE.then_n ?_
      refine WC.ret ?_
      refine WE.block_ret ?_
      refine WE.then_ret ?_
      refine WE.then_ret ?_
      refine WE.block_ret ?_
      refine WE.then_ret ?_
      refine WE.ret1 (P := Tryd.prog) (.inl rfl) Tryd.results140 rfl ?_
      exact fun w' h => ⟨by rw [findI_some (k := k) (by omega) (by rw [hx]; exact hb) hno], h.frm⟩
  · -- 9F
    refine WL.nil ?_
    refine WE.then_n ?_
    refine WC.seq ?_
    refine WC.cond_f rfl ?_
    refine WC.exit ?_
    refine WE.then_exit ?_
    refine WE.then_exit ?_
    refine WE.block_hit ?_
    refine WE.then_n ?_
    refine WC.seq ?_
    refine WC.region ?_
    refine WL.val (v_assign rfl rfl) (.none rfl) rfl rfl ?_
    refine WL.nil ?_
    refine WE.then_n ?_
    refine WC.ret ?_
    refine WE.ret1 (P := Tryd.prog) (.inl rfl) Tryd.results140 rfl ?_
    obtain rfl : k = Hs.length := (by omega)
    exact fun w' h => ⟨by rw [findI_none hno], h.frm⟩
theorem findI_any' {α : Type} (r : α → Bool) (ts : List α) : decide (0 ≤ findI (fun i => ((ts[i]?).map r).getD false) ts.length) = ts.any r := by
  by_cases h : ∃ i, i < ts.length ∧ ((ts[i]?).map r).getD false = true
  · obtain ⟨i, hi, ht⟩ := h
    have h2 : findI (fun i => ((ts[i]?).map r).getD false) ts.length ≠ -1 := by
      intro e
      unfold findI at e
      split at e
      · rename_i k _; omega
      · rename_i hn
        have := List.find?_eq_none.1 hn i (List.mem_range.2 hi)
        exact this ht
    have h3 : 0 ≤ findI (fun i => ((ts[i]?).map r).getD false) ts.length := by
      unfold findI at h2 ⊢
      split
      · omega
      · rename_i hn; rw [hn] at h2; exact absurd rfl h2
    rw [decide_eq_true h3]
    symm
    rw [List.any_eq_true]
    rw [List.getElem?_eq_getElem hi] at ht
    exact ⟨ts[i], List.getElem_mem hi, ht⟩
  · rw [findI_none (fun j hj => by
      cases e : ((ts[j]?).map r).getD false with
      | false => rfl
      | true => exact absurd ⟨j, hj, e⟩ h)]
    symm
    rw [show decide ((0 : Int) ≤ -1) = false by decide, List.any_eq_false]
    intro u hu ht
    obtain ⟨i, hi, e⟩ := List.getElem_of_mem hu
    exact h ⟨i, hi, by rw [List.getElem?_eq_getElem hi, e]; exact ht⟩
def inHs (Hs : List Hd) (H : Hd) : Bool := Hs.any fun x => decide (H.same x)
theorem HCon_c (w : World) (ad : Option Addr) (c : Nat) (Hs : List Hd) (H : Hd) (hA : HdsAt w ad Hs) (hn : Hs.length ≤ 1000) :
    Calls Tryd.prog 125 #[.slice ad Hs.length c, .agg (hdCells H)] w
      fun e w' => e = .returned (.bool (inHs Hs H)) ∧ Frm (fun _ => False) w w' := by
  refine enter Tryd.func125 rfl Tryd.ntmps125 rfl (St.start (fun _ => False) w) ?_
  refine WC.seq ?_
  refine WC.region ?_
  refine WL.box rfl rfl rfl (.none rfl) rfl rfl ?_
  intro g3 hg3
  refine WL.val (v_assign rfl rfl) (.none rfl) rfl rfl ?_
  refine WL.nil ?_
  refine WE.then_n ?_
  refine WC.seq ?_
  refine WC.region ?_
  refine WL.val (v_move rfl rfl) (.none rfl) rfl rfl ?_
  refine WL.val (v_loadN rfl rfl many_31 rfl allAt) (.none rfl) rfl rfl ?_
  refine WL.call rfl rfl ck_140 (.none rfl) rfl rfl ?_
  intro w hS
  refine Calls.then (HIdx_c w ad c Hs H (hA.keep (hS.range (fun _ h => h))) hn) hS ?_
  refine WL.val (v_geq rfl rfl rfl) (.none rfl) rfl rfl ?_
  refine WL.val (v_assign rfl rfl) (.none rfl) rfl rfl ?_
  refine WL.nil ?_
  refine WE.then_n ?_
  refine WC.ret ?_
  refine WE.ret1 (P := Tryd.prog) (.inl rfl) Tryd.results125 rfl ?_
  exact fun w' h => ⟨by unfold inHs; rw [← findI_any'], h.frm⟩
/-- What gather makes of two lists. -/
def gatherT (all : List Hd) : List Hd → Option (List Hd)
  | [] => some all
  | h :: more => if inHs all h then gatherT all more else if all.length = 64 then none else gatherT (all ++ [h]) more
end Go.Proofs.YtodaanhhnjkncaaDoor
/- policy: gather. -/
namespace Go.Proofs.YtodaanhhnjkncaaDoor
open Go.RowKit

theorem gatherT_len : ∀ (Bs As Rs : List Hd), As.length ≤ 64 → gatherT As Bs = some Rs → Rs.length ≤ 64
  | [], As, Rs, h, e => by rw [gatherT] at e; cases e; exact h
  | b :: Bs, As, Rs, h, e => by
    rw [gatherT] at e
    split at e
    · exact gatherT_len Bs As Rs h e
    · split at e
      · cases e
      · exact gatherT_len Bs (As ++ [b]) Rs (by rw [List.length_append]; show _ + 1 ≤ 64; omega) e
theorem gatherT_mem : ∀ (Bs As Rs : List Hd), gatherT As Bs = some Rs → ∀ x ∈ Rs, x ∈ As ∨ x ∈ Bs
  | [], As, Rs, e, x, hx => by rw [gatherT] at e; cases e; exact .inl hx
  | b :: Bs, As, Rs, e, x, hx => by
    rw [gatherT] at e
    split at e
    · exact (gatherT_mem Bs As Rs e x hx).imp id (List.mem_cons_of_mem _)
    · split at e
      · cases e
      · rcases gatherT_mem Bs (As ++ [b]) Rs e x hx with h | h
        · rcases List.mem_append.1 h with h | h
          · exact .inl h
          · rw [List.mem_singleton.1 h]; exact .inr (List.mem_cons_self ..)
        · exact .inr (List.mem_cons_of_mem _ h)
/-- A list of headers, and whether there is one. -/
def HdsPost (p : Nat → Prop) (w0 : World) (L : List Ent) (o : Option (List Hd)) (e : Ending) (w' : World) : Prop :=
  ∃ Rs ad c E b, e = .returned (.tuple #[.slice ad (List.length Rs) c, .bool b]) ∧ Vec 19 ad (List.length Rs) c (hdsL Rs) E ∧ St p w0 w' (E ++ L) ∧ ((b = true ∧ o = some Rs) ∨ (b = false ∧ o = none ∧ Rs = [] ∧ ad = none ∧ c = 0))
theorem HdsPost.none {p : Nat → Prop} {w0 w' : World} {L : List Ent} {o : Option (List Hd)} (ho : o = .none) (h : St p w0 w' L) : HdsPost p w0 L o (.returned (.tuple #[.slice .none 0 0, .bool false])) w' :=
  ⟨[], .none, 0, [], false, rfl, Vec.nil 19, h, .inr ⟨rfl, ho, rfl, rfl, rfl⟩⟩
theorem HdsPost.some {p : Nat → Prop} {w0 w' : World} {L E : List Ent} {o : Option (List Hd)} {Rs : List Hd} {ad : Option Addr} {c : Nat} (ho : o = .some Rs) (hV : Vec 19 ad Rs.length c (hdsL Rs) E) (h : St p w0 w' (E ++ L)) : HdsPost p w0 L o (.returned (.tuple #[.slice ad Rs.length c, .bool true])) w' :=
  ⟨Rs, ad, c, E, true, rfl, hV, h, .inl ⟨rfl, ho⟩⟩
set_option maxHeartbeats 1000000 in
theorem gather_c (p : Nat → Prop) (w0 w1 : World) (L E0 : List Ent) (As Bs : List Hd) (ad0 ad2 : Option Addr) (c0 c2 : Nat) (hV0 : Vec 19 ad0 As.length c0 (hdsL As) E0) (hS0 : St p w0 w1 (E0 ++ L)) (hB : ∀ w, St p w0 w L → HdsAt w ad2 Bs) (hl : As.length ≤ 64) (hb : Bs.length ≤ 1000) :
    Calls Tryd.prog 108 #[.slice ad0 As.length c0, .slice ad2 Bs.length c2] w1 (HdsPost p w0 L (gatherT As Bs)) := by
  refine enter Tryd.func108 rfl Tryd.ntmps108 rfl hS0 ?_
  refine WC.seq ?_
  refine WC.region ?_
  refine WL.val (v_assign rfl rfl) (.none rfl) rfl rfl ?_
  refine WL.val (v_assign rfl rfl) (.none rfl) rfl rfl ?_
  refine WL.nil ?_
  refine WE.then_n ?_
  refine WC.seq ?_
  refine WC.seq ?_
  refine WC.region ?_
  refine WL.val (v_move rfl rfl) (.none rfl) rfl rfl ?_
  refine WL.val (v_len_slice rfl rfl Tryd.underlying47) (.none rfl) rfl rfl ?_
  refine WL.val (v_move rfl rfl) (.none rfl) rfl rfl ?_
  refine WL.nil ?_
  refine WE.then_n ?_
  refine WC.block ?_
  refine WC.loop (fun x : Nat × List Hd × Option Addr × Nat × List Ent => [(10, .int .i64 x.1), (9, .int .i64 Bs.length), (8, .slice ad2 Bs.length c2), (0, .slice x.2.2.1 x.2.1.length x.2.2.2.1)]) (fun x => x.2.2.2.2 ++ L) (fun x => x.1 ≤ Bs.length ∧ Vec 19 x.2.2.1 x.2.1.length x.2.2.2.1 (hdsL x.2.1) x.2.2.2.2 ∧ x.2.1.length ≤ 64 ∧ gatherT x.2.1 (Bs.drop x.1) = gatherT As Bs) (fun x => Bs.length - x.1) (0, As, ad0, c0, E0) ⟨Nat.zero_le _, hV0, hl, rfl⟩ (.cons rfl (.cons rfl (.cons rfl (.cons rfl .nil)))) (.refl _) ?_
  rintro ⟨k, R, ad, c, E⟩ ⟨hk, hV, hR, hg⟩
  dsimp only at hk hV hR hg
  dsimp only
  have hfact : k < Bs.length → ∃ x b o, Bs[k]? = some x ∧ ad2 = some ⟨b, o, none⟩ ∧ Bs.drop k = x :: Bs.drop (k + 1) := (fun hkl => by
    obtain ⟨b, o, ea, _⟩ := hB w1 (hS0.sub (List.sublist_append_right _ _)) k _ (List.getElem?_eq_getElem hkl)
    exact ⟨_, b, o, List.getElem?_eq_getElem hkl, ea, List.drop_eq_getElem_cons hkl⟩)
  refine WC.seq ?_
  refine WC.region ?_
  refine WL.test (v_lss rfl rfl rfl) (.none rfl) rfl rfl (fun h11 => ?_) (fun h11 => ?_)
  · -- 11T
    refine WL.nil ?_
    refine WE.then_n ?_
    refine WC.seq ?_
    refine WC.cond_t rfl ?_
    refine WC.skip ?_
    refine WE.then_n ?_
    refine WC.seq ?_
    refine WC.block ?_
    refine WC.seq ?_
    refine WC.region ?_
    obtain ⟨x, b, o, hx, ea, hdr⟩ := hfact (by omega)
    rw [hdr, gatherT] at hg
    refine WL.val (v_indexAddr (b := b) (off := o) (lo := k) rfl (by show some (Value.slice ad2 _ _) = _; rw [ea]) rfl Tryd.underlying47 sz_31 rfl (by omega)) (.none rfl) rfl rfl ?_
    refine WL.val (v_loadN (cs := hdL x) rfl rfl many_31 rfl (fun w' hS' => HdsAt.at (by rw [← ea]; exact hB w' (hS'.sub (List.sublist_append_right _ _))) hx)) (.none rfl) rfl rfl ?_
    refine WL.alloc rfl zero_31 (.none rfl) rfl rfl ?_
    intro g7 hg7
    refine WL.storeW rfl rfl rfl rfl many_31 rfl rfl (.none rfl) rfl ?_
    refine WL.nil ?_
    refine WE.then_n ?_
    refine WC.seq ?_
    refine WC.seq ?_
    refine WC.region ?_
    refine WL.val (v_move rfl rfl) (.none rfl) rfl rfl ?_
    refine WL.val (v_loadN rfl rfl many_31 rfl allAt) (.none rfl) rfl rfl ?_
    refine WL.call rfl rfl ck_125 (.none rfl) rfl rfl ?_
    intro w hS
    refine Calls.then (HCon_c w ad c R x (hV.hds hS (fun e he => List.mem_cons_of_mem _ (List.mem_append_left _ he))) (by omega)) hS ?_
    generalize hb : inHs R x = bb
    cases bb
    · -- 16F
      refine WL.nil ?_
      refine WE.then_n ?_
      refine WC.cond_f rfl ?_
      refine WC.skip ?_
      refine WE.then_n ?_
      refine WC.seq ?_
      refine WC.seq ?_
      refine WC.region ?_
      refine WL.val (v_move rfl rfl) (.none rfl) rfl rfl ?_
      refine WL.val (v_len_slice rfl rfl Tryd.underlying47) (.none rfl) rfl rfl ?_
      refine WL.test (v_eql rfl rfl rfl) (.none rfl) rfl rfl (fun h19 => ?_) (fun h19 => ?_)
      · -- 19T
        refine WL.nil ?_
        refine WE.then_n ?_
        refine WC.cond_t rfl ?_
        refine WC.seq ?_
        refine WC.region ?_
        refine WL.val (v_assign rfl rfl) (.none rfl) rfl rfl ?_
        refine WL.val (v_assign rfl rfl) (.none rfl) rfl rfl ?_
        refine WL.nil ?_
        refine WE.then_n ?_
        refine WC.ret ?_
        refine WE.then_ret ?_
        refine WE.block_ret ?_
        refine WE.then_ret ?_
        refine WE.then_ret ?_
        refine WE.block_ret ?_
        refine WE.then_ret ?_
        refine WE.ret2 (P := Tryd.prog) (.inl rfl) Tryd.results108 rfl rfl ?_
        rw [hb, if_neg (by decide), if_pos (by omega)] at hg
        exact fun w' h => HdsPost.none hg.symm (h.sub (.cons _ (List.sublist_append_right _ _)))
      · -- 19F
        refine WL.nil ?_
        refine WE.then_n ?_
        refine WC.cond_f rfl ?_
        refine WC.skip ?_
        refine WE.then_n ?_
        refine WC.region ?_
        refine WL.val (v_move rfl rfl) (.none rfl) rfl rfl ?_
        refine WL.val (v_loadN rfl rfl many_31 rfl allAt) (.none rfl) rfl rfl ?_
        refine WL.buildSlice rfl rfl Tryd.underlying47 sz_31 zero_31 rfl (by decide) rfl (.none rfl) rfl rfl ?_
        intro g22 hg22
        refine WL.to (L' := E ++ (.row g22 (hdL x) :: .row g7 (hdL x) :: L)) (fun w hS => hS.front [_, _]) ?_
        refine WL.appendL rfl rfl rfl Tryd.underlying47 Tryd.underlying47 sz_31 by_31 zero_31 rfl rfl hV (new := hdL x) (fun _ => ⟨g22, 0, rfl, fun w hS => allAt (g := g22) w hS⟩) rfl rfl (by omega) (.none rfl) rfl rfl ?_
        intro ad23 c23 E23 hV23 hr23
        refine WL.val (v_assign rfl rfl) (.none rfl) rfl rfl ?_
        refine WL.nil ?_
        refine WE.block_n ?_
        refine WE.then_n ?_
        refine WC.region ?_
        refine WL.val (v_add rfl rfl rfl (w_i64 (by omega) (by omega))) (.none rfl) rfl rfl ?_
        refine WL.val (v_move rfl rfl) (.none rfl) rfl rfl ?_
        refine WL.nil ?_
        rw [hb, if_neg (by decide), if_neg (by omega)] at hg
        have hl9 : (R ++ [x]).length = R.length + 1 := (by rw [List.length_append]; rfl)
        exact WE.next (k + 1, R ++ [x], ad23, c23, E23) (by dsimp only; omega) ⟨by dsimp only; omega, by dsimp only; rw [hl9, ← hdsL_snoc]; exact hV23, by dsimp only; omega, hg⟩ (.int rfl (by dsimp only; omega) (.cons rfl (.cons rfl (.eq rfl (by dsimp only; rw [hl9]) .nil)))) (List.Sublist.append_left (.cons _ (.cons _ (.refl _))) _)
    · -- 16T
      refine WL.nil ?_
      refine WE.then_n ?_
      refine WC.cond_t rfl ?_
      refine WC.exit ?_
      refine WE.then_exit ?_
      refine WE.block_hit ?_
      refine WE.then_n ?_
      refine WC.region ?_
      refine WL.val (v_add rfl rfl rfl (w_i64 (by omega) (by omega))) (.none rfl) rfl rfl ?_
      refine WL.val (v_move rfl rfl) (.none rfl) rfl rfl ?_
      refine WL.nil ?_
      rw [hb, if_pos rfl] at hg
      exact WE.next (k + 1, R, ad, c, E) (by dsimp only; omega) ⟨by dsimp only; omega, hV, hR, hg⟩ (.int rfl (by dsimp only; omega) (.cons rfl (.cons rfl (.cons rfl .nil)))) (.cons _ (.refl _))
  · -- 11F
    refine WL.nil ?_
    refine WE.then_n ?_
    refine WC.seq ?_
    refine WC.cond_f rfl ?_
    refine WC.exit ?_
    refine WE.then_exit ?_
    refine WE.then_exit ?_
    refine WE.block_hit ?_
    refine WE.then_n ?_
    refine WC.seq ?_
    refine WC.region ?_
    refine WL.val (v_move rfl rfl) (.none rfl) rfl rfl ?_
    refine WL.val (v_assign rfl rfl) (.none rfl) rfl rfl ?_
    refine WL.val (v_assign rfl rfl) (.none rfl) rfl rfl ?_
    refine WL.nil ?_
    refine WE.then_n ?_
    refine WC.ret ?_
    refine WE.ret2 (P := Tryd.prog) (.inl rfl) Tryd.results108 rfl rfl ?_
    obtain rfl : k = Bs.length := (by omega)
    rw [List.drop_length, gatherT] at hg
    exact fun w' h => HdsPost.some hg.symm hV h
end Go.Proofs.YtodaanhhnjkncaaDoor
/- Acts: the plain law. -/
namespace Go.Proofs.YtodaanhhnjkncaaDoor
open Go.RowKit

theorem numK_ofB {n : Int} (h0 : 0 ≤ n) (h1 : n ≤ 281474976710655) : numK (ofB n) 6 = n := by
  simp only [numK, ofB]
  have e5 : (256 : Int) ^ 5 = 1099511627776 := by decide
  have e4 : (256 : Int) ^ 4 = 4294967296 := by decide
  have e3 : (256 : Int) ^ 3 = 16777216 := by decide
  have e2 : (256 : Int) ^ 2 = 65536 := by decide
  have e1 : (256 : Int) ^ 1 = 256 := by decide
  have e0 : (256 : Int) ^ 0 = 1 := by decide
  simp only [e5, e4, e3, e2, e1, e0, Nat.sub_zero, Nat.sub_self, show 5 - 1 = 4 from rfl, show 5 - 2 = 3 from rfl, show 5 - 3 = 2 from rfl, show 5 - 4 = 1 from rfl]
  omega
theorem getF_with {k : Nat} (hk : k < 9) {n : Int} (h0 : 0 ≤ n) (h1 : n ≤ fullI k) (H : Hd) : getF (wthF k n H) k = n := by
  unfold getF
  match k, hk with
  | 0, _ => have e : fullI 0 = 255 := (by decide); show n % 18446744073709551616 % (2 ^ 8) = n; omega
  | 1, _ => have e : fullI 1 = 281474976710655 := (by decide); show numK (ofB n) 6 % (2 ^ 48) = n; rw [numK_ofB h0 (by omega)]; omega
  | 2, _ => have e : fullI 2 = 281474976710655 := (by decide); show numK (ofB n) 6 % (2 ^ 48) = n; rw [numK_ofB h0 (by omega)]; omega
  | 3, _ => have e : fullI 3 = 65535 := (by decide); show n % 18446744073709551616 % (2 ^ 16) = n; omega
  | 4, _ => have e : fullI 4 = 4294967295 := (by decide); show n % (2 ^ 32) = n; omega
  | 5, _ => have e : fullI 5 = 4294967295 := (by decide); show n % (2 ^ 32) = n; omega
  | 6, _ => have e : fullI 6 = 255 := (by decide); show n % 18446744073709551616 % (2 ^ 8) = n; omega
  | 7, _ => have e : fullI 7 = 65535 := (by decide); show n % 18446744073709551616 % (2 ^ 16) = n; omega
  | 8, _ => have e : fullI 8 = 65535 := (by decide); show n % 18446744073709551616 % (2 ^ 16) = n; omega
theorem getF_with_ne {k j : Nat} (hj : j < 9) (hne : k ≠ j) (n : Int) (H : Hd) : getF (wthF k n H) j = getF H j := by
  unfold getF
  congr 1
  match k with
  | 0 => match j, hj with | 0, _ => exact absurd rfl hne | 1, _ | 2, _ | 3, _ | 4, _ | 5, _ | 6, _ | 7, _ | 8, _ => rfl
  | 1 => match j, hj with | 1, _ => exact absurd rfl hne | 0, _ | 2, _ | 3, _ | 4, _ | 5, _ | 6, _ | 7, _ | 8, _ => rfl
  | 2 => match j, hj with | 2, _ => exact absurd rfl hne | 1, _ | 0, _ | 3, _ | 4, _ | 5, _ | 6, _ | 7, _ | 8, _ => rfl
  | 3 => match j, hj with | 3, _ => exact absurd rfl hne | 1, _ | 2, _ | 0, _ | 4, _ | 5, _ | 6, _ | 7, _ | 8, _ => rfl
  | 4 => match j, hj with | 4, _ => exact absurd rfl hne | 1, _ | 2, _ | 3, _ | 0, _ | 5, _ | 6, _ | 7, _ | 8, _ => rfl
  | 5 => match j, hj with | 5, _ => exact absurd rfl hne | 1, _ | 2, _ | 3, _ | 4, _ | 0, _ | 6, _ | 7, _ | 8, _ => rfl
  | 6 => match j, hj with | 6, _ => exact absurd rfl hne | 1, _ | 2, _ | 3, _ | 4, _ | 5, _ | 0, _ | 7, _ | 8, _ => rfl
  | 7 => match j, hj with | 7, _ => exact absurd rfl hne | 1, _ | 2, _ | 3, _ | 4, _ | 5, _ | 6, _ | 0, _ | 8, _ => rfl
  | 8 => match j, hj with | 8, _ => exact absurd rfl hne | 1, _ | 2, _ | 3, _ | 4, _ | 5, _ | 6, _ | 7, _ | 0, _ => rfl
  | _ + 9 => rfl
theorem proj_appK {α : Type} (f : Hd → α) (j : Nat) (φ : Int → α) (a : Ac) (h1 : ∀ H, f (wthF j (a.val j) H) = φ (a.val j)) (h2 : ∀ k n H, k ≠ j → f (wthF k n H) = f H) (H : Hd) :
    ∀ k, f (appK a H k) = if j < k ∧ a.sets j then φ (a.val j) else f H
  | 0 => by rw [if_neg (fun h => Nat.not_lt_zero _ h.1)]; rfl
  | k + 1 => by
    have ih := proj_appK f j φ a h1 h2 H k
    show f (if a.sets k then wthF k (a.val k) (appK a H k) else appK a H k) = _
    by_cases hs : a.sets k
    · rw [if_pos hs]
      by_cases e : k = j
      · subst e; rw [h1, if_pos ⟨by omega, hs⟩]
      · rw [h2 k _ _ e, ih]
        by_cases hj : j < k ∧ a.sets j
        · rw [if_pos hj, if_pos ⟨by omega, hj.2⟩]
        · rw [if_neg hj, if_neg (fun q => hj ⟨by omega, q.2⟩)]
    · rw [if_neg hs, ih]
      by_cases hj : j < k ∧ a.sets j
      · rw [if_pos hj, if_pos ⟨by omega, hj.2⟩]
      · rw [if_neg hj, if_neg (fun q => hj ⟨by have := q.1; by_cases e : j = k; (subst e; exact absurd q.2 hs); omega, q.2⟩)]
theorem getF_appK {a : Ac} (hv : a.In) (ha : a.Ok) (H : Hd) {j : Nat} (hj : j < 9) : getF (appK a H 9) j = if a.sets j then a.val j else getF H j := by
  rw [proj_appK (fun H => getF H j) j (fun n => n) a (fun H => getF_with hj (hv.val j).1 (ha.2 j hj).1 H) (fun k n H hne => getF_with_ne hj hne n H) H 9]
  by_cases h : a.sets j
  · rw [if_pos h, if_pos ⟨hj, h⟩]
  · rw [if_neg h, if_neg (fun q => h q.2)]
theorem wthF_in {k : Nat} {n : Int} {H : Hd} (hH : H.In) (h0 : 0 ≤ n) (h1 : n ≤ fullI k) : (wthF k n H).In := by
  match k with
  | 0 => have e : fullI 0 = 255 := (by decide); exact { hH with port := (by show _ ∧ n ≤ _; refine ⟨?_, by omega⟩; show _ ≤ n; omega) }
  | 1 => exact { hH with src := ofB_byt n }
  | 2 => exact { hH with dst := ofB_byt n }
  | 3 => have e : fullI 3 = 65535 := (by decide); exact { hH with ty := (by show _ ∧ n ≤ _; refine ⟨?_, by omega⟩; show _ ≤ n; omega) }
  | 4 => have e : fullI 4 = 4294967295 := (by decide); exact { hH with sip := (by show 0 ≤ n ∧ n ≤ _; omega) }
  | 5 => have e : fullI 5 = 4294967295 := (by decide); exact { hH with dip := (by show 0 ≤ n ∧ n ≤ _; omega) }
  | 6 => have e : fullI 6 = 255 := (by decide); exact { hH with proto := (by show _ ∧ n ≤ _; refine ⟨?_, by omega⟩; show _ ≤ n; omega) }
  | 7 => have e : fullI 7 = 65535 := (by decide); exact { hH with sp := (by show _ ∧ n ≤ _; refine ⟨?_, by omega⟩; show _ ≤ n; omega) }
  | 8 => have e : fullI 8 = 65535 := (by decide); exact { hH with dp := (by show _ ∧ n ≤ _; refine ⟨?_, by omega⟩; show _ ≤ n; omega) }
  | _ + 9 => exact hH
theorem appK_in {a : Ac} {H : Hd} (hH : H.In) (hv : a.In) (ha : a.Ok) : ∀ k, k ≤ 9 → (appK a H k).In
  | 0, _ => hH
  | k + 1, hk => by
    show Hd.In (if a.sets k then wthF k (a.val k) (appK a H k) else appK a H k)
    by_cases h : a.sets k
    · rw [if_pos h]; exact wthF_in (appK_in hH hv ha k (by omega)) (hv.val k).1 (ha.2 k (by omega)).1
    · rw [if_neg h]; exact appK_in hH hv ha k (by omega)
/-! ### Two acts as one -/
theorem orN_nn (x y : Int) : 0 ≤ orN x y := by unfold orN; omega
theorem orN_511 {x y : Int} (hx : x ≤ 511) (hy : y ≤ 511) : orN x y ≤ 511 := by
  have := Nat.or_lt_two_pow (x := x.toNat) (y := y.toNat) (n := 9) (by omega) (by omega)
  unfold orN; omega
theorem then_sets {a b : Ac} (ha : a.Ok) (hb : b.Ok) (k : Nat) : (a.then b).sets k ↔ a.sets k ∨ b.sets k := by
  show orN a.set b.set / 2 ^ k % 2 = 1 ↔ a.set / 2 ^ k % 2 = 1 ∨ b.set / 2 ^ k % 2 = 1
  rw [bitN_iff (orN_nn _ _), bitN_iff ha.1.1, bitN_iff hb.1.1, bitN_or, Bool.or_eq_true]
theorem then_val (a b : Ac) (k : Nat) : (a.then b).val k = if b.sets k then b.val k else a.val k := rfl
theorem then_ok {a b : Ac} (ha : a.Ok) (hb : b.Ok) : (a.then b).Ok := by
  refine ⟨⟨orN_nn _ _, orN_511 ha.1.2 hb.1.2⟩, fun k hk => ?_⟩
  rw [then_sets ha hb, then_val]
  by_cases h : b.sets k
  · rw [if_pos h]; exact ⟨(hb.2 k hk).1, fun _ => .inr h⟩
  · rw [if_neg h]; exact ⟨(ha.2 k hk).1, fun q => .inl ((ha.2 k hk).2 q)⟩
theorem then_in {a b : Ac} (ha : a.Ok) (hb : b.Ok) (hva : a.In) (hvb : b.In) : (a.then b).In := by
  have h1 := orN_511 ha.1.2 hb.1.2
  have h2 := orN_nn a.set b.set
  refine ⟨⟨by show _ ≤ orN _ _; omega, by show orN _ _ ≤ _; omega⟩, fun k => ?_⟩
  rw [then_val]
  split
  · exact hvb.val k
  · exact hva.val k
theorem then_apply {a b : Ac} (ha : a.Ok) (hb : b.Ok) (H : Hd) : appK (a.then b) H 9 = appK b (appK a H 9) 9 := by
  have key : ∀ {α : Type} (f : Hd → α) (j : Nat) (φ : Int → α), j < 9 → (∀ n H, f (wthF j n H) = φ n) → (∀ k n H, k ≠ j → f (wthF k n H) = f H) → f (appK (a.then b) H 9) = f (appK b (appK a H 9) 9) := by
    intro α f j φ hj h1 h2
    rw [proj_appK f j φ (a.then b) (h1 _) h2 H 9, proj_appK f j φ b (h1 _) h2 (appK a H 9) 9, proj_appK f j φ a (h1 _) h2 H 9, then_val]
    by_cases hb' : b.sets j
    · rw [if_pos ⟨hj, (then_sets ha hb j).2 (.inr hb')⟩, if_pos hb', if_pos ⟨hj, hb'⟩]
    · rw [if_neg (fun q : j < 9 ∧ b.sets j => hb' q.2)]
      by_cases ha' : a.sets j
      · rw [if_pos ⟨hj, (then_sets ha hb j).2 (.inl ha')⟩, if_neg hb', if_pos ⟨hj, ha'⟩]
      · rw [if_neg (fun q => by rcases (then_sets ha hb j).1 q.2 with h | h <;> contradiction), if_neg (fun q => ha' q.2)]
  have ne : ∀ {α : Type} (f : Hd → α) (j : Nat), (∀ n H, (j ≠ 0 → f (wthF 0 n H) = f H) ∧ (j ≠ 1 → f (wthF 1 n H) = f H) ∧ (j ≠ 2 → f (wthF 2 n H) = f H) ∧ (j ≠ 3 → f (wthF 3 n H) = f H) ∧ (j ≠ 4 → f (wthF 4 n H) = f H) ∧ (j ≠ 5 → f (wthF 5 n H) = f H) ∧ (j ≠ 6 → f (wthF 6 n H) = f H) ∧ (j ≠ 7 → f (wthF 7 n H) = f H) ∧ (j ≠ 8 → f (wthF 8 n H) = f H)) →
      ∀ k n H, k ≠ j → f (wthF k n H) = f H := by
    intro α f j h k n H hne
    obtain ⟨h0, h1, h2, h3, h4, h5, h6, h7, h8⟩ := h n H
    match k with
    | 0 => exact h0 hne.symm
    | 1 => exact h1 hne.symm
    | 2 => exact h2 hne.symm
    | 3 => exact h3 hne.symm
    | 4 => exact h4 hne.symm
    | 5 => exact h5 hne.symm
    | 6 => exact h6 hne.symm
    | 7 => exact h7 hne.symm
    | 8 => exact h8 hne.symm
    | _ + 9 => rfl
  have ext : ∀ X Y : Hd, X.port = Y.port → X.src = Y.src → X.dst = Y.dst → X.ty = Y.ty → X.sip = Y.sip → X.dip = Y.dip → X.proto = Y.proto → X.sp = Y.sp → X.dp = Y.dp → X = Y := by
    rintro ⟨⟩ ⟨⟩ h1 h2 h3 h4 h5 h6 h7 h8 h9
    dsimp only at h1 h2 h3 h4 h5 h6 h7 h8 h9
    subst h1 h2 h3 h4 h5 h6 h7 h8 h9
    rfl
  refine ext _ _ ?_ ?_ ?_ ?_ ?_ ?_ ?_ ?_ ?_
  · exact key Hd.port 0 (fun n => n) (by omega) (fun _ _ => rfl) (ne _ 0 fun n H => ⟨fun h => absurd rfl h, fun _ => rfl, fun _ => rfl, fun _ => rfl, fun _ => rfl, fun _ => rfl, fun _ => rfl, fun _ => rfl, fun _ => rfl⟩)
  · exact key Hd.src 1 ofB (by omega) (fun _ _ => rfl) (ne _ 1 fun n H => ⟨fun _ => rfl, fun h => absurd rfl h, fun _ => rfl, fun _ => rfl, fun _ => rfl, fun _ => rfl, fun _ => rfl, fun _ => rfl, fun _ => rfl⟩)
  · exact key Hd.dst 2 ofB (by omega) (fun _ _ => rfl) (ne _ 2 fun n H => ⟨fun _ => rfl, fun _ => rfl, fun h => absurd rfl h, fun _ => rfl, fun _ => rfl, fun _ => rfl, fun _ => rfl, fun _ => rfl, fun _ => rfl⟩)
  · exact key Hd.ty 3 (fun n => n) (by omega) (fun _ _ => rfl) (ne _ 3 fun n H => ⟨fun _ => rfl, fun _ => rfl, fun _ => rfl, fun h => absurd rfl h, fun _ => rfl, fun _ => rfl, fun _ => rfl, fun _ => rfl, fun _ => rfl⟩)
  · exact key Hd.sip 4 (fun n => n) (by omega) (fun _ _ => rfl) (ne _ 4 fun n H => ⟨fun _ => rfl, fun _ => rfl, fun _ => rfl, fun _ => rfl, fun h => absurd rfl h, fun _ => rfl, fun _ => rfl, fun _ => rfl, fun _ => rfl⟩)
  · exact key Hd.dip 5 (fun n => n) (by omega) (fun _ _ => rfl) (ne _ 5 fun n H => ⟨fun _ => rfl, fun _ => rfl, fun _ => rfl, fun _ => rfl, fun _ => rfl, fun h => absurd rfl h, fun _ => rfl, fun _ => rfl, fun _ => rfl⟩)
  · exact key Hd.proto 6 (fun n => n) (by omega) (fun _ _ => rfl) (ne _ 6 fun n H => ⟨fun _ => rfl, fun _ => rfl, fun _ => rfl, fun _ => rfl, fun _ => rfl, fun _ => rfl, fun h => absurd rfl h, fun _ => rfl, fun _ => rfl⟩)
  · exact key Hd.sp 7 (fun n => n) (by omega) (fun _ _ => rfl) (ne _ 7 fun n H => ⟨fun _ => rfl, fun _ => rfl, fun _ => rfl, fun _ => rfl, fun _ => rfl, fun _ => rfl, fun _ => rfl, fun h => absurd rfl h, fun _ => rfl⟩)
  · exact key Hd.dp 8 (fun n => n) (by omega) (fun _ _ => rfl) (ne _ 8 fun n H => ⟨fun _ => rfl, fun _ => rfl, fun _ => rfl, fun _ => rfl, fun _ => rfl, fun _ => rfl, fun _ => rfl, fun _ => rfl, fun h => absurd rfl h⟩)
theorem then_self {a : Ac} (ha : a.Ok) : acL (a.then a) = acL a := by
  show Value.int .i64 (orN a.set a.set) :: ucs _ 9 = Value.int .i64 a.set :: ucs _ 9
  have e : orN a.set a.set = a.set := by unfold orN; rw [Nat.or_self]; have := ha.1.1; omega
  rw [e]
  congr 1
  exact ucs_congr fun i _ => by rw [then_val]; split <;> rfl
/-! ### The order of acts -/
theorem cmpI_neg (x y : Int) : cmpI x y = -cmpI y x := by unfold cmpI; split <;> split <;> (try split) <;> omega
theorem cmpI_zero (x y : Int) : cmpI x y = 0 ↔ x = y := by unfold cmpI; split <;> (try split) <;> omega
theorem lexK_neg (f g : Nat → Int) : ∀ k, lexK f g k = -lexK g f k
  | 0 => rfl
  | k + 1 => by
    have ih := lexK_neg f g k
    show (if lexK f g k ≠ 0 then lexK f g k else cmpI (f k) (g k)) = -(if lexK g f k ≠ 0 then lexK g f k else cmpI (g k) (f k))
    by_cases h : lexK f g k = 0
    · rw [if_neg (by omega), if_neg (by omega)]; exact cmpI_neg _ _
    · rw [if_pos h, if_pos (by omega)]; exact ih
theorem lexK_zero (f g : Nat → Int) : ∀ k, lexK f g k = 0 ↔ ∀ i, i < k → f i = g i
  | 0 => ⟨fun _ i h => absurd h (Nat.not_lt_zero i), fun _ => rfl⟩
  | k + 1 => by
    have ih := lexK_zero f g k
    show (if lexK f g k ≠ 0 then lexK f g k else cmpI (f k) (g k)) = 0 ↔ _
    by_cases h : lexK f g k = 0
    · rw [if_neg (by omega), cmpI_zero]
      refine ⟨fun e i hi => ?_, fun q => q k (by omega)⟩
      by_cases e2 : i = k
      · subst e2; exact e
      · exact ih.1 h i (by omega)
    · rw [if_pos h]
      exact ⟨fun q => absurd q h, fun q => ih.2 fun i hi => q i (by omega)⟩
theorem acmp_neg (a b : Ac) : acmp a b = -acmp b a := by
  unfold acmp
  have h := cmpI_neg a.set b.set
  by_cases e : cmpI a.set b.set = 0
  · rw [if_neg (by omega), if_neg (by omega)]; exact lexK_neg _ _ _
  · rw [if_pos e, if_pos (by omega)]; exact h
theorem acL_eq {a b : Ac} : acL a = acL b ↔ a.set = b.set ∧ ∀ i, i < 9 → a.val i = b.val i := by
  constructor
  · intro h
    unfold acL at h
    have h1 := (List.cons.inj h).1
    have h2 := (List.cons.inj h).2
    refine ⟨by injection h1, fun i hi => ?_⟩
    have e1 := ucs_get a.val hi
    rw [h2, ucs_get b.val hi] at e1
    have e2 := Option.some.inj e1
    injection e2 with _ e3
    exact e3.symm
  · rintro ⟨h1, h2⟩
    unfold acL
    rw [h1, ucs_congr h2]
theorem acmp_zero (a b : Ac) : acmp a b = 0 ↔ acL a = acL b := by
  rw [acL_eq]
  unfold acmp
  by_cases e : cmpI a.set b.set = 0
  · rw [if_neg (by omega), lexK_zero]
    exact ⟨fun h => ⟨(cmpI_zero _ _).1 e, h⟩, fun h => h.2⟩
  · rw [if_pos e]
    exact ⟨fun h => absurd h e, fun h => absurd ((cmpI_zero _ _).2 h.1) e⟩
theorem acmp_le (a b : Ac) : -1 ≤ acmp a b ∧ acmp a b ≤ 1 := by
  have hc : ∀ x y, -1 ≤ cmpI x y ∧ cmpI x y ≤ 1 := fun x y => by unfold cmpI; split <;> (try split) <;> omega
  have hl : ∀ k, -1 ≤ lexK a.val b.val k ∧ lexK a.val b.val k ≤ 1 := fun k => by
    induction k with
    | zero => exact ⟨(by show (-1 : Int) ≤ 0; omega), (by show (0 : Int) ≤ 1; omega)⟩
    | succ k ih => show -1 ≤ (if lexK a.val b.val k ≠ 0 then lexK a.val b.val k else cmpI _ _) ∧ (if lexK a.val b.val k ≠ 0 then lexK a.val b.val k else cmpI _ _) ≤ 1; split; exact ih; exact hc _ _
  unfold acmp
  split
  · exact hc _ _
  · exact hl 9
end Go.Proofs.YtodaanhhnjkncaaDoor
/- policy: run, par, seq. -/
namespace Go.Proofs.YtodaanhhnjkncaaDoor
open Go.RowKit

/-- One stage of a sequence: what each header gives, gathered. -/
def seqStep (f : Hd → Option (List Hd)) : List Hd → List Hd → Option (List Hd)
  | [], nx => some nx
  | g :: gs, nx => (f g).bind fun out => (gatherT nx out).bind fun nx' => seqStep f gs nx'
mutual
/-- What a policy makes of a header, in the order in which it comes. -/
def runT : Nd → Hd → Option (List Hd)
  | .mk k f v _ _ _ kids, H =>
    if k = 12 then some [H]
    else if k = 13 then (if (holdsKs H kids).getD 0 false then some [H] else some [])
    else if k = 14 then some [wthF f.toNat v H]
    else if k = 15 then parKs kids H []
    else if k = 16 then seqKs kids [H]
    else if k = 17 then (if (holdsKs H kids).getD 0 false then nthKs kids 1 H else nthKs kids 2 H)
    else some []
def parKs : List Nd → Hd → List Hd → Option (List Hd)
  | [], _, all => some all
  | t :: ts, H, all => (runT t H).bind fun out => (gatherT all out).bind fun all' => parKs ts H all'
def seqKs : List Nd → List Hd → Option (List Hd)
  | [], all => some all
  | t :: ts, all => (seqStep (fun g => runT t g) all []).bind fun next => seqKs ts next
def nthKs : List Nd → Nat → Hd → Option (List Hd)
  | [], _, _ => none
  | t :: _, 0, H => runT t H
  | _ :: ts, i + 1, H => nthKs ts i H
end
theorem runT_eq (t : Nd) (H : Hd) : runT t H =
    if t.kind = 12 then some [H]
    else if t.kind = 13 then (if (t.kids.map (holdsT H)).getD 0 false then some [H] else some [])
    else if t.kind = 14 then some [wthF t.f.toNat t.val H]
    else if t.kind = 15 then parKs t.kids H []
    else if t.kind = 16 then seqKs t.kids [H]
    else if t.kind = 17 then (if (t.kids.map (holdsT H)).getD 0 false then nthKs t.kids 1 H else nthKs t.kids 2 H)
    else some [] := by
  cases t; rw [runT, holdsKs_map]; rfl
theorem nthKs_get : ∀ (ts : List Nd) (i : Nat) (u : Nd) (H : Hd), ts[i]? = some u → nthKs ts i H = runT u H
  | [], _, _, _, h => by simp at h
  | t :: ts, 0, u, H, h => by
    simp only [List.getElem?_cons_zero, Option.some.injEq] at h
    subst h; rw [nthKs]
  | t :: ts, i + 1, u, H, h => by
    rw [List.getElem?_cons_succ] at h
    rw [nthKs]; exact nthKs_get ts i u H h
/-- A list that may be carried on. -/
structure Good (Rs : List Hd) : Prop where
  len : Rs.length ≤ 64
  all : ∀ x ∈ Rs, x.In
theorem Good.nil : Good [] := ⟨by decide, fun x h => by cases h⟩
theorem Good.one {H : Hd} (h : H.In) : Good [H] := ⟨show 1 ≤ 64 by omega, fun x hx => by rw [List.mem_singleton.1 hx]; exact h⟩
theorem gatherT_good {As Bs Rs : List Hd} (hA : Good As) (hB : ∀ x ∈ Bs, x.In) (e : gatherT As Bs = some Rs) : Good Rs :=
  ⟨gatherT_len Bs As Rs hA.len e, fun x hx => (gatherT_mem Bs As Rs e x hx).elim (hA.all x) (hB x)⟩
theorem seqStep_good {f : Hd → Option (List Hd)} (hf : ∀ g, g.In → ∀ out, f g = some out → Good out) : ∀ (all nx R : List Hd), (∀ g ∈ all, g.In) → Good nx → seqStep f all nx = some R → Good R
  | [], nx, R, _, hn, e => by rw [seqStep] at e; cases e; exact hn
  | g :: gs, nx, R, ha, hn, e => by
    rw [seqStep] at e
    obtain ⟨out, h1, e⟩ := Option.bind_eq_some_iff.1 e
    obtain ⟨nx', h2, e⟩ := Option.bind_eq_some_iff.1 e
    exact seqStep_good hf gs nx' R (fun x hx => ha x (List.mem_cons_of_mem _ hx)) (gatherT_good hn (hf g (ha g (List.mem_cons_self ..)) out h1).all h2) e
/-- A Set's field and number are in their bounds. -/
theorem argE_set {t : Nd} (h : argE t = 0) (hk : t.kind = 14) : ∃ q : Nat, t.f = q ∧ q < 9 ∧ t.f.toNat = q ∧ t.val ≤ fullI q := by
  unfold argE at h
  rw [if_neg (by omega), if_pos hk] at h
  split at h
  · cases h
  · rename_i hh
    obtain ⟨q, e, hq, e2⟩ := isFld.nat (Classical.not_not.1 fun k => hh (.inl k))
    refine ⟨q, e, hq, e2, ?_⟩
    rw [← e2]
    exact Int.not_lt.1 fun k => hh (.inr (.inr (.inr k)))
mutual
theorem runT_good : ∀ (t : Nd) (pred : Bool) (H : Hd) (Rs : List Hd), okT pred t → t.In → H.In → runT t H = some Rs → Good Rs
  | .mk k f v m a c kids, pred, H, Rs, hk, hI, hH, e => by
    rw [runT] at e
    have hkids := hk.parts.2.2.2
    have hIk := hI.kids
    split at e
    · cases e; exact Good.one hH
    · split at e
      · split at e <;> (cases e; first | exact Good.one hH | exact Good.nil)
      · split at e
        · rename_i h14
          cases e
          obtain ⟨q, _, hq, e2, hv⟩ := argE_set hk.parts.2.1 h14
          have e3 : f.toNat = q := e2
          rw [e3]
          exact Good.one (wthF_in hH hI.nums.2.2.1.1 hv)
        · split at e
          · exact parKs_good k 0 kids H [] Rs hkids hIk hH Good.nil e
          · split at e
            · exact seqKs_good k 0 kids [H] Rs hkids hIk (Good.one hH) e
            · split at e
              · split at e
                · exact nthKs_good k 0 kids 1 H Rs hkids hIk hH e
                · exact nthKs_good k 0 kids 2 H Rs hkids hIk hH e
              · cases e; exact Good.nil
theorem parKs_good (k : Int) : ∀ (i : Nat) (ts : List Nd) (H : Hd) (all Rs : List Hd), okKs k i ts → KidsIn ts → H.In → Good all → parKs ts H all = some Rs → Good Rs
  | _, [], H, all, Rs, _, _, _, ha, e => by rw [parKs] at e; cases e; exact ha
  | i, t :: ts, H, all, Rs, hk, hI, hH, ha, e => by
    rw [parKs] at e
    unfold okKs at hk
    unfold KidsIn at hI
    obtain ⟨out, h1, e⟩ := Option.bind_eq_some_iff.1 e
    obtain ⟨all', h2, e⟩ := Option.bind_eq_some_iff.1 e
    exact parKs_good k (i + 1) ts H all' Rs hk.2 hI.2 hH (gatherT_good ha (runT_good t _ H out hk.1 hI.1 hH h1).all h2) e
theorem seqKs_good (k : Int) : ∀ (i : Nat) (ts : List Nd) (all Rs : List Hd), okKs k i ts → KidsIn ts → Good all → seqKs ts all = some Rs → Good Rs
  | _, [], all, Rs, _, _, ha, e => by rw [seqKs] at e; cases e; exact ha
  | i, t :: ts, all, Rs, hk, hI, ha, e => by
    rw [seqKs] at e
    unfold okKs at hk
    unfold KidsIn at hI
    obtain ⟨nx, h1, e⟩ := Option.bind_eq_some_iff.1 e
    exact seqKs_good k (i + 1) ts nx Rs hk.2 hI.2 (seqStep_good (fun g hg out ho => runT_good t _ g out hk.1 hI.1 hg ho) all [] nx ha.all Good.nil h1) e
theorem nthKs_good (k : Int) : ∀ (i : Nat) (ts : List Nd) (j : Nat) (H : Hd) (Rs : List Hd), okKs k i ts → KidsIn ts → H.In → nthKs ts j H = some Rs → Good Rs
  | _, [], j, H, Rs, _, _, _, e => by rw [nthKs] at e; cases e
  | i, t :: ts, 0, H, Rs, hk, hI, hH, e => by
    rw [nthKs] at e
    unfold okKs at hk
    unfold KidsIn at hI
    exact runT_good t _ H Rs hk.1 hI.1 hH e
  | i, t :: ts, j + 1, H, Rs, hk, hI, hH, e => by
    rw [nthKs] at e
    unfold okKs at hk
    unfold KidsIn at hI
    exact nthKs_good k (i + 1) ts j H Rs hk.2 hI.2 hH e
end
end Go.Proofs.YtodaanhhnjkncaaDoor
