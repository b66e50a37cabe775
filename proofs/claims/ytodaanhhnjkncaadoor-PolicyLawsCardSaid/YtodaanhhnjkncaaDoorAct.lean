/- rules: acts. -/
import Derived.Test.YtodaanhhnjkncaaDoorHg
import Derived.Test.YtodaanhhnjkncaaDoorMix
namespace Go.Proofs.YtodaanhhnjkncaaDoor
open Go.RowKit

structure Ac where
  set : Int
  val : Nat → Int
/-- u64 cells. -/
def ucs (f : Nat → Int) (n : Nat) : List Value := (List.range n).map fun i => .int .u64 (f i)
theorem ucs_len (f : Nat → Int) (n : Nat) : (ucs f n).length = n := by simp [ucs]
theorem ucs_get (f : Nat → Int) {n i : Nat} (h : i < n) : (ucs f n)[i]? = some (.int .u64 (f i)) := by simp [ucs, h]
theorem ucs_set {f : Nat → Int} {n j : Nat} {x : Int} (h : j < n) : (ucs f n).set j (.int .u64 x) = ucs (fun i => if i = j then x else f i) n := by
  apply List.ext_getElem?
  intro i
  rw [List.getElem?_set, ucs_len]
  by_cases h1 : j = i
  · subst h1; rw [if_pos rfl, if_pos h, ucs_get _ h, if_pos rfl]
  · rw [if_neg h1]
    by_cases hi : i < n
    · rw [ucs_get _ hi, ucs_get _ hi, if_neg (by omega)]
    · rw [List.getElem?_eq_none (by rw [ucs_len]; omega), List.getElem?_eq_none (by rw [ucs_len]; omega)]
theorem ucs_congr {f g : Nat → Int} {n : Nat} (h : ∀ i, i < n → f i = g i) : ucs f n = ucs g n := by
  unfold ucs
  apply List.map_congr_left
  intro i hi
  rw [h i (List.mem_range.1 hi)]
def acL (a : Ac) : List Value := .int .i64 a.set :: ucs a.val 9
def acV (a : Ac) : Value := .agg (acL a).toArray
theorem acL_get (a : Ac) {k : Nat} (h : k < 9) : (acL a)[1 + k * 1]? = some (.int .u64 (a.val k)) := by
  rw [show 1 + k * 1 = k + 1 by omega]; exact ucs_get _ h
structure Ac.In (a : Ac) : Prop where
  set : -9223372036854775808 ≤ a.set ∧ a.set ≤ 9223372036854775807
  val : ∀ k, 0 ≤ a.val k ∧ a.val k ≤ 18446744073709551615
/-- The act sets the field. -/
def Ac.sets (a : Ac) (k : Nat) : Prop := a.set / 2 ^ k % 2 = 1
instance (a : Ac) (k : Nat) : Decidable (a.sets k) := by unfold Ac.sets; infer_instance
/-- The act is in its form. -/
def Ac.Ok (a : Ac) : Prop := (0 ≤ a.set ∧ a.set ≤ 511) ∧ ∀ k, k < 9 → a.val k ≤ fullI k ∧ (a.val k ≠ 0 → a.sets k)
instance (a : Ac) : Decidable a.Ok := by unfold Ac.Ok; infer_instance
theorem sets_c (w : World) (a : Ac) (k : Nat) (hk : k < 9) :
    Calls Tryd.prog 51 #[acV a, .int .i64 k] w fun e w' => e = .returned (.bool (decide (a.sets k))) ∧ Frm (fun _ => False) w w' := by
  refine enter Tryd.func51 rfl Tryd.ntmps51 rfl (St.start (fun _ => False) w) ?_
  refine WC.seq ?_
  refine WC.region ?_
  refine WL.box rfl rfl rfl (.none rfl) rfl rfl ?_
  intro g2 hg2
  refine WL.val (v_assign rfl rfl) (.none rfl) rfl rfl ?_
  refine WL.nil ?_
  refine WE.then_n ?_
  refine WC.seq ?_
  refine WC.region ?_
  refine WL.val (v_fieldAddr0 rfl rfl fld_25_0) (.none rfl) rfl rfl ?_
  refine WL.val (v_load1 rfl rfl one_3 (cellAt rfl)) (.none rfl) rfl rfl ?_
  refine WL.val (v_move rfl rfl) (.none rfl) rfl rfl ?_
  refine WL.val (v_shr (m := k) (c := (2 : Int) ^ k) rfl rfl rfl rfl (by show k ≤ 64; omega) rfl) (.none rfl) rfl rfl ?_
  refine WL.val (v_and rfl rfl rfl (mask_i64' (i := 1) (m := 2) (by decide) (by decide) (by decide))) (.none rfl) rfl rfl ?_
  refine WL.val (v_eql rfl rfl rfl) (.none rfl) rfl rfl ?_
  refine WL.val (v_assign rfl rfl) (.none rfl) rfl rfl ?_
  refine WL.nil ?_
  refine WE.then_n ?_
  refine WC.ret ?_
  refine WE.ret1 (P := Tryd.prog) (.inl rfl) Tryd.results51 rfl ?_
  exact fun w' h => ⟨rfl, h.frm⟩
theorem ACheck_c (w : World) (a : Ac) (hG : GW w) :
    Calls Tryd.prog 13 #[acV a] w fun e w' => e = .returned (.int .i64 (if a.Ok then 0 else 1)) ∧ Frm (fun _ => False) w w' := by
  refine enter Tryd.func13 rfl Tryd.ntmps13 rfl (St.start (fun _ => False) w) ?_
  refine WC.seq ?_
  refine WC.region ?_
  refine WL.box rfl rfl rfl (.none rfl) rfl rfl ?_
  intro g1 hg1
  refine WL.val (v_assign rfl rfl) (.none rfl) rfl rfl ?_
  refine WL.nil ?_
  refine WE.then_n ?_
  refine WC.seq ?_
  refine WC.seq ?_
  refine WC.region ?_
  refine WL.val (v_fieldAddr0 rfl rfl fld_25_0) (.none rfl) rfl rfl ?_
  refine WL.val (v_load1 rfl rfl one_3 (cellAt rfl)) (.none rfl) rfl rfl ?_
  refine WL.test (v_lss rfl rfl rfl) (.none rfl) rfl rfl (fun h6 => ?_) (fun h6 => ?_)
  · -- 6T
    refine WL.val (v_move rfl rfl) (.none rfl) rfl rfl ?_
    refine WL.skip rfl rfl rfl rfl rfl rfl ?_
    refine WL.skip rfl rfl rfl rfl rfl rfl ?_
    refine WL.skip rfl rfl rfl rfl rfl rfl ?_
    refine WL.val (v_pick_t rfl rfl rfl) (.none rfl) rfl rfl ?_
    refine WL.nil ?_
    refine WE.then_n ?_
    refine WC.cond_t rfl ?_
    refine WC.seq ?_
    refine WC.region ?_
    refine WL.val (v_assign rfl rfl) (.none rfl) rfl rfl ?_
    refine WL.nil ?_
    refine WE.then_n ?_
    refine WC.ret ?_
    refine WE.then_ret ?_
    refine WE.ret1 (P := Tryd.prog) (.inl rfl) Tryd.results13 rfl ?_
    exact fun w' h => ⟨by rw [if_neg (fun k => by have := k.1; omega)], h.frm⟩
  · -- 6F
    refine WL.val (v_move rfl rfl) (.none rfl) rfl rfl ?_
    refine WL.val (v_fieldAddr0 rfl rfl fld_25_0) (.some rfl rfl rfl) rfl rfl ?_
    refine WL.val (v_load1 rfl rfl one_3 (cellAt rfl)) (.some rfl rfl rfl) rfl rfl ?_
    refine WL.test (v_geq rfl rfl rfl) (.some rfl rfl rfl) rfl rfl (fun h10 => ?_) (fun h10 => ?_)
    · -- 10T
      refine WL.val (v_pick_f rfl rfl rfl) (.none rfl) rfl rfl ?_
      refine WL.nil ?_
      refine WE.then_n ?_
      refine WC.cond_t rfl ?_
      refine WC.seq ?_
      refine WC.region ?_
      refine WL.val (v_assign rfl rfl) (.none rfl) rfl rfl ?_
      refine WL.nil ?_
      refine WE.then_n ?_
      refine WC.ret ?_
      refine WE.then_ret ?_
      refine WE.ret1 (P := Tryd.prog) (.inl rfl) Tryd.results13 rfl ?_
      exact fun w' h => ⟨by rw [if_neg (fun k => by have := k.1; omega)], h.frm⟩
    · -- 10F
      refine WL.val (v_pick_f rfl rfl rfl) (.none rfl) rfl rfl ?_
      refine WL.nil ?_
      refine WE.then_n ?_
      refine WC.cond_f rfl ?_
      refine WC.skip ?_
      refine WE.then_n ?_
      refine WC.seq ?_
      refine WC.seq ?_
      refine WC.region ?_
      refine WL.val (v_move rfl rfl) (.none rfl) rfl rfl ?_
      refine WL.nil ?_
      refine WE.then_n ?_
      refine WC.block ?_
      refine WC.loop (fun k : Nat => [(12, .int .i64 k), (1, .pointer (some ⟨g1, 0, none⟩))]) (fun _ => [.row g1 (acL a)]) (fun k => k ≤ 9 ∧ ∀ j, j < k → a.val j ≤ fullI j ∧ (a.val j ≠ 0 → a.sets j)) (fun k => 9 - k) 0 ⟨Nat.zero_le _, fun j h => absurd h (by omega)⟩ (.cons rfl (.cons rfl .nil)) (.refl _) ?_
      rintro k ⟨hk, hok⟩
      refine WC.seq ?_
      refine WC.region ?_
      refine WL.test (v_lss rfl rfl rfl) (.none rfl) rfl rfl (fun h13 => ?_) (fun h13 => ?_)
      · -- 13T
        refine WL.nil ?_
        refine WE.then_n ?_
        refine WC.seq ?_
        refine WC.cond_t rfl ?_
        refine WC.skip ?_
        refine WE.then_n ?_
        refine WC.seq ?_
        refine WC.block ?_
        refine WC.seq ?_
        refine WC.region ?_
        refine WL.val (v_move rfl rfl) (.none rfl) rfl rfl ?_
        refine WL.val (v_assign rfl rfl) (.none rfl) rfl rfl ?_
        refine WL.nil ?_
        refine WE.then_n ?_
        refine WC.seq ?_
        refine WC.quiet mixed (by kernel_rfl) ?_
        refine WQ.val (v_move rfl rfl) (.none rfl) rfl rfl ?_
        refine WQ.val (v_fieldAddr0 rfl rfl fld_25_1) (.none rfl) rfl rfl ?_
        refine WQ.val (v_indexAddrA (lo := k) rfl rfl rfl Tryd.underlying23 sz_22 (by omega) (by omega)) (.none rfl) rfl rfl ?_
        refine WQ.val (v_load1 rfl rfl one_22 (cellAt (acL_get a (by omega)))) (.none rfl) rfl rfl ?_
        refine WQ.val (v_move rfl rfl) (.none rfl) rfl rfl ?_
        refine WQ.call _ rfl rfl ck_30 (.none rfl) rfl rfl (fun w hS => Calls.still (Full_n w k (by omega) (hG.keep (fun h => h) hS)) hS) ?_
        refine WQ.test (v_gtr rfl rfl rfl) (.none rfl) rfl rfl (fun h21 => ?_) (fun h21 => ?_)
        · -- 21T
          refine WQ.val (v_move rfl rfl) (.none rfl) rfl rfl ?_
          refine WQ.skip rfl rfl rfl rfl rfl rfl ?_
          refine WQ.skip rfl rfl rfl rfl rfl rfl ?_
          refine WQ.skip rfl rfl rfl rfl rfl rfl ?_
          refine WQ.skip rfl rfl rfl rfl rfl rfl ?_
          refine WQ.skip rfl rfl rfl rfl rfl rfl ?_
          refine WQ.skip rfl rfl rfl rfl rfl rfl ?_
          refine WQ.skip rfl rfl rfl rfl rfl rfl ?_
          refine WQ.skip rfl rfl rfl rfl rfl rfl ?_
          refine WQ.skip rfl rfl rfl rfl rfl rfl ?_
          refine WQ.skip rfl rfl rfl rfl rfl rfl ?_
          refine WQ.skip rfl rfl rfl rfl rfl rfl ?_
          refine WQ.val (v_pick_t rfl rfl rfl) (.none rfl) rfl rfl ?_
          refine WQ.nil ?_
          refine WE.then_n ?_
          refine WC.cond_t rfl ?_
          refine WC.seq ?_
          refine WC.region ?_
          refine WL.val (v_assign rfl rfl) (.none rfl) rfl rfl ?_
          refine WL.nil ?_
          refine WE.then_n ?_
          refine WC.ret ?_
          refine WE.block_ret ?_
          refine WE.then_ret ?_
          refine WE.then_ret ?_
          refine WE.block_ret ?_
          refine WE.then_ret ?_
          refine WE.ret1 (P := Tryd.prog) (.inl rfl) Tryd.results13 rfl ?_
          exact fun w' h => ⟨by rw [if_neg (fun q => by have := (q.2 k (by omega)).1; omega)], h.frm⟩
        · -- 21F
          refine WQ.val (v_move rfl rfl) (.none rfl) rfl rfl ?_
          refine WQ.val (v_move rfl rfl) (.some rfl rfl rfl) rfl rfl ?_
          refine WQ.val (v_fieldAddr0 rfl rfl fld_25_1) (.some rfl rfl rfl) rfl rfl ?_
          refine WQ.val (v_indexAddrA (lo := k) rfl rfl rfl Tryd.underlying23 sz_22 (by omega) (by omega)) (.some rfl rfl rfl) rfl rfl ?_
          refine WQ.val (v_load1 rfl rfl one_22 (cellAt (acL_get a (by omega)))) (.some rfl rfl rfl) rfl rfl ?_
          refine WQ.test (v_neq rfl rfl rfl) (.some rfl rfl rfl) rfl rfl (fun h27 => ?_) (fun h27 => ?_)
          · -- 27T
            refine WQ.val (v_move rfl rfl) (.some rfl rfl rfl) rfl rfl ?_
            refine WQ.val (v_loadN rfl rfl many_25 rfl allAt) (.some rfl rfl rfl) rfl rfl ?_
            refine WQ.val (v_move rfl rfl) (.some rfl rfl rfl) rfl rfl ?_
            refine WQ.call _ rfl rfl ck_51 (.some rfl rfl rfl) rfl rfl (fun w hS => Calls.still (sets_c w a k (by omega)) hS) ?_
            refine WQ.val (v_notD rfl rfl) (.some rfl rfl rfl) rfl rfl ?_
            refine WQ.val (v_pick_t rfl rfl rfl) (.some rfl rfl rfl) rfl rfl ?_
            refine WQ.val (v_pick_f rfl rfl rfl) (.none rfl) rfl rfl ?_
            refine WQ.nil ?_
            refine WE.then_n ?_
            refine WC.cond_d rfl (fun h34 => ?_) (fun h34 => ?_)
            · -- 34T
              refine WC.seq ?_
              refine WC.region ?_
              refine WL.val (v_assign rfl rfl) (.none rfl) rfl rfl ?_
              refine WL.nil ?_
              refine WE.then_n ?_
              refine WC.ret ?_
              refine WE.block_ret ?_
              refine WE.then_ret ?_
              refine WE.then_ret ?_
              refine WE.block_ret ?_
              refine WE.then_ret ?_
              refine WE.ret1 (P := Tryd.prog) (.inl rfl) Tryd.results13 rfl ?_
              exact fun w' h => ⟨by rw [if_neg (fun q => h34 ((q.2 k (by omega)).2 h27))], h.frm⟩
            · -- 34F
              refine WC.skip ?_
              refine WE.block_n ?_
              refine WE.then_n ?_
              refine WC.region ?_
              refine WL.val (v_add rfl rfl rfl (w_i64 (by omega) (by omega))) (.none rfl) rfl rfl ?_
              refine WL.val (v_move rfl rfl) (.none rfl) rfl rfl ?_
              refine WL.nil ?_
              exact WE.next (k + 1) (by omega) ⟨by omega, fun j hj => by
              by_cases e : j = k
              · subst e; exact ⟨by omega, fun _ => Classical.not_not.1 h34⟩
              · exact hok j (by omega)⟩ (.int rfl (by omega) (.cons rfl .nil)) (.refl _)
          · -- 27F
            refine WQ.val (v_move rfl rfl) (.some rfl rfl rfl) rfl rfl ?_
            refine WQ.skip rfl rfl rfl rfl rfl rfl ?_
            refine WQ.skip rfl rfl rfl rfl rfl rfl ?_
            refine WQ.skip rfl rfl rfl rfl rfl rfl ?_
            refine WQ.skip rfl rfl rfl rfl rfl rfl ?_
            refine WQ.val (v_pick_f rfl rfl rfl) (.some rfl rfl rfl) rfl rfl ?_
            refine WQ.val (v_pick_f rfl rfl rfl) (.none rfl) rfl rfl ?_
            refine WQ.nil ?_
            refine WE.then_n ?_
            refine WC.cond_f rfl ?_
            refine WC.skip ?_
            refine WE.block_n ?_
            refine WE.then_n ?_
            refine WC.region ?_
            refine WL.val (v_add rfl rfl rfl (w_i64 (by omega) (by omega))) (.none rfl) rfl rfl ?_
            refine WL.val (v_move rfl rfl) (.none rfl) rfl rfl ?_
            refine WL.nil ?_
            exact WE.next (k + 1) (by omega) ⟨by omega, fun j hj => by
            by_cases e : j = k
            · subst e; exact ⟨by omega, fun h => absurd h h27⟩
            · exact hok j (by omega)⟩ (.int rfl (by omega) (.cons rfl .nil)) (.refl _)
      · -- 13F
        refine WL.nil ?_
        refine WE.then_n ?_
        refine WC.seq ?_
        refine WC.cond_f rfl ?_
        refine WC.exit ?_
        refine WE.then_exit ?_
        refine WE.then_exit ?_
        refine WE.block_hit ?_
        refine WE.then_n ?_
        refine WC.seq ?_
        refine WC.region ?_
        refine WL.val (v_assign rfl rfl) (.none rfl) rfl rfl ?_
        refine WL.nil ?_
        refine WE.then_n ?_
        refine WC.ret ?_
        refine WE.ret1 (P := Tryd.prog) (.inl rfl) Tryd.results13 rfl ?_
        obtain rfl : k = 9 := (by omega)
        exact fun w' h => ⟨by rw [if_pos ⟨by omega, hok⟩], h.frm⟩
/-- What an act's first k make of a header. -/
def appK (a : Ac) (H : Hd) : Nat → Hd | 0 => H | k + 1 => if a.sets k then wthF k (a.val k) (appK a H k) else appK a H k
set_option maxHeartbeats 1000000 in
theorem Apply_c (w : World) (a : Ac) (H : Hd) (hv : a.In) (ha : a.Ok) (hG : GW w) :
    Calls Tryd.prog 15 #[acV a, .agg (hdCells H)] w fun e w' => e = .returned (.agg (hdCells (appK a H 9))) ∧ Frm (fun _ => False) w w' := by
  refine enter Tryd.func15 rfl Tryd.ntmps15 rfl (St.start (fun _ => False) w) ?_
  refine WC.seq ?_
  refine WC.region ?_
  refine WL.box rfl rfl rfl (.none rfl) rfl rfl ?_
  intro g2 hg2
  refine WL.box rfl rfl rfl (.none rfl) rfl rfl ?_
  intro g3 hg3
  refine WL.alloc rfl zero_31 (.none rfl) rfl rfl ?_
  intro g4 hg4
  refine WL.nil ?_
  refine WE.then_n ?_
  refine WC.seq ?_
  refine WC.seq ?_
  refine WC.region ?_
  refine WL.val (v_move rfl rfl) (.none rfl) rfl rfl ?_
  refine WL.nil ?_
  refine WE.then_n ?_
  refine WC.block ?_
  refine WC.loop (fun k : Nat => [(8, .int .i64 k), (2, .pointer (some ⟨g2, 0, none⟩)), (3, .pointer (some ⟨g3, 0, none⟩)), (4, .pointer (some ⟨g4, 0, none⟩))]) (fun k => [.row g4 (hdL Hd.zero), .row g3 (hdL (appK a H k)), .row g2 (acL a)]) (fun k => k ≤ 9) (fun k => 9 - k) 0 (Nat.zero_le _) (.cons rfl (.cons rfl (.cons rfl (.cons rfl .nil)))) (.refl _) ?_
  intro k hk
  refine WC.seq ?_
  refine WC.region ?_
  refine WL.test (v_lss rfl rfl rfl) (.none rfl) rfl rfl (fun h9 => ?_) (fun h9 => ?_)
  · -- 9T
    refine WL.nil ?_
    refine WE.then_n ?_
    refine WC.seq ?_
    refine WC.cond_t rfl ?_
    refine WC.skip ?_
    refine WE.then_n ?_
    refine WC.seq ?_
    refine WC.block ?_
    refine WC.seq ?_
    refine WC.region ?_
    refine WL.val (v_move rfl rfl) (.none rfl) rfl rfl ?_
    refine WL.val (v_assign rfl rfl) (.none rfl) rfl rfl ?_
    refine WL.nil ?_
    refine WE.then_n ?_
    refine WC.seq ?_
    refine WC.seq ?_
    refine WC.region ?_
    refine WL.val (v_loadN rfl rfl many_25 rfl allAt) (.none rfl) rfl rfl ?_
    refine WL.val (v_move rfl rfl) (.none rfl) rfl rfl ?_
    refine WL.call rfl rfl ck_51 (.none rfl) rfl rfl ?_
    intro w hS
    refine Calls.then (sets_c w a k (by omega)) hS ?_
    refine WL.val (v_notD rfl rfl) (.none rfl) rfl rfl ?_
    refine WL.nil ?_
    refine WE.then_n ?_
    refine WC.cond_d rfl (fun h14 => ?_) (fun h14 => ?_)
    · -- 14T
      refine WC.exit ?_
      refine WE.then_exit ?_
      refine WE.block_hit ?_
      refine WE.then_n ?_
      refine WC.region ?_
      refine WL.val (v_add rfl rfl rfl (w_i64 (by omega) (by omega))) (.none rfl) rfl rfl ?_
      refine WL.val (v_move rfl rfl) (.none rfl) rfl rfl ?_
      refine WL.nil ?_
      refine WE.next (k + 1) (by omega) (by omega) (.int rfl (by omega) (.cons rfl (.cons rfl (.cons rfl .nil)))) ?_
      have e : appK a H (k + 1) = appK a H k := (by show (if a.sets k then _ else _) = _; rw [if_neg h14])
      rw [e]
      exact .refl _
    · -- 14F
      refine WC.skip ?_
      refine WE.then_n ?_
      refine WC.seq ?_
      refine WC.orders mixed ?_
      refine WR.first (g := 9) [1, 2, 3, 4] (by kernel_rfl) (by kernel_rfl) ?_
      refine WP.val (v_move rfl rfl) (.none rfl) rfl rfl ?_
      refine WP.val (v_move rfl rfl) (.none rfl) rfl rfl ?_
      refine WP.val (v_fieldAddr0 rfl rfl fld_25_1) (.none rfl) rfl rfl ?_
      refine WP.val (v_indexAddrA (lo := k) rfl rfl rfl Tryd.underlying23 sz_22 (by omega) (by omega)) (.none rfl) rfl rfl ?_
      refine WP.nil ?_
      refine WR.mix (g := 2) 10 [0, 5, 6, 7, 8] [9] rfl zero_31 rfl rfl rfl (by kernel_rfl) (by kernel_rfl) ?_
      refine WM.val (v_loadN rfl rfl many_31 rfl allAt) (.none rfl) rfl rfl ?_
      refine WM.val (v_load1 rfl rfl one_22 (cellAt (acL_get a (by omega)))) (.none rfl) rfl rfl ?_
      refine WM.call _ rfl rfl ck_31 (.none rfl) rfl rfl (fun w hS => (With_c w (appK a H k) k (by omega) (a.val k) (hv.val k).1 (ha.2 k (by omega)).1 (hG.keep (fun h => h) hS))) ?_
      refine WM.val (v_move rfl rfl) (.none rfl) rfl rfl ?_
      refine WM.val (v_extract rfl rfl rfl) (.none rfl) rfl rfl ?_
      refine WM.nil ?_
      refine WP.val (v_extract rfl rfl rfl) (.none rfl) rfl rfl ?_
      refine WP.nilM ?_
      intro g6 hg6
      refine WR.ones (g := 1) [11] (by kernel_rfl) ?_
      refine WL.storeW rfl rfl rfl rfl many_31 rfl rfl (.none rfl) rfl ?_
      refine WL.nilR ?_
      refine WR.first (g := 0) [12] (by kernel_rfl) (by kernel_rfl) ?_
      refine WP.val (v_assign rfl rfl) (.none rfl) rfl rfl ?_
      refine WP.nil ?_
      refine WR.done (by kernel_rfl) ?_
      refine WE.then_n ?_
      refine WC.seq ?_
      refine WC.region ?_
      refine WL.val (v_move rfl rfl) (.none rfl) rfl rfl ?_
      refine WL.val ((v_eql rfl rfl rfl).t (by omega)) (.none rfl) rfl rfl ?_
      refine WL.nil ?_
      refine WE.then_n ?_
      refine WC.cond_t rfl ?_
      refine WC.region ?_
      refine WL.val (v_loadN rfl rfl many_31 rfl allAt) (.none rfl) rfl rfl ?_
      refine WL.storeW rfl rfl rfl rfl many_31 rfl rfl (.none rfl) rfl ?_
      refine WL.nil ?_
      refine WE.block_n ?_
      refine WE.then_n ?_
      refine WC.region ?_
      refine WL.val (v_add rfl rfl rfl (w_i64 (by omega) (by omega))) (.none rfl) rfl rfl ?_
      refine WL.val (v_move rfl rfl) (.none rfl) rfl rfl ?_
      refine WL.nil ?_
      refine WE.next (k + 1) (by omega) (by omega) (.int rfl (by omega) (.cons rfl (.cons rfl (.cons rfl .nil)))) ?_
      have e : appK a H (k + 1) = wthF k (a.val k) (appK a H k) := (by show (if a.sets k then _ else _) = _; rw [if_pos (Classical.not_not.1 h14)])
      rw [e]
      exact .cons _ (.refl _)
  · -- 9F
    refine WL.nil ?_
    refine WE.then_n ?_
    refine WC.seq ?_
    refine WC.cond_f rfl ?_
    refine WC.exit ?_
    refine WE.then_exit ?_
    refine WE.then_exit ?_
    refine WE.block_hit ?_
    refine WE.then_n ?_
    refine WC.seq ?_
    refine WC.region ?_
    refine WL.val (v_loadN rfl rfl many_31 rfl allAt) (.none rfl) rfl rfl ?_
    refine WL.storeW rfl rfl rfl rfl many_31 rfl rfl (.none rfl) rfl ?_
    refine WL.nil ?_
    refine WE.then_n ?_
    refine WC.ret ?_
    refine WE.ret1 (P := Tryd.prog) (.inl rfl) Tryd.results15 (resRow rfl many_31 rfl) ?_
    obtain rfl : k = 9 := (by omega)
    exact fun w' h => ⟨rfl, h.frm⟩
/-- An act, and another one behind it. -/
def Ac.then (a b : Ac) : Ac := ⟨orN a.set b.set, fun k => if b.sets k then b.val k else a.val k⟩
def thenK (a b : Ac) (k i : Nat) : Int := if i < k ∧ b.sets i then b.val i else a.val i
theorem Then_c (w : World) (a b : Ac) (ha : a.Ok) (hb : b.Ok) :
    Calls Tryd.prog 17 #[acV a, acV b] w fun e w' => e = .returned (acV (a.then b)) ∧ Frm (fun _ => False) w w' := by
  have h1 := ha.1
  have h2 := hb.1
  refine enter Tryd.func17 rfl Tryd.ntmps17 rfl (St.start (fun _ => False) w) ?_
  refine WC.seq ?_
  refine WC.region ?_
  refine WL.box rfl rfl rfl (.none rfl) rfl rfl ?_
  intro g2 hg2
  refine WL.box rfl rfl rfl (.none rfl) rfl rfl ?_
  intro g3 hg3
  refine WL.alloc rfl zero_25 (.none rfl) rfl rfl ?_
  intro g4 hg4
  refine WL.nil ?_
  refine WE.then_n ?_
  refine WC.seq ?_
  refine WC.seq ?_
  refine WC.region ?_
  refine WL.val (v_move rfl rfl) (.none rfl) rfl rfl ?_
  refine WL.nil ?_
  refine WE.then_n ?_
  refine WC.block ?_
  refine WC.loop (fun k : Nat => [(6, .int .i64 k), (2, .pointer (some ⟨g2, 0, none⟩)), (3, .pointer (some ⟨g3, 0, none⟩)), (4, .pointer (some ⟨g4, 0, none⟩))]) (fun k => [.row g4 (acL ⟨0, fun _ => 0⟩), .row g3 (acL b), .row g2 (acL ⟨a.set, thenK a b k⟩)]) (fun k => k ≤ 9) (fun k => 9 - k) 0 (Nat.zero_le _) (.cons rfl (.cons rfl (.cons rfl (.cons rfl .nil)))) (.refl _) ?_
  intro k hk
  refine WC.seq ?_
  refine WC.region ?_
  refine WL.test (v_lss rfl rfl rfl) (.none rfl) rfl rfl (fun h7 => ?_) (fun h7 => ?_)
  · -- 7T
    refine WL.nil ?_
    refine WE.then_n ?_
    refine WC.seq ?_
    refine WC.cond_t rfl ?_
    refine WC.skip ?_
    refine WE.then_n ?_
    refine WC.seq ?_
    refine WC.block ?_
    refine WC.seq ?_
    refine WC.region ?_
    refine WL.val (v_move rfl rfl) (.none rfl) rfl rfl ?_
    refine WL.val (v_assign rfl rfl) (.none rfl) rfl rfl ?_
    refine WL.nil ?_
    refine WE.then_n ?_
    refine WC.seq ?_
    refine WC.region ?_
    refine WL.val (v_loadN rfl rfl many_25 rfl allAt) (.none rfl) rfl rfl ?_
    refine WL.val (v_move rfl rfl) (.none rfl) rfl rfl ?_
    refine WL.call rfl rfl ck_51 (.none rfl) rfl rfl ?_
    intro w hS
    refine Calls.then (sets_c w b k (by omega)) hS ?_
    refine WL.nil ?_
    refine WE.then_n ?_
    refine WC.cond_d rfl (fun h11 => ?_) (fun h11 => ?_)
    · -- 11T
      refine WC.region ?_
      refine WL.val (v_move rfl rfl) (.none rfl) rfl rfl ?_
      refine WL.val (v_move rfl rfl) (.none rfl) rfl rfl ?_
      refine WL.val (v_fieldAddr0 rfl rfl fld_25_1) (.none rfl) rfl rfl ?_
      refine WL.val (v_indexAddrA (lo := k) rfl rfl rfl Tryd.underlying23 sz_22 (by omega) (by omega)) (.none rfl) rfl rfl ?_
      refine WL.val (v_load1 rfl rfl one_22 (cellAt (acL_get b (by omega)))) (.none rfl) rfl rfl ?_
      refine WL.val (v_fieldAddr0 rfl rfl fld_25_1) (.none rfl) rfl rfl ?_
      refine WL.val (v_indexAddrA (lo := k) rfl rfl rfl Tryd.underlying23 sz_22 (by omega) (by omega)) (.none rfl) rfl rfl ?_
      refine WL.store1 rfl rfl rfl rfl one_22 (by show 1 + k * 1 < (acL _).length; unfold acL; rw [List.length_cons, ucs_len]; omega) (.none rfl) rfl ?_
      refine WL.nil ?_
      refine WE.block_n ?_
      refine WE.then_n ?_
      refine WC.region ?_
      refine WL.val (v_add rfl rfl rfl (w_i64 (by omega) (by omega))) (.none rfl) rfl rfl ?_
      refine WL.val (v_move rfl rfl) (.none rfl) rfl rfl ?_
      refine WL.nil ?_
      refine WE.as (L' := [.row g4 (acL ⟨0, fun _ => 0⟩), .row g3 (acL b), .row g2 (acL ⟨a.set, thenK a b (k + 1)⟩)]) ?_ (WE.next (k + 1) (by omega) (by omega) (.int rfl (by omega) (.cons rfl (.cons rfl (.cons rfl .nil)))) (.refl _))
      have e : (acL ⟨a.set, thenK a b k⟩).set (1 + k * 1) (.int .u64 (b.val k)) = acL ⟨a.set, thenK a b (k + 1)⟩ := (by
        rw [show 1 + k * 1 = k + 1 by omega]
        unfold acL
        rw [List.set_cons_succ, ucs_set (by omega)]
        congr 1
        refine ucs_congr fun i hi => ?_
        dsimp only
        unfold thenK
        by_cases e : i = k
        · subst e; rw [if_pos rfl, if_pos ⟨by omega, h11⟩]
        · rw [if_neg e]
          by_cases e2 : i < k ∧ b.sets i
          · rw [if_pos e2, if_pos ⟨by omega, e2.2⟩]
          · rw [if_neg e2, if_neg (fun q => e2 ⟨by omega, q.2⟩)])
      rw [e]
    · -- 11F
      refine WC.skip ?_
      refine WE.block_n ?_
      refine WE.then_n ?_
      refine WC.region ?_
      refine WL.val (v_add rfl rfl rfl (w_i64 (by omega) (by omega))) (.none rfl) rfl rfl ?_
      refine WL.val (v_move rfl rfl) (.none rfl) rfl rfl ?_
      refine WL.nil ?_
      refine WE.as (L' := [.row g4 (acL ⟨0, fun _ => 0⟩), .row g3 (acL b), .row g2 (acL ⟨a.set, thenK a b (k + 1)⟩)]) ?_ (WE.next (k + 1) (by omega) (by omega) (.int rfl (by omega) (.cons rfl (.cons rfl (.cons rfl .nil)))) (.refl _))
      have e : acL ⟨a.set, thenK a b k⟩ = acL ⟨a.set, thenK a b (k + 1)⟩ := (by
        unfold acL
        congr 1
        refine ucs_congr fun i hi => ?_
        dsimp only
        unfold thenK
        by_cases e2 : i < k ∧ b.sets i
        · rw [if_pos e2, if_pos ⟨by omega, e2.2⟩]
        · rw [if_neg e2, if_neg (fun q => by
            by_cases e : i = k
            · subst e; exact h11 q.2
            · exact e2 ⟨by omega, q.2⟩)])
      rw [e]
  · -- 7F
    refine WL.nil ?_
    refine WE.then_n ?_
    refine WC.seq ?_
    refine WC.cond_f rfl ?_
    refine WC.exit ?_
    refine WE.then_exit ?_
    refine WE.then_exit ?_
    refine WE.block_hit ?_
    refine WE.then_n ?_
    refine WC.seq ?_
    refine WC.region ?_
    refine WL.val (v_fieldAddr0 rfl rfl fld_25_0) (.none rfl) rfl rfl ?_
    refine WL.val (v_load1 rfl rfl one_3 (cellAt rfl)) (.none rfl) rfl rfl ?_
    refine WL.val (v_fieldAddr0 rfl rfl fld_25_0) (.none rfl) rfl rfl ?_
    refine WL.val (v_load1 rfl rfl one_3 (cellAt rfl)) (.none rfl) rfl rfl ?_
    refine WL.val (v_or rfl rfl rfl (bits_or_i64 (x := a.set) (y := b.set) h1.1 (by omega) h2.1 (by omega))) (.none rfl) rfl rfl ?_
    refine WL.val (v_fieldAddr0 rfl rfl fld_25_0) (.none rfl) rfl rfl ?_
    refine WL.store1 rfl rfl rfl rfl one_3 (Nat.le_of_ble_eq_true rfl) (.none rfl) rfl ?_
    have e9 : (acL ⟨a.set, thenK a b k⟩).set 0 (.int .i64 (orN a.set b.set)) = acL (a.then b) := (by
      obtain rfl : k = 9 := (by omega)
      show _ :: _ = _ :: _
      congr 1
      refine ucs_congr fun i hi => ?_
      show thenK a b 9 i = (if b.sets i then _ else _)
      unfold thenK
      by_cases e2 : b.sets i
      · rw [if_pos e2, if_pos ⟨hi, e2⟩]
      · rw [if_neg e2, if_neg (fun q => e2 q.2)])
    refine WL.as (L' := [.row g4 (acL ⟨0, fun _ => 0⟩), .row g3 (acL b), .row g2 (acL (a.then b))]) (by rw [← e9]) ?_
    refine WL.nil ?_
    refine WE.then_n ?_
    refine WC.seq ?_
    refine WC.region ?_
    refine WL.val (v_loadN rfl rfl many_25 rfl allAt) (.none rfl) rfl rfl ?_
    refine WL.storeW rfl rfl rfl rfl many_25 rfl rfl (.none rfl) rfl ?_
    refine WL.nil ?_
    refine WE.then_n ?_
    refine WC.ret ?_
    refine WE.ret1 (P := Tryd.prog) (.inl rfl) Tryd.results17 (resRow rfl many_25 rfl) ?_
    exact fun w' h => ⟨rfl, h.frm⟩
end Go.Proofs.YtodaanhhnjkncaaDoor
