/- Texts joined: engine, contracts and laws, in the order in which they build. -/
import Derived.Shelf.SlSortCmp.InsertionK
import Derived.Shelf.SlLaysF0
import Derived.Shelf.SlSortCmp.WholeK
import Derived.Lib.MakeNoZero
import Derived.Shelf.SlSortCmp.NoneTotal
import Derived.OrdersHeld
import Derived.Scope
import Derived.DeepKeys3
import Derived.Test.YtkeonnnhogaggaaGreatDoorBaJoinWeighs
/- rules: acts. -/
namespace Go.Proofs.YtkeonnnhogaggaaGreatDoor
open Go.RowKit

structure Ac where
  set : Int
  val : Nat → Int
/-- u64 cells. -/
def ucs (f : Nat → Int) (n : Nat) : List Value := (List.range n).map fun i => .int .u64 (f i)
theorem ucs_len (f : Nat → Int) (n : Nat) : (ucs f n).length = n := by simp [ucs]
theorem ucs_get (f : Nat → Int) {n i : Nat} (h : i < n) : (ucs f n)[i]? = some (.int .u64 (f i)) := by simp [ucs, h]
theorem ucs_set {f : Nat → Int} {n j : Nat} {x : Int} (h : j < n) : (ucs f n).set j (.int .u64 x) = ucs (fun i => if i = j then x else f i) n := by
  apply List.ext_getElem?
  intro i
  rw [List.getElem?_set, ucs_len]
  by_cases h1 : j = i
  · subst h1; rw [if_pos rfl, if_pos h, ucs_get _ h, if_pos rfl]
  · rw [if_neg h1]
    by_cases hi : i < n
    · rw [ucs_get _ hi, ucs_get _ hi, if_neg (by omega)]
    · rw [List.getElem?_eq_none (by rw [ucs_len]; omega), List.getElem?_eq_none (by rw [ucs_len]; omega)]
theorem ucs_congr {f g : Nat → Int} {n : Nat} (h : ∀ i, i < n → f i = g i) : ucs f n = ucs g n := by
  unfold ucs
  apply List.map_congr_left
  intro i hi
  rw [h i (List.mem_range.1 hi)]
def acL (a : Ac) : List Value := .int .i64 a.set :: ucs a.val 9
def acV (a : Ac) : Value := .agg (acL a).toArray
theorem acL_get (a : Ac) {k : Nat} (h : k < 9) : (acL a)[1 + k * 1]? = some (.int .u64 (a.val k)) := by
  rw [show 1 + k * 1 = k + 1 by omega]; exact ucs_get _ h
structure Ac.In (a : Ac) : Prop where
  set : -9223372036854775808 ≤ a.set ∧ a.set ≤ 9223372036854775807
  val : ∀ k, 0 ≤ a.val k ∧ a.val k ≤ 18446744073709551615
/-- The act sets the field. -/
def Ac.sets (a : Ac) (k : Nat) : Prop := a.set / 2 ^ k % 2 = 1
instance (a : Ac) (k : Nat) : Decidable (a.sets k) := by unfold Ac.sets; infer_instance
/-- The act is in its form. -/
def Ac.Ok (a : Ac) : Prop := (0 ≤ a.set ∧ a.set ≤ 511) ∧ ∀ k, k < 9 → a.val k ≤ fullI k ∧ (a.val k ≠ 0 → a.sets k)
instance (a : Ac) : Decidable a.Ok := by unfold Ac.Ok; infer_instance
theorem sets_c (w : World) (a : Ac) (k : Nat) (hk : k < 9) :
    Calls Tryz.prog 125 #[acV a, .int .i64 k] w fun e w' => e = .returned (.bool (decide (a.sets k))) ∧ Frm (fun _ => False) w w' := by
  refine enter Tryz.func125 rfl Tryz.ntmps125 rfl (St.start (fun _ => False) w) ?_
  refine WC.seq <| WC.region <| WL.box rfl rfl rfl (.none rfl) rfl rfl <| ?_
  intro g2 hg2
  refine WL.v (v_assign rfl rfl) rfl <| WL.nt <| WC.seq <| WC.region <| WL.v (v_fieldAddr0 rfl rfl fld_110_0) rfl <| WL.v (v_load1 rfl rfl one_3 (cellAt rfl)) rfl <| WL.v (v_move rfl rfl) rfl <| ?_
  refine WL.v (v_shr (m := k) (c := (2 : Int) ^ k) rfl rfl rfl rfl (by show k ≤ 64; omega) rfl) rfl ?_
  refine WL.v (v_and rfl rfl rfl (mask_i64' (i := 1) (m := 2) (by decide) (by decide) (by decide))) rfl ?_
  refine WL.v (v_eql rfl rfl rfl) rfl <| WL.v (v_assign rfl rfl) rfl <| WL.nt <| WC.ret <| WE.ret1 (P := Tryz.prog) (.inl rfl) Tryz.results125 rfl <| ?_
  exact fun w' h => ⟨rfl, h.frm⟩
/-- What an act's first k make of a header. -/
def appK (a : Ac) (H : Hd) : Nat → Hd | 0 => H | k + 1 => if a.sets k then wthF k (a.val k) (appK a H k) else appK a H k
set_option maxHeartbeats 1000000 in
theorem Apply_c (w : World) (a : Ac) (H : Hd) (hv : a.In) (ha : a.Ok) (hG : GW w) :
    Calls Tryz.prog 82 #[acV a, .agg (hdCells H)] w fun e w' => e = .returned (.agg (hdCells (appK a H 9))) ∧ Frm (fun _ => False) w w' := by
  refine enter Tryz.func82 rfl Tryz.ntmps82 rfl (St.start (fun _ => False) w) ?_
  refine WC.seq <| WC.region <| WL.box rfl rfl rfl (.none rfl) rfl rfl <| ?_
  intro g2 hg2
  refine WL.box rfl rfl rfl (.none rfl) rfl rfl ?_
  intro g3 hg3
  refine WL.alloc rfl zero_59 (.none rfl) rfl rfl ?_
  intro g4 hg4
  refine WL.nt <| WC.seq <| WC.seq <| WC.region <| WL.v (v_move rfl rfl) rfl <| WL.nt <| WC.block <| WC.loop (fun k : Nat => [(8, .int .i64 k), (2, .pointer (some ⟨g2, 0, none⟩)), (3, .pointer (some ⟨g3, 0, none⟩)), (4, .pointer (some ⟨g4, 0, none⟩))]) (fun k => [.row g4 (hdL Hd.zero), .row g3 (hdL (appK a H k)), .row g2 (acL a)]) (fun k => k ≤ 9) (fun k => 9 - k) 0 (Nat.zero_le _) (.cons rfl (.cons rfl (.cons rfl (.cons rfl .nil)))) (.refl _) <| ?_
  intro k hk
  refine WC.seq <| WC.region <| ?_
  refine WL.test (v_lss rfl rfl rfl) (.none rfl) rfl rfl (fun h9 => ?_) (fun h9 => ?_)
  ·
   refine WL.nt <| WC.seq <| WC.cond_t rfl <| WC.skip <| WE.then_n <| WC.seq <| WC.block <| WC.seq <| WC.region <| WL.v (v_move rfl rfl) rfl <| WL.v (v_assign rfl rfl) rfl <| WL.nt <| WC.seq <| WC.seq <| ?_
   refine WC.region <| WL.v (v_loadN rfl rfl many_110 rfl allAt) rfl <| WL.v (v_move rfl rfl) rfl <| WL.call rfl rfl ck_125 (.none rfl) rfl rfl <| ?_
   intro w hS
   refine Calls.then (sets_c w a k (by omega)) hS ?_
   refine WL.v (v_notD rfl rfl) rfl <| WL.nt <| ?_
   refine WC.cond_d rfl (fun h14 => ?_) (fun h14 => ?_)
   ·
    refine WC.exit <| WE.then_exit <| WE.block_hit <| WE.then_n <| WC.region <| ?_
    refine WL.v (v_add rfl rfl rfl (w_i64 (by omega) (by omega))) rfl ?_
    refine WL.v (v_move rfl rfl) rfl <| WL.nil <| ?_
    refine WE.next (k + 1) (by omega) (by omega) (.int rfl (by omega) (.cons rfl (.cons rfl (.cons rfl .nil)))) ?_
    have e : appK a H (k + 1) = appK a H k := (by show (if a.sets k then _ else _) = _; rw [if_neg h14])
    rw [e]
    exact .refl _
   ·
    refine WC.skip <| WE.then_n <| WC.seq <| WC.orders mixed <| ?_
    refine WR.first (g := 9) [1, 2, 3, 4] (by kernel_rfl) (by kernel_rfl) ?_
    refine WP.val (v_move rfl rfl) (.none rfl) rfl rfl <| WP.val (v_move rfl rfl) (.none rfl) rfl rfl <| WP.val (v_fieldAddr0 rfl rfl fld_110_1) (.none rfl) rfl rfl <| ?_
    refine WP.val (v_indexAddrA (lo := k) rfl rfl rfl Tryz.underlying108 sz_23 (by omega) (by omega)) (.none rfl) rfl rfl ?_
    refine WP.nil ?_
    refine WR.mix (g := 2) 10 [0, 5, 6, 7, 8] [9] rfl zero_59 rfl rfl rfl (by kernel_rfl) (by kernel_rfl) ?_
    refine WM.val (v_loadN rfl rfl many_59 rfl allAt) (.none rfl) rfl rfl ?_
    refine WM.val (v_load1 rfl rfl one_23 (cellAt (acL_get a (by omega)))) (.none rfl) rfl rfl ?_
    refine WM.call _ rfl rfl ck_126 (.none rfl) rfl rfl (fun w hS => (With_c w (appK a H k) k (by omega) (a.val k) (hv.val k).1 (ha.2 k (by omega)).1 (hG.keep (fun h => h) hS))) ?_
    refine WM.val (v_move rfl rfl) (.none rfl) rfl rfl <| WM.val (v_extract rfl rfl rfl) (.none rfl) rfl rfl <| WM.nil <| WP.val (v_extract rfl rfl rfl) (.none rfl) rfl rfl <| WP.nilM <| ?_
    intro g6 hg6
    refine WR.ones (g := 1) [11] (by kernel_rfl) ?_
    refine WL.storeW rfl rfl rfl rfl many_59 rfl rfl (.none rfl) rfl <| WL.nilR <| ?_
    refine WR.first (g := 0) [12] (by kernel_rfl) (by kernel_rfl) ?_
    refine WP.val (v_assign rfl rfl) (.none rfl) rfl rfl <| WP.nil <| ?_
    refine WR.done (by kernel_rfl) ?_
    refine WE.then_n <| WC.seq <| WC.region <| WL.v (v_move rfl rfl) rfl <| ?_
    refine WL.v ((v_eql rfl rfl rfl).t (by omega)) rfl ?_
    refine WL.nt <| WC.cond_t rfl <| WC.region <| WL.v (v_loadN rfl rfl many_59 rfl allAt) rfl <| WL.storeW rfl rfl rfl rfl many_59 rfl rfl (.none rfl) rfl <| WL.nil <| WE.block_n <| WE.then_n <| WC.region <| ?_
    refine WL.v (v_add rfl rfl rfl (w_i64 (by omega) (by omega))) rfl ?_
    refine WL.v (v_move rfl rfl) rfl <| WL.nil <| ?_
    refine WE.next (k + 1) (by omega) (by omega) (.int rfl (by omega) (.cons rfl (.cons rfl (.cons rfl .nil)))) ?_
    have e : appK a H (k + 1) = wthF k (a.val k) (appK a H k) := (by show (if a.sets k then _ else _) = _; rw [if_pos (Classical.not_not.1 h14)])
    rw [e]
    exact .cons _ (.refl _)
  ·
   refine WL.nt <| WC.seq <| WC.cond_f rfl <| WC.exit <| WE.then_exit <| WE.then_exit <| WE.block_hit <| WE.then_n <| WC.seq <| WC.region <| WL.v (v_loadN rfl rfl many_59 rfl allAt) rfl <| WL.storeW rfl rfl rfl rfl many_59 rfl rfl (.none rfl) rfl <| WL.nt <| WC.ret <| ?_
   refine WE.ret1 (P := Tryz.prog) (.inl rfl) Tryz.results82 (resRow rfl many_59 rfl) ?_
   obtain rfl : k = 9 := (by omega)
   exact fun w' h => ⟨rfl, h.frm⟩
/-- An act, and another one behind it. -/
def Ac.then (a b : Ac) : Ac := ⟨orN a.set b.set, fun k => if b.sets k then b.val k else a.val k⟩
def thenK (a b : Ac) (k i : Nat) : Int := if i < k ∧ b.sets i then b.val i else a.val i
theorem Then_c (w : World) (a b : Ac) (ha : a.Ok) (hb : b.Ok) :
    Calls Tryz.prog 197 #[acV a, acV b] w fun e w' => e = .returned (acV (a.then b)) ∧ Frm (fun _ => False) w w' := by
  have h1 := ha.1
  have h2 := hb.1
  refine enter Tryz.func197 rfl Tryz.ntmps197 rfl (St.start (fun _ => False) w) ?_
  refine WC.seq <| WC.region <| WL.box rfl rfl rfl (.none rfl) rfl rfl <| ?_
  intro g2 hg2
  refine WL.box rfl rfl rfl (.none rfl) rfl rfl ?_
  intro g3 hg3
  refine WL.alloc rfl zero_110 (.none rfl) rfl rfl ?_
  intro g4 hg4
  refine WL.nt <| WC.seq <| WC.seq <| WC.region <| WL.v (v_move rfl rfl) rfl <| WL.nt <| WC.block <| WC.loop (fun k : Nat => [(6, .int .i64 k), (2, .pointer (some ⟨g2, 0, none⟩)), (3, .pointer (some ⟨g3, 0, none⟩)), (4, .pointer (some ⟨g4, 0, none⟩))]) (fun k => [.row g4 (acL ⟨0, fun _ => 0⟩), .row g3 (acL b), .row g2 (acL ⟨a.set, thenK a b k⟩)]) (fun k => k ≤ 9) (fun k => 9 - k) 0 (Nat.zero_le _) (.cons rfl (.cons rfl (.cons rfl (.cons rfl .nil)))) (.refl _) <| ?_
  intro k hk
  refine WC.seq <| WC.region <| ?_
  refine WL.test (v_lss rfl rfl rfl) (.none rfl) rfl rfl (fun h7 => ?_) (fun h7 => ?_)
  ·
   refine WL.nt <| WC.seq <| WC.cond_t rfl <| WC.skip <| WE.then_n <| WC.seq <| WC.block <| WC.seq <| WC.region <| WL.v (v_move rfl rfl) rfl <| WL.v (v_assign rfl rfl) rfl <| WL.nt <| WC.seq <| WC.region <| ?_
   refine WL.v (v_loadN rfl rfl many_110 rfl allAt) rfl <| WL.v (v_move rfl rfl) rfl <| WL.call rfl rfl ck_125 (.none rfl) rfl rfl <| ?_
   intro w hS
   refine Calls.then (sets_c w b k (by omega)) hS ?_
   refine WL.nt ?_
   refine WC.cond_d rfl (fun h11 => ?_) (fun h11 => ?_)
   ·
    refine WC.region <| WL.v (v_move rfl rfl) rfl <| WL.v (v_move rfl rfl) rfl <| WL.v (v_fieldAddr0 rfl rfl fld_110_1) rfl <| ?_
    refine WL.v (v_indexAddrA (lo := k) rfl rfl rfl Tryz.underlying108 sz_23 (by omega) (by omega)) rfl ?_
    refine WL.v (v_load1 rfl rfl one_23 (cellAt (acL_get b (by omega)))) rfl ?_
    refine WL.v (v_fieldAddr0 rfl rfl fld_110_1) rfl ?_
    refine WL.v (v_indexAddrA (lo := k) rfl rfl rfl Tryz.underlying108 sz_23 (by omega) (by omega)) rfl ?_
    refine WL.store1 rfl rfl rfl rfl one_23 (by show 1 + k * 1 < (acL _).length; unfold acL; rw [List.length_cons, ucs_len]; omega) (.none rfl) rfl ?_
    refine WL.nil <| WE.block_n <| WE.then_n <| WC.region <| ?_
    refine WL.v (v_add rfl rfl rfl (w_i64 (by omega) (by omega))) rfl ?_
    refine WL.v (v_move rfl rfl) rfl <| WL.nil <| ?_
    refine WE.as (L' := [.row g4 (acL ⟨0, fun _ => 0⟩), .row g3 (acL b), .row g2 (acL ⟨a.set, thenK a b (k + 1)⟩)]) ?_ (WE.next (k + 1) (by omega) (by omega) (.int rfl (by omega) (.cons rfl (.cons rfl (.cons rfl .nil)))) (.refl _))
    have e : (acL ⟨a.set, thenK a b k⟩).set (1 + k * 1) (.int .u64 (b.val k)) = acL ⟨a.set, thenK a b (k + 1)⟩ := (by
      rw [show 1 + k * 1 = k + 1 by omega]
      unfold acL
      rw [List.set_cons_succ, ucs_set (by omega)]
      congr 1
      refine ucs_congr fun i hi => ?_
      dsimp only
      unfold thenK
      by_cases e : i = k
      · subst e; rw [if_pos rfl, if_pos ⟨by omega, h11⟩]
      · rw [if_neg e]
        by_cases e2 : i < k ∧ b.sets i
        · rw [if_pos e2, if_pos ⟨by omega, e2.2⟩]
        · rw [if_neg e2, if_neg (fun q => e2 ⟨by omega, q.2⟩)])
    rw [e]
   ·
    refine WC.skip <| WE.block_n <| WE.then_n <| WC.region <| ?_
    refine WL.v (v_add rfl rfl rfl (w_i64 (by omega) (by omega))) rfl ?_
    refine WL.v (v_move rfl rfl) rfl <| WL.nil <| ?_
    refine WE.as (L' := [.row g4 (acL ⟨0, fun _ => 0⟩), .row g3 (acL b), .row g2 (acL ⟨a.set, thenK a b (k + 1)⟩)]) ?_ (WE.next (k + 1) (by omega) (by omega) (.int rfl (by omega) (.cons rfl (.cons rfl (.cons rfl .nil)))) (.refl _))
    have e : acL ⟨a.set, thenK a b k⟩ = acL ⟨a.set, thenK a b (k + 1)⟩ := (by
      unfold acL
      congr 1
      refine ucs_congr fun i hi => ?_
      dsimp only
      unfold thenK
      by_cases e2 : i < k ∧ b.sets i
      · rw [if_pos e2, if_pos ⟨by omega, e2.2⟩]
      · rw [if_neg e2, if_neg (fun q => by
          by_cases e : i = k
          · subst e; exact h11 q.2
          · exact e2 ⟨by omega, q.2⟩)])
    rw [e]
  ·
   refine WL.nt <| WC.seq <| WC.cond_f rfl <| WC.exit <| WE.then_exit <| WE.then_exit <| WE.block_hit <| WE.then_n <| WC.seq <| WC.region <| WL.v (v_fieldAddr0 rfl rfl fld_110_0) rfl <| WL.v (v_load1 rfl rfl one_3 (cellAt rfl)) rfl <| WL.v (v_fieldAddr0 rfl rfl fld_110_0) rfl <| WL.v (v_load1 rfl rfl one_3 (cellAt rfl)) rfl <| ?_
   refine WL.v (v_or rfl rfl rfl (bits_or_i64 (x := a.set) (y := b.set) h1.1 (by omega) h2.1 (by omega))) rfl ?_
   refine WL.v (v_fieldAddr0 rfl rfl fld_110_0) rfl <| WL.store1 rfl rfl rfl rfl one_3 (Nat.le_of_ble_eq_true rfl) (.none rfl) rfl <| ?_
   have e9 : (acL ⟨a.set, thenK a b k⟩).set 0 (.int .i64 (orN a.set b.set)) = acL (a.then b) := (by
     obtain rfl : k = 9 := (by omega)
     show _ :: _ = _ :: _
     congr 1
     refine ucs_congr fun i hi => ?_
     show thenK a b 9 i = (if b.sets i then _ else _)
     unfold thenK
     by_cases e2 : b.sets i
     · rw [if_pos e2, if_pos ⟨hi, e2⟩]
     · rw [if_neg e2, if_neg (fun q => e2 q.2)])
   refine WL.as (L' := [.row g4 (acL ⟨0, fun _ => 0⟩), .row g3 (acL b), .row g2 (acL (a.then b))]) (by rw [← e9]) ?_
   refine WL.nt <| WC.seq <| WC.region <| WL.v (v_loadN rfl rfl many_110 rfl allAt) rfl <| WL.storeW rfl rfl rfl rfl many_110 rfl rfl (.none rfl) rfl <| WL.nt <| WC.ret <| WE.ret1 (P := Tryz.prog) (.inl rfl) Tryz.results197 (resRow rfl many_110 rfl) <| ?_
   exact fun w' h => ⟨rfl, h.frm⟩
end Go.Proofs.YtkeonnnhogaggaaGreatDoor
/- rules.Act.Cmp. -/
namespace Go.Proofs.YtkeonnnhogaggaaGreatDoor
open Go.RowKit

theorem isNaNI_c (w : World) (x : Int) : Calls Tryz.prog 146 #[.int .i64 x] w fun e w' => e = .returned (.bool false) ∧ Frm (fun _ => False) w w' := by
  refine enter Tryz.func146 rfl Tryz.ntmps146 rfl (St.start (fun _ => False) w) ?_
  refine WC.seq <| WC.region <| WL.v (v_assign rfl rfl) rfl <| WL.nt <| WC.seq <| WC.region <| WL.v (v_move rfl rfl) rfl <| WL.v (v_move rfl rfl) rfl <| WL.v ((v_neq rfl rfl rfl).f (fun h => h rfl)) rfl <| WL.v (v_assign rfl rfl) rfl <| WL.nt <| WC.ret <| WE.ret1 (P := Tryz.prog) (.inl rfl) Tryz.results146 rfl <| ?_
  exact fun w' h => ⟨rfl, h.frm⟩
theorem CmpI_c (w : World) (x y : Int) : Calls Tryz.prog 106 #[.int .i64 x, .int .i64 y] w fun e w' => e = .returned (.int .i64 (cmpI x y)) ∧ Frm (fun _ => False) w w' := by
  refine enter Tryz.func106 rfl Tryz.ntmps106 rfl (St.start (fun _ => False) w) ?_
  refine WC.seq <| WC.region <| WL.v (v_assign rfl rfl) rfl <| WL.nt <| WC.seq <| WC.region <| WL.v (v_move rfl rfl) rfl <| WL.call rfl rfl ck_146 (.none rfl) rfl rfl <| ?_
  intro w hS
  refine Calls.then (isNaNI_c w x) hS ?_
  refine WL.v (v_assign rfl rfl) rfl <| WL.nt <| WC.seq <| WC.region <| WL.v (v_move rfl rfl) rfl <| WL.call rfl rfl ck_146 (.none rfl) rfl rfl <| ?_
  intro w hS
  refine Calls.then (isNaNI_c w y) hS ?_
  refine WL.v (v_assign rfl rfl) rfl <| WL.nt <| WC.seq <| WC.seq <| WC.region <| WL.v (v_move rfl rfl) rfl <| WL.nt <| WC.cond_f rfl <| WC.skip <| WE.then_n <| WC.seq <| WC.seq <| WC.region <| WL.v (v_move rfl rfl) rfl <| ?_
  refine WL.nt <| WC.cond_f rfl <| WC.skip <| WE.then_n <| WC.seq <| WC.seq <| WC.region <| WL.v (v_move rfl rfl) rfl <| WL.v (v_move rfl rfl) rfl <| ?_
  refine WL.test (v_lss rfl rfl rfl) (.none rfl) rfl rfl (fun h16 => ?_) (fun h16 => ?_)
  ·
   refine WL.nt <| WC.cond_t rfl <| WC.seq <| WC.region <| WL.v (v_assign rfl rfl) rfl <| WL.nt <| WC.ret <| WE.then_ret <| WE.ret1 (P := Tryz.prog) (.inl rfl) Tryz.results106 rfl <| ?_
   exact fun w' h => ⟨by unfold cmpI; rw [if_pos h16], h.frm⟩
  ·
   refine WL.nt <| WC.cond_f rfl <| WC.skip <| WE.then_n <| WC.seq <| WC.seq <| WC.region <| WL.v (v_move rfl rfl) rfl <| WL.v (v_move rfl rfl) rfl <| ?_
   refine WL.test (v_gtr rfl rfl rfl) (.none rfl) rfl rfl (fun h19 => ?_) (fun h19 => ?_)
   ·
    refine WL.nt <| WC.cond_t rfl <| WC.seq <| WC.region <| WL.v (v_assign rfl rfl) rfl <| WL.nt <| WC.ret <| WE.then_ret <| WE.ret1 (P := Tryz.prog) (.inl rfl) Tryz.results106 rfl <| ?_
    exact fun w' h => ⟨by unfold cmpI; rw [if_neg h16, if_pos h19], h.frm⟩
   ·
    refine WL.nt <| WC.cond_f rfl <| WC.skip <| WE.then_n <| WC.seq <| WC.region <| WL.v (v_assign rfl rfl) rfl <| WL.nt <| WC.ret <| WE.ret1 (P := Tryz.prog) (.inl rfl) Tryz.results106 rfl <| ?_
    exact fun w' h => ⟨by unfold cmpI; rw [if_neg h16, if_neg h19], h.frm⟩
/-- The first that is not 0, of so many. -/
def lexK (f g : Nat → Int) : Nat → Int | 0 => 0 | k + 1 => if lexK f g k ≠ 0 then lexK f g k else cmpI (f k) (g k)
theorem lexK_stays {f g : Nat → Int} {k : Nat} (h : lexK f g k ≠ 0) : ∀ j, lexK f g (k + j) = lexK f g k
  | 0 => rfl
  | j + 1 => by
    have := lexK_stays h j
    show (if lexK f g (k + j) ≠ 0 then lexK f g (k + j) else _) = _
    rw [this, if_pos h]
theorem SCmp_c (w : World) (b b' o o' : Nat) (f g : Nat → Int) (hf : ∀ i, i < 9 → w.cell? ⟨b, o + i * 1, none⟩ = some (.int .u64 (f i))) (hg : ∀ i, i < 9 → w.cell? ⟨b', o' + i * 1, none⟩ = some (.int .u64 (g i))) :
    Calls Tryz.prog 143 #[.slice (some ⟨b, o, none⟩) 9 9, .slice (some ⟨b', o', none⟩) 9 9] w fun e w' => e = .returned (.int .i64 (lexK f g 9)) ∧ Frm (fun _ => False) w w' := by
  refine enter Tryz.func143 rfl Tryz.ntmps143 rfl (St.start (fun _ => False) w) ?_
  refine WC.seq <| WC.region <| WL.v (v_assign rfl rfl) rfl <| WL.nt <| WC.seq <| WC.seq <| WC.region <| WL.v (v_move rfl rfl) rfl <| WL.v (v_len_slice rfl rfl Tryz.underlying208) rfl <| WL.v (v_move rfl rfl) rfl <| WL.nt <| WC.block <| WC.loop (fun k : Nat => [(11, .int .i64 k), (10, .int .i64 9), (9, .slice (some ⟨b, o, none⟩) 9 9), (1, .slice (some ⟨b', o', none⟩) 9 9), (0, .slice (some ⟨b, o, none⟩) 9 9)]) (fun _ => []) (fun k => k ≤ 9 ∧ lexK f g k = 0) (fun k => 9 - k) 0 ⟨Nat.zero_le _, rfl⟩ (.cons rfl (.cons rfl (.cons rfl (.cons rfl (.cons rfl .nil))))) (.refl _) <| ?_
  rintro k ⟨hk, h0⟩
  refine WC.seq <| WC.region <| ?_
  refine WL.test (v_lss rfl rfl rfl) (.none rfl) rfl rfl (fun h12 => ?_) (fun h12 => ?_)
  ·
   refine WL.nt <| WC.seq <| WC.cond_t rfl <| WC.skip <| WE.then_n <| WC.seq <| WC.block <| WC.seq <| WC.region <| WL.v (v_move rfl rfl) rfl <| ?_
   refine WL.v (v_indexAddr (lo := k) rfl rfl rfl Tryz.underlying208 sz_23 (by omega) (by omega)) rfl ?_
   refine WL.v (v_load1 rfl rfl one_23 (cellOld (fun h => h) (hf k (by omega)))) rfl ?_
   refine WL.v (v_assign rfl rfl) rfl <| WL.v (v_assign rfl rfl) rfl <| WL.nt <| WC.seq <| WC.seq <| WC.region <| WL.v (v_move rfl rfl) rfl <| WL.v (v_move rfl rfl) rfl <| WL.v (v_len_slice rfl rfl Tryz.underlying208) rfl <| ?_
   refine WL.v ((v_geq rfl rfl rfl).f (by omega)) rfl ?_
   refine WL.nt <| WC.cond_f rfl <| WC.skip <| WE.then_n <| WC.seq <| WC.region <| WL.v (v_move rfl rfl) rfl <| WL.v (v_move rfl rfl) rfl <| ?_
   refine WL.v (v_indexAddr (lo := k) rfl rfl rfl Tryz.underlying208 sz_23 (by omega) (by omega)) rfl ?_
   refine WL.v (v_load1 rfl rfl one_23 (cellOld (fun h => h) (hg k (by omega)))) rfl ?_
   refine WL.v (v_assign rfl rfl) rfl <| WL.nt <| WC.seq <| WC.region <| WL.v (v_move rfl rfl) rfl <| WL.v (v_move rfl rfl) rfl <| WL.call rfl rfl ck_121 (.none rfl) rfl rfl <| ?_
   intro w hS
   refine Calls.then (CmpU_c w (f k) (g k)) hS ?_
   refine WL.v (v_assign rfl rfl) rfl <| WL.nt <| WC.seq <| WC.region <| WL.v (v_move rfl rfl) rfl <| ?_
   refine WL.test (v_neq rfl rfl rfl) (.none rfl) rfl rfl (fun h28 => ?_) (fun h28 => ?_)
   ·
    refine WL.nt <| WC.cond_t rfl <| WC.seq <| WC.region <| WL.v (v_move rfl rfl) rfl <| WL.v (v_assign rfl rfl) rfl <| WL.nt <| WC.ret <| WE.block_ret <| WE.then_ret <| WE.then_ret <| WE.block_ret <| WE.then_ret <| WE.ret1 (P := Tryz.prog) (.inl rfl) Tryz.results143 rfl <| ?_
    have e1 : lexK f g (k + 1) = cmpI (f k) (g k) := (by show (if _ then _ else _) = _; rw [if_neg (by omega)])
    have e2 := lexK_stays (f := f) (g := g) (k := k + 1) (by rw [e1]; exact h28) (8 - k)
    rw [show k + 1 + (8 - k) = 9 by omega] at e2
    exact fun w' h => ⟨by rw [e2, e1], h.frm⟩
   ·
    refine WL.nt <| WC.cond_f rfl <| WC.skip <| WE.block_n <| WE.then_n <| WC.region <| ?_
    refine WL.v (v_add rfl rfl rfl (w_i64 (by omega) (by omega))) rfl ?_
    refine WL.v (v_move rfl rfl) rfl <| WL.nil <| ?_
    exact WE.next (k + 1) (by omega) ⟨by omega, by show (if _ then _ else _) = _; rw [if_neg (by omega)]; exact Classical.not_not.1 h28⟩ (.int rfl (by omega) (.cons rfl (.cons rfl (.cons rfl (.cons rfl .nil))))) (.refl _)
  ·
   refine WL.nt <| WC.seq <| WC.cond_f rfl <| WC.exit <| WE.then_exit <| WE.then_exit <| WE.block_hit <| WE.then_n <| WC.seq <| WC.seq <| WC.region <| WL.v (v_move rfl rfl) rfl <| WL.v (v_len_slice rfl rfl Tryz.underlying208) rfl <| WL.v (v_move rfl rfl) rfl <| ?_
   refine WL.v (v_len_slice rfl rfl Tryz.underlying208) rfl ?_
   refine WL.v ((v_lss rfl rfl rfl).f (by omega)) rfl ?_
   refine WL.nt <| WC.cond_f rfl <| WC.skip <| WE.then_n <| WC.seq <| WC.region <| WL.v (v_assign rfl rfl) rfl <| WL.nt <| WC.ret <| WE.ret1 (P := Tryz.prog) (.inl rfl) Tryz.results143 rfl <| ?_
   obtain rfl : k = 9 := (by omega)
   exact fun w' h => ⟨by rw [h0], h.frm⟩
theorem Or_c (w : World) (b : Nat) (x y : Int) (hx : w.cell? ⟨b, 0, none⟩ = some (.int .i64 x)) (hy : w.cell? ⟨b, 1, none⟩ = some (.int .i64 y)) :
    Calls Tryz.prog 105 #[.slice (some ⟨b, 0, none⟩) 2 2] w fun e w' => e = .returned (.int .i64 (if x ≠ 0 then x else y)) ∧ Frm (fun _ => False) w w' := by
  refine enter Tryz.func105 rfl Tryz.ntmps105 rfl (St.start (fun _ => False) w) ?_
  refine WC.seq <| WC.region <| WL.v (v_assign rfl rfl) rfl <| WL.nt <| WC.seq <| WC.region <| WL.v (v_assign rfl rfl) rfl <| WL.nt <| WC.seq <| WC.seq <| WC.region <| WL.v (v_move rfl rfl) rfl <| WL.v (v_len_slice rfl rfl Tryz.underlying74) rfl <| WL.v (v_move rfl rfl) rfl <| ?_
  refine WL.nt <| WC.block <| ?_
  refine WC.loop (fun k : Nat => [(8, .int .i64 k), (7, .int .i64 2), (6, .slice (some ⟨b, 0, none⟩) 2 2), (3, .int .i64 0)]) (fun _ => []) (fun k => k ≤ 2 ∧ (1 ≤ k → x = 0) ∧ (2 ≤ k → y = 0)) (fun k => 2 - k) 0 ⟨Nat.zero_le _, by omega, by omega⟩ (.cons rfl (.cons rfl (.cons rfl (.cons rfl .nil)))) (.refl _) ?_
  rintro k ⟨hk, h1, h2⟩
  have hz : ∀ j, j < 2 → w.cell? ⟨b, 0 + j * 1, none⟩ = some (.int .i64 (if j = 0 then x else y)) := (by
    intro j hj
    match j, hj with
    | 0, _ => exact hx
    | 1, _ => exact hy)
  refine WC.seq <| WC.region <| ?_
  refine WL.test (v_lss rfl rfl rfl) (.none rfl) rfl rfl (fun h9 => ?_) (fun h9 => ?_)
  ·
   refine WL.nt <| WC.seq <| WC.cond_t rfl <| WC.skip <| WE.then_n <| WC.seq <| WC.block <| WC.seq <| WC.region <| ?_
   refine WL.v (v_indexAddr (lo := k) rfl rfl rfl Tryz.underlying74 sz_3 (by omega) (by omega)) rfl ?_
   refine WL.v (v_load1 rfl rfl one_3 (cellOld (fun h => h) (hz k (by omega)))) rfl ?_
   refine WL.v (v_assign rfl rfl) rfl <| WL.nt <| WC.seq <| WC.region <| WL.v (v_move rfl rfl) rfl <| WL.v (v_move rfl rfl) rfl <| ?_
   refine WL.test (v_neq rfl rfl rfl) (.none rfl) rfl rfl (fun h14 => ?_) (fun h14 => ?_)
   ·
    refine WL.nt <| WC.cond_t rfl <| WC.seq <| WC.region <| WL.v (v_move rfl rfl) rfl <| WL.v (v_assign rfl rfl) rfl <| WL.nt <| WC.ret <| WE.block_ret <| WE.then_ret <| WE.then_ret <| WE.block_ret <| WE.then_ret <| WE.ret1 (P := Tryz.prog) (.inl rfl) Tryz.results105 rfl <| ?_
    have e2 : (if x ≠ 0 then x else y) = (if k = 0 then x else y) := (by
      by_cases e : k = 0
      · rw [if_pos e] at h14 ⊢; rw [if_pos h14]
      · rw [if_neg e, if_neg (fun q => q (h1 (by omega)))])
    exact fun w' h => ⟨by rw [e2], h.frm⟩
   ·
    refine WL.nt <| WC.cond_f rfl <| WC.skip <| WE.block_n <| WE.then_n <| WC.region <| ?_
    refine WL.v (v_add rfl rfl rfl (w_i64 (by omega) (by omega))) rfl ?_
    refine WL.v (v_move rfl rfl) rfl <| WL.nil <| ?_
    exact WE.next (k + 1) (by omega) ⟨by omega, fun _ => by by_cases e : k = 0; (rw [if_pos e] at h14; exact Classical.not_not.1 h14); exact h1 (by omega), fun _ => by rw [if_neg (by omega)] at h14; exact Classical.not_not.1 h14⟩ (.int rfl (by omega) (.cons rfl (.cons rfl (.cons rfl .nil)))) (.refl _)
  ·
   refine WL.nt <| WC.seq <| WC.cond_f rfl <| WC.exit <| WE.then_exit <| WE.then_exit <| WE.block_hit <| WE.then_n <| WC.seq <| WC.region <| WL.v (v_move rfl rfl) rfl <| WL.v (v_assign rfl rfl) rfl <| WL.nt <| WC.ret <| ?_
   refine WE.ret1 (P := Tryz.prog) (.inl rfl) Tryz.results105 rfl ?_
   exact fun w' h => ⟨by rw [h1 (by omega), h2 (by omega)]; rfl, h.frm⟩
def acmp (a b : Ac) : Int := if cmpI a.set b.set ≠ 0 then cmpI a.set b.set else lexK a.val b.val 9
theorem ACmp_c (w : World) (a b : Ac) :
    Calls Tryz.prog 102 #[acV a, acV b] w fun e w' => e = .returned (.int .i64 (acmp a b)) ∧ Frm (fun _ => False) w w' := by
  refine enter Tryz.func102 rfl Tryz.ntmps102 rfl (St.start (fun _ => False) w) ?_
  refine WC.seq <| WC.region <| WL.box rfl rfl rfl (.none rfl) rfl rfl <| ?_
  intro g2 hg2
  refine WL.box rfl rfl rfl (.none rfl) rfl rfl ?_
  intro g3 hg3
  refine WL.v (v_assign rfl rfl) rfl <| WL.nt <| WC.seq <| WC.orders mixed <| ?_
  refine WR.first (g := 7) [0, 2, 5, 6, 7, 8] (by kernel_rfl) (by kernel_rfl) ?_
  refine WP.val (v_fieldAddr0 rfl rfl fld_110_0) (.none rfl) rfl rfl <| WP.val (v_fieldAddr0 rfl rfl fld_110_0) (.none rfl) rfl rfl <| WP.val (v_fieldAddr0 rfl rfl fld_110_1) (.none rfl) rfl rfl <| WP.val (v_slice_arr rfl rfl Tryz.underlying108 sz_23) (.none rfl) rfl rfl <| WP.val (v_fieldAddr0 rfl rfl fld_110_1) (.none rfl) rfl rfl <| WP.val (v_slice_arr rfl rfl Tryz.underlying108 sz_23) (.none rfl) rfl rfl <| WP.nil <| ?_
  refine WR.read (g := 3) [1, 3, 4, 9] (by kernel_rfl) (by kernel_rfl) (by kernel_rfl) (by kernel_rfl) rfl ?_
  refine WQ.val (v_load1 rfl rfl one_3 (cellAt rfl)) (.none rfl) rfl rfl <| WQ.val (v_load1 rfl rfl one_3 (cellAt rfl)) (.none rfl) rfl rfl <| WQ.call _ rfl rfl ck_106 (.none rfl) rfl rfl (fun w hS => Calls.still (CmpI_c w a.set b.set) hS) <| WQ.call _ rfl rfl ck_143 (.none rfl) rfl rfl (fun w hS => Calls.still (SCmp_c w _ _ _ _ a.val b.val (fun i hi => hS.cell (acL_get a hi)) (fun i hi => hS.cell (acL_get b hi))) hS) <| WQ.nilR <| ?_
  refine WR.ones (g := 2) [10] (by kernel_rfl) ?_
  refine WL.buildSlice rfl rfl Tryz.underlying74 sz_3 zero_3 rfl (by decide) rfl (.none rfl) rfl rfl ?_
  intro g15 hg15
  refine WL.nilR ?_
  refine WR.read (g := 0) [11, 12] (by kernel_rfl) (by kernel_rfl) (by kernel_rfl) (by kernel_rfl) rfl ?_
  refine WQ.call _ rfl rfl ck_105 (.none rfl) rfl rfl (fun w hS => Calls.still (Or_c w _ _ _ (hS.cell rfl) (hS.cell rfl)) hS) <| WQ.val (v_assign rfl rfl) (.none rfl) rfl rfl <| WQ.nilR <| ?_
  refine WR.done (by kernel_rfl) ?_
  refine WE.then_n <| WC.ret <| WE.ret1 (P := Tryz.prog) (.inl rfl) Tryz.results102 rfl <| ?_
  exact fun w' h => ⟨rfl, h.frm⟩
end Go.Proofs.YtkeonnnhogaggaaGreatDoor
/- match: a match as two lists of numbers; right, On, Exact, Hits. rules.On; carrefourlaw17.right. -/
namespace Go.Proofs.YtkeonnnhogaggaaGreatDoor
open Go.RowKit

theorem xorN_le {x y : Int} (hx' : x ≤ 18446744073709551615) (hy' : y ≤ 18446744073709551615) : 0 ≤ xorN x y ∧ xorN x y ≤ 18446744073709551615 := by
  unfold xorN
  have h := Nat.xor_lt_two_pow (x := x.toNat) (y := y.toNat) (n := 64) (by omega) (by omega)
  omega
structure Mt where
  val : Nat → Int
  mask : Nat → Int
def mtL (m : Mt) : List Value := ucs m.val 9 ++ ucs m.mask 9
def mtV (m : Mt) : Value := .agg (mtL m).toArray
structure Mt.In (m : Mt) : Prop where
  val : ∀ k, 0 ≤ m.val k ∧ m.val k ≤ 18446744073709551615
  mask : ∀ k, 0 ≤ m.mask k ∧ m.mask k ≤ 18446744073709551615
theorem mtL_val (m : Mt) {k : Nat} (h : k < 9) : (mtL m)[0 + k * 1]? = some (.int .u64 (m.val k)) := by
  unfold mtL
  rw [show 0 + k * 1 = k by omega, List.getElem?_append_left (by rw [ucs_len]; exact h), ucs_get _ h]
theorem mtL_mask (m : Mt) {k : Nat} (h : k < 9) : (mtL m)[9 + k * 1]? = some (.int .u64 (m.mask k)) := by
  unfold mtL
  rw [show 9 + k * 1 = 9 + k by omega, List.getElem?_append_right (by rw [ucs_len]; omega), ucs_len, show 9 + k - 9 = k by omega, ucs_get _ h]
theorem mtL_setVal {m : Mt} {k : Nat} {x : Int} (h : k < 9) : (mtL m).set (0 + k * 1) (.int .u64 x) = mtL ⟨fun i => if i = k then x else m.val i, m.mask⟩ := by
  unfold mtL
  rw [show 0 + k * 1 = k by omega, List.set_append_left _ _ (by rw [ucs_len]; exact h), ucs_set h]
theorem mtL_setMask {m : Mt} {k : Nat} {x : Int} (h : k < 9) : (mtL m).set (9 + k * 1) (.int .u64 x) = mtL ⟨m.val, fun i => if i = k then x else m.mask i⟩ := by
  unfold mtL
  rw [show 9 + k * 1 = 9 + k by omega, List.set_append_right _ _ (by rw [ucs_len]; omega), ucs_len, show 9 + k - 9 = k by omega, ucs_set h]
theorem mtL_len (m : Mt) : (mtL m).length = 18 := by simp [mtL, ucs_len]
def mtOk (k : Nat) (val mask : Int) : Prop := andNotN mask (fullI k) = 0 ∧ andNotN val mask = 0
instance (k : Nat) (v m : Int) : Decidable (mtOk k v m) := by unfold mtOk; infer_instance
theorem fullI_u64 (k : Nat) : 0 ≤ fullI k ∧ fullI k ≤ 18446744073709551615 := by have := pow_wd k; unfold fullI; omega
theorem MRight_c (w : World) (k : Nat) (hk : k < 9) (val mask : Int) (hv : 0 ≤ val ∧ val ≤ 18446744073709551615) (hm : 0 ≤ mask ∧ mask ≤ 18446744073709551615) (hG : GW w) :
    Calls Tryz.prog 172 #[.int .i64 k, .int .u64 val, .int .u64 mask] w fun e w' => e = .returned (.bool (decide (mtOk k val mask))) ∧ Frm (fun _ => False) w w' := by
  have hf := fullI_u64 k
  refine enter Tryz.func172 rfl Tryz.ntmps172 rfl (St.start (fun _ => False) w) ?_
  refine WC.seq <| WC.region <| WL.v (v_assign rfl rfl) rfl <| WL.nt <| WC.seq <| WC.region <| WL.v (v_move rfl rfl) rfl <| WL.v (v_move rfl rfl) rfl <| WL.call rfl rfl ck_98 (.none rfl) rfl rfl <| ?_
  intro w hS
  refine Calls.then (Full_n w k hk (hG.keep (fun h => h) hS)) hS ?_
  refine WL.v (v_andNot rfl rfl rfl (bits_andNot_u64 hm.1 hm.2 hf.1 hf.2)) rfl ?_
  refine WL.test (v_eql rfl rfl rfl) (.none rfl) rfl rfl (fun h11 => ?_) (fun h11 => ?_)
  ·
   refine WL.v (v_move rfl rfl) rfl <| WL.val (v_move rfl rfl) (.some rfl rfl rfl) rfl rfl <| WL.val (v_move rfl rfl) (.some rfl rfl rfl) rfl rfl <| WL.val (v_andNot rfl rfl rfl (bits_andNot_u64 hv.1 hv.2 hm.1 hm.2)) (.some rfl rfl rfl) rfl rfl <| ?_
   refine WL.test (v_eql rfl rfl rfl) (.some rfl rfl rfl) rfl rfl (fun h16 => ?_) (fun h16 => ?_)
   ·
    refine WL.v (v_pick_t rfl rfl rfl) rfl <| WL.v (v_assign rfl rfl) rfl <| WL.nt <| WC.ret <| WE.ret1 (P := Tryz.prog) (.inl rfl) Tryz.results172 rfl <| ?_
    exact fun w' h => ⟨by rw [decide_eq_true ⟨h11, h16⟩], h.frm⟩
   ·
    refine WL.v (v_pick_t rfl rfl rfl) rfl <| WL.v (v_assign rfl rfl) rfl <| WL.nt <| WC.ret <| WE.ret1 (P := Tryz.prog) (.inl rfl) Tryz.results172 rfl <| ?_
    exact fun w' h => ⟨by rw [decide_eq_false (fun q => h16 q.2)], h.frm⟩
  ·
   refine WL.v (v_move rfl rfl) rfl ?_
   iterate 4 refine WL.sk rfl ?_
   refine WL.v (v_pick_f rfl rfl rfl) rfl <| WL.v (v_assign rfl rfl) rfl <| WL.nt <| WC.ret <| WE.ret1 (P := Tryz.prog) (.inl rfl) Tryz.results172 rfl <| ?_
   exact fun w' h => ⟨by rw [decide_eq_false (fun q => h11 q.1)], h.frm⟩
theorem MField_c (w : World) (k : Nat) (hk : k < 9) :
    Calls Tryz.prog 171 #[.int .i64 k] w fun e w' => e = .returned (.bool true) ∧ Frm (fun _ => False) w w' := by
  refine enter Tryz.func171 rfl Tryz.ntmps171 rfl (St.start (fun _ => False) w) ?_
  refine WC.seq <| WC.region <| WL.v (v_assign rfl rfl) rfl <| WL.nt <| WC.seq <| WC.region <| WL.v (v_move rfl rfl) rfl <| ?_
  refine WL.v ((v_geq rfl rfl rfl).t (by omega)) rfl ?_
  refine WL.v (v_move rfl rfl) rfl <| WL.val (v_move rfl rfl) (.some rfl rfl rfl) rfl rfl <| ?_
  refine WL.val ((v_lss rfl rfl rfl).t (by omega)) (.some rfl rfl rfl) rfl rfl ?_
  refine WL.v (v_pick_t rfl rfl rfl) rfl <| WL.v (v_assign rfl rfl) rfl <| WL.nt <| WC.ret <| WE.ret1 (P := Tryz.prog) (.inl rfl) Tryz.results171 rfl <| ?_
  exact fun w' h => ⟨rfl, h.frm⟩
def Mt.one (k : Nat) (val mask : Int) : Mt := ⟨fun i => if i = k then val else 0, fun i => if i = k then mask else 0⟩
theorem MOn_c (w : World) (k : Nat) (hk : k < 9) (val mask : Int) (hv : 0 ≤ val ∧ val ≤ 18446744073709551615) (hm : 0 ≤ mask ∧ mask ≤ 18446744073709551615) (hok : mtOk k val mask) (hG : GW w) :
    Calls Tryz.prog 129 #[.int .i64 k, .int .u64 val, .int .u64 mask] w fun e w' => e = .returned (.tuple #[mtV (Mt.one k val mask), .int .i64 0]) ∧ Frm (fun _ => False) w w' := by
  refine enter Tryz.func129 rfl Tryz.ntmps129 rfl (St.start (fun _ => False) w) ?_
  refine WC.seq <| WC.region <| WL.alloc rfl zero_115 (.none rfl) rfl rfl <| ?_
  intro g6 hg6
  refine WL.v (v_assign rfl rfl) rfl <| WL.nt <| WC.seq <| WC.seq <| WC.region <| WL.v (v_move rfl rfl) rfl <| WL.call rfl rfl ck_171 (.none rfl) rfl rfl <| ?_
  intro w hS
  refine Calls.then (MField_c w k hk) hS ?_
  refine WL.v (v_not rfl rfl rfl) rfl <| WL.v (v_move rfl rfl) rfl <| WL.val (v_move rfl rfl) (.some rfl rfl rfl) rfl rfl <| WL.val (v_move rfl rfl) (.some rfl rfl rfl) rfl rfl <| WL.val (v_move rfl rfl) (.some rfl rfl rfl) rfl rfl <| WL.call rfl rfl ck_172 (.some rfl rfl rfl) rfl rfl <| ?_
  intro w hS
  refine Calls.then ((MRight_c w k hk val mask hv hm (hG.keep (fun h => h) hS)).mono fun _ _ h => ⟨by rw [h.1, decide_eq_true hok], h.2⟩) hS ?_
  refine WL.val (v_not rfl rfl rfl) (.some rfl rfl rfl) rfl rfl <| WL.v (v_pick_f rfl rfl rfl) rfl <| WL.nt <| WC.cond_f rfl <| WC.skip <| WE.then_n <| WC.seq <| WC.region <| WL.alloc rfl zero_115 (.none rfl) rfl rfl <| ?_
  intro g8 hg8
  refine WL.nt <| WC.seq <| WC.region <| WL.v (v_move rfl rfl) rfl <| WL.v (v_move rfl rfl) rfl <| WL.v (v_fieldAddr0 rfl rfl fld_115_0) rfl <| ?_
  refine WL.v (v_indexAddrA (lo := k) rfl rfl rfl Tryz.underlying108 sz_23 (by omega) (by omega)) rfl ?_
  refine WL.store1 rfl rfl rfl rfl one_23 (by show 0 + k * 1 < 18; omega) (.none rfl) rfl ?_
  refine WL.as (L' := [.row g8 (mtL ⟨fun i => if i = k then val else 0, fun _ => 0⟩), .row g6 (mtL ⟨fun _ => 0, fun _ => 0⟩)]) (by
  have e := mtL_setVal (m := ⟨fun _ => 0, fun _ => 0⟩) (x := val) hk
  exact congrArg (fun z => [Ent.row g8 z, Ent.row g6 (mtL ⟨fun _ => 0, fun _ => 0⟩)]) e) ?_
  refine WL.nt <| WC.seq <| WC.region <| WL.v (v_move rfl rfl) rfl <| WL.v (v_move rfl rfl) rfl <| WL.v (v_fieldAddr0 rfl rfl fld_115_1) rfl <| ?_
  refine WL.v (v_indexAddrA (lo := k) rfl rfl rfl Tryz.underlying108 sz_23 (by omega) (by omega)) rfl ?_
  refine WL.store1 rfl rfl rfl rfl one_23 (by rw [mtL_len]; omega) (.none rfl) rfl ?_
  refine WL.as (L' := [.row g8 (mtL (Mt.one k val mask)), .row g6 (mtL ⟨fun _ => 0, fun _ => 0⟩)]) (by rw [mtL_setMask hk]; rfl) ?_
  refine WL.nt <| WC.seq <| WC.region <| WL.v (v_loadN rfl rfl many_115 rfl allAt) rfl <| WL.storeW rfl rfl rfl rfl many_115 rfl rfl (.none rfl) rfl <| WL.v (v_assign rfl rfl) rfl <| WL.nt <| WC.ret <| WE.ret2 (P := Tryz.prog) (.inl rfl) Tryz.results129 (resRow rfl many_115 rfl) rfl <| ?_
  exact fun w' h => ⟨rfl, h.frm⟩
def Mt.hits (m : Mt) (H : Hd) : Prop := ∀ k, k < 9 → andN (xorN (getF H k) (m.val k)) (m.mask k) = 0
instance (m : Mt) (H : Hd) : Decidable (m.hits H) := by unfold Mt.hits; infer_instance
set_option maxHeartbeats 1000000 in
theorem Hits_c (w : World) (m : Mt) (H : Hd) (hm : m.In) (hH : H.In) (hG : GW w) :
    Calls Tryz.prog 113 #[mtV m, .agg (hdCells H)] w fun e w' => e = .returned (.bool (decide (m.hits H))) ∧ Frm (fun _ => False) w w' := by
  refine enter Tryz.func113 rfl Tryz.ntmps113 rfl (St.start (fun _ => False) w) ?_
  refine WC.seq <| WC.region <| WL.box rfl rfl rfl (.none rfl) rfl rfl <| ?_
  intro g2 hg2
  refine WL.box rfl rfl rfl (.none rfl) rfl rfl ?_
  intro g3 hg3
  refine WL.v (v_assign rfl rfl) rfl <| WL.nt <| WC.seq <| WC.seq <| WC.region <| WL.v (v_move rfl rfl) rfl <| WL.nt <| WC.block <| ?_
  refine WC.loop (fun k : Nat => [(6, .int .i64 k), (3, .pointer (some ⟨g3, 0, none⟩)), (2, .pointer (some ⟨g2, 0, none⟩))]) (fun _ => [.row g3 (hdL H), .row g2 (mtL m)]) (fun k => k ≤ 9 ∧ ∀ j, j < k → andN (xorN (getF H j) (m.val j)) (m.mask j) = 0) (fun k => 9 - k) 0 ⟨Nat.zero_le _, fun j h => absurd h (by omega)⟩ (.cons rfl (.cons rfl (.cons rfl .nil))) (.refl _) ?_
  rintro k ⟨hk, hok⟩
  have hg := getF_le H k
  have hf := fullI_u64 k
  have hv := hm.val k
  have hmk := hm.mask k
  have hx := xorN_le (x := getF H k) (y := m.val k) (by omega) hv.2
  refine WC.seq <| WC.region <| ?_
  refine WL.test (v_lss rfl rfl rfl) (.none rfl) rfl rfl (fun h7 => ?_) (fun h7 => ?_)
  ·
   refine WL.nt <| WC.seq <| WC.cond_t rfl <| WC.skip <| WE.then_n <| WC.seq <| WC.block <| WC.seq <| WC.region <| WL.v (v_move rfl rfl) rfl <| WL.v (v_assign rfl rfl) rfl <| WL.nt <| WC.seq <| ?_
   refine WC.quiet mixed (by kernel_rfl) ?_
   refine WQ.val (v_loadN rfl rfl many_59 rfl allAt) (.none rfl) rfl rfl <| WQ.val (v_move rfl rfl) (.none rfl) rfl rfl <| ?_
   refine WQ.call _ rfl rfl ck_122 (.none rfl) rfl rfl (fun w hS => Calls.still (Get_c w H k (by omega) hH (hG.keep (fun h => h) hS)) hS) ?_
   refine WQ.val (v_move rfl rfl) (.none rfl) rfl rfl <| WQ.val (v_fieldAddr0 rfl rfl fld_115_0) (.none rfl) rfl rfl <| ?_
   refine WQ.val (v_indexAddrA (lo := k) rfl rfl rfl Tryz.underlying108 sz_23 (by omega) (by omega)) (.none rfl) rfl rfl ?_
   refine WQ.val (v_load1 rfl rfl one_23 (cellAt (mtL_val m (by omega)))) (.none rfl) rfl rfl ?_
   refine WQ.val (v_xor rfl rfl rfl (bits_xor_u64 hg.1 (by omega) hv.1 hv.2)) (.none rfl) rfl rfl ?_
   refine WQ.val (v_move rfl rfl) (.none rfl) rfl rfl <| WQ.val (v_fieldAddr0 rfl rfl fld_115_1) (.none rfl) rfl rfl <| ?_
   refine WQ.val (v_indexAddrA (lo := k) rfl rfl rfl Tryz.underlying108 sz_23 (by omega) (by omega)) (.none rfl) rfl rfl ?_
   refine WQ.val (v_load1 rfl rfl one_23 (cellAt (mtL_mask m (by omega)))) (.none rfl) rfl rfl ?_
   refine WQ.val (v_and rfl rfl rfl (bits_and_u64 hx.1 hx.2 hmk.1 hmk.2)) (.none rfl) rfl rfl ?_
   refine WQ.test (v_neq rfl rfl rfl) (.none rfl) rfl rfl (fun h22 => ?_) (fun h22 => ?_)
   ·
    refine WQ.nil <| WE.then_n <| WC.cond_t rfl <| WC.seq <| WC.region <| WL.v (v_assign rfl rfl) rfl <| WL.nt <| WC.ret <| WE.block_ret <| WE.then_ret <| WE.then_ret <| WE.block_ret <| WE.then_ret <| WE.ret1 (P := Tryz.prog) (.inl rfl) Tryz.results113 rfl <| ?_
    exact fun w' h => ⟨by rw [decide_eq_false (fun q => h22 (q k (by omega)))], h.frm⟩
   ·
    refine WQ.nil <| WE.then_n <| WC.cond_f rfl <| WC.skip <| WE.block_n <| WE.then_n <| WC.region <| ?_
    refine WL.v (v_add rfl rfl rfl (w_i64 (by omega) (by omega))) rfl ?_
    refine WL.v (v_move rfl rfl) rfl <| WL.nil <| ?_
    exact WE.next (k + 1) (by omega) ⟨by omega, fun j hj => by
    by_cases e : j = k
    · subst e; exact Classical.not_not.1 h22
    · exact hok j (by omega)⟩ (.int rfl (by omega) (.cons rfl (.cons rfl .nil))) (.refl _)
  ·
   refine WL.nt <| WC.seq <| WC.cond_f rfl <| WC.exit <| WE.then_exit <| WE.then_exit <| WE.block_hit <| WE.then_n <| WC.seq <| WC.region <| WL.v (v_assign rfl rfl) rfl <| WL.nt <| WC.ret <| WE.ret1 (P := Tryz.prog) (.inl rfl) Tryz.results113 rfl <| ?_
   obtain rfl : k = 9 := (by omega)
   exact fun w' h => ⟨by rw [decide_eq_true (p := m.hits H) hok], h.frm⟩
def Ac.one (k : Nat) (val : Int) : Ac := ⟨(2 : Int) ^ k, fun i => if i = k then val else 0⟩
theorem AOn_c (w : World) (k : Nat) (hk : k < 9) (val : Int) (_h0 : 0 ≤ val) (h1 : val ≤ fullI k) (hG : GW w) :
    Calls Tryz.prog 45 #[.int .i64 k, .int .u64 val] w fun e w' => e = .returned (.tuple #[acV (Ac.one k val), .int .i64 0]) ∧ Frm (fun _ => False) w w' := by
  have hp : (1 : Int) ≤ 2 ^ k ∧ (2 : Int) ^ k ≤ 256 := by
    match k, hk with
    | 0, _ | 1, _ | 2, _ | 3, _ | 4, _ | 5, _ | 6, _ | 7, _ | 8, _ => decide
  refine enter Tryz.func45 rfl Tryz.ntmps45 rfl (St.start (fun _ => False) w) ?_
  refine WC.seq <| WC.region <| WL.alloc rfl zero_110 (.none rfl) rfl rfl <| ?_
  intro g4 hg4
  refine WL.v (v_assign rfl rfl) rfl <| WL.nt <| WC.seq <| WC.seq <| WC.region <| WL.v (v_move rfl rfl) rfl <| ?_
  refine WL.v ((v_lss rfl rfl rfl).f (by omega)) rfl ?_
  refine WL.v (v_move rfl rfl) rfl <| WL.val (v_move rfl rfl) (.some rfl rfl rfl) rfl rfl <| ?_
  refine WL.val ((v_geq rfl rfl rfl).f (by omega)) (.some rfl rfl rfl) rfl rfl ?_
  refine WL.v (v_pick_f rfl rfl rfl) rfl <| WL.v (v_move rfl rfl) rfl <| WL.val (v_move rfl rfl) (.some rfl rfl rfl) rfl rfl <| WL.val (v_move rfl rfl) (.some rfl rfl rfl) rfl rfl <| WL.call rfl rfl ck_98 (.some rfl rfl rfl) rfl rfl <| ?_
  intro w hS
  refine Calls.then (Full_n w k hk (hG.keep (fun h => h) hS)) hS ?_
  refine WL.val ((v_gtr rfl rfl rfl).f (by omega)) (.some rfl rfl rfl) rfl rfl ?_
  refine WL.v (v_pick_f rfl rfl rfl) rfl <| WL.nt <| WC.cond_f rfl <| WC.skip <| WE.then_n <| WC.seq <| WC.region <| WL.v (v_move rfl rfl) rfl <| ?_
  refine WL.v (v_shl (m := k) (c := (2 : Int) ^ k) rfl rfl rfl rfl (by show k ≤ 64; omega) rfl ((congrArg _ (Int.one_mul _)).trans (w_i64 (by omega) (by omega)))) rfl ?_
  refine WL.v (v_build rfl rfl zero_110 plc_110 rfl) rfl <| WL.alloc rfl zero_110 (.none rfl) rfl rfl <| ?_
  intro g6 hg6
  refine WL.storeW rfl rfl rfl rfl many_110 rfl rfl (.none rfl) rfl <| WL.as (L' := [.row g6 (acL ⟨(2 : Int) ^ k, fun _ => 0⟩), .row g4 (acL ⟨0, fun _ => 0⟩)]) rfl <| WL.nt <| WC.seq <| WC.region <| WL.v (v_move rfl rfl) rfl <| WL.v (v_move rfl rfl) rfl <| WL.v (v_fieldAddr0 rfl rfl fld_110_1) rfl <| ?_
  refine WL.v (v_indexAddrA (lo := k) rfl rfl rfl Tryz.underlying108 sz_23 (by omega) (by omega)) rfl ?_
  refine WL.store1 rfl rfl rfl rfl one_23 (by show 1 + k * 1 < (acL _).length; unfold acL; rw [List.length_cons, ucs_len]; omega) (.none rfl) rfl ?_
  refine WL.as (L' := [.row g6 (acL (Ac.one k val)), .row g4 (acL ⟨0, fun _ => 0⟩)]) (by
  rw [show 1 + k * 1 = k + 1 by omega]
  unfold acL
  rw [List.set_cons_succ, ucs_set hk]
  rfl) ?_
  refine WL.nt <| WC.seq <| WC.region <| WL.v (v_loadN rfl rfl many_110 rfl allAt) rfl <| WL.storeW rfl rfl rfl rfl many_110 rfl rfl (.none rfl) rfl <| WL.v (v_assign rfl rfl) rfl <| WL.nt <| WC.ret <| WE.ret2 (P := Tryz.prog) (.inl rfl) Tryz.results45 (resRow rfl many_110 rfl) rfl <| ?_
  exact fun w' h => ⟨rfl, h.frm⟩
end Go.Proofs.YtkeonnnhogaggaaGreatDoor
/- policy: a node as a tree, and where its nodes lie. -/
namespace Go.Proofs.YtkeonnnhogaggaaGreatDoor
open Go.RowKit

/-- A node, with where its kids lie. -/
inductive Nd where
  | mk (kind f val mask : Int) (ad : Option Addr) (cap : Nat) (kids : List Nd)
def Nd.kind : Nd → Int | .mk k _ _ _ _ _ _ => k
def Nd.f : Nd → Int | .mk _ f _ _ _ _ _ => f
def Nd.val : Nd → Int | .mk _ _ v _ _ _ _ => v
def Nd.mask : Nd → Int | .mk _ _ _ m _ _ _ => m
def Nd.ad : Nd → Option Addr | .mk _ _ _ _ a _ _ => a
def Nd.cap : Nd → Nat | .mk _ _ _ _ _ c _ => c
def Nd.kids : Nd → List Nd | .mk _ _ _ _ _ _ ks => ks
def ndL (t : Nd) : List Value := [.int .i64 t.kind, .int .i64 t.f, .int .u64 t.val, .int .u64 t.mask, .slice t.ad t.kids.length t.cap]
def ndV (t : Nd) : Value := .agg (ndL t).toArray
mutual
/-- The node's kids lie in this world where the tree says, and theirs. -/
def Nd.At (w : World) : Nd → Prop
  | .mk _ _ _ _ ad _ kids => KidsAt w ad 0 kids
def KidsAt (w : World) (ad : Option Addr) : Nat → List Nd → Prop
  | _, [] => True
  | i, t :: ts => (∃ b o, ad = some ⟨b, o, none⟩ ∧ w.rangeAt b (o + i * 5) (ndL t)) ∧ t.At w ∧ KidsAt w ad (i + 1) ts
end
mutual
/-- Its numbers are numbers of their types. -/
def Nd.In : Nd → Prop
  | .mk k f v m _ _ kids => (-9223372036854775808 ≤ k ∧ k ≤ 9223372036854775807) ∧ (-9223372036854775808 ≤ f ∧ f ≤ 9223372036854775807) ∧ (0 ≤ v ∧ v ≤ 18446744073709551615) ∧ (0 ≤ m ∧ m ≤ 18446744073709551615) ∧ kids.length ≤ 9223372036854775807 ∧ KidsIn kids
def KidsIn : List Nd → Prop
  | [] => True
  | t :: ts => t.In ∧ KidsIn ts
end
theorem KidsAt.get {w : World} {ad : Option Addr} : ∀ (ts : List Nd) (i j : Nat) (t : Nd), KidsAt w ad i ts → ts[j]? = some t → (∃ b o, ad = some ⟨b, o, none⟩ ∧ w.rangeAt b (o + (i + j) * 5) (ndL t)) ∧ t.At w
  | [], _, _, _, _, h => by simp at h
  | t :: ts, i, 0, t', h, ht => by
    simp only [List.getElem?_cons_zero, Option.some.injEq] at ht
    subst ht
    unfold KidsAt at h
    exact ⟨h.1, h.2.1⟩
  | t :: ts, i, j + 1, t', h, ht => by
    unfold KidsAt at h
    rw [List.getElem?_cons_succ] at ht
    have := KidsAt.get ts (i + 1) j t' h.2.2 ht
    rwa [show i + 1 + j = i + (j + 1) by omega] at this
theorem KidsIn.get : ∀ (ts : List Nd) (j : Nat) (t : Nd), KidsIn ts → ts[j]? = some t → t.In
  | [], _, _, _, h => by simp at h
  | t :: ts, 0, t', h, ht => by
    simp only [List.getElem?_cons_zero, Option.some.injEq] at ht
    subst ht
    unfold KidsIn at h
    exact h.1
  | t :: ts, j + 1, t', h, ht => by
    unfold KidsIn at h
    rw [List.getElem?_cons_succ] at ht
    exact KidsIn.get ts j t' h.2 ht
mutual
theorem Nd.At.keep {w w' : World} (hw : ∀ b o cs, w.rangeAt b o cs → w'.rangeAt b o cs) : ∀ t : Nd, t.At w → t.At w'
  | .mk _ _ _ _ ad _ kids, h => by unfold Nd.At at h ⊢; exact KidsAt.keep hw ad 0 kids h
theorem KidsAt.keep {w w' : World} (hw : ∀ b o cs, w.rangeAt b o cs → w'.rangeAt b o cs) (ad : Option Addr) : ∀ (i : Nat) (ts : List Nd), KidsAt w ad i ts → KidsAt w' ad i ts
  | _, [], _ => by unfold KidsAt; trivial
  | i, t :: ts, h => by
    unfold KidsAt at h ⊢
    obtain ⟨⟨b, o, e, hr⟩, h2, h3⟩ := h
    exact ⟨⟨b, o, e, hw _ _ _ hr⟩, Nd.At.keep hw t h2, KidsAt.keep hw ad (i + 1) ts h3⟩
end
theorem Nd.At.kids {w : World} {t : Nd} (h : t.At w) : KidsAt w t.ad 0 t.kids := by cases t; unfold Nd.At at h; exact h
theorem Nd.In.kids {t : Nd} (h : t.In) : KidsIn t.kids := by cases t; unfold Nd.In at h; exact h.2.2.2.2.2
theorem Nd.In.nums {t : Nd} (h : t.In) : (-9223372036854775808 ≤ t.kind ∧ t.kind ≤ 9223372036854775807) ∧ (-9223372036854775808 ≤ t.f ∧ t.f ≤ 9223372036854775807) ∧ (0 ≤ t.val ∧ t.val ≤ 18446744073709551615) ∧ (0 ≤ t.mask ∧ t.mask ≤ 18446744073709551615) ∧ t.kids.length ≤ 9223372036854775807 := by
  cases t; unfold Nd.In at h; exact ⟨h.1, h.2.1, h.2.2.1, h.2.2.2.1, h.2.2.2.2.1⟩
/-- Kid j, and where it lies. -/
theorem Nd.At.kid {w : World} {t u : Nd} {j : Nat} (h : t.At w) (hu : t.kids[j]? = some u) : (∃ b o, t.ad = some ⟨b, o, none⟩ ∧ w.rangeAt b (o + j * 5) (ndL u)) ∧ u.At w := by
  have := h.kids.get _ 0 j u hu
  rwa [Nat.zero_add] at this
/-! ### What is wrong with a node by itself -/
def isFld (f : Int) : Prop := 0 ≤ f ∧ f < 9
instance (f : Int) : Decidable (isFld f) := by unfold isFld; infer_instance
def fitsP (k : Int) (pred : Bool) : Bool := if pred then decide (1 ≤ k ∧ k ≤ 6) else decide (11 ≤ k ∧ k ≤ 17)
def argE (t : Nd) : Int :=
  if t.kind = 3 then (if ¬ isFld t.f ∨ andNotN t.mask (fullI t.f.toNat) ≠ 0 ∨ andNotN t.val t.mask ≠ 0 then 1 else 0)
  else if t.kind = 14 then (if ¬ isFld t.f ∨ t.f = 3 ∨ t.f = 6 ∨ t.val > fullI t.f.toNat then 1 else 0) else 0
def leastK (k : Int) : Int := if k = 4 ∨ k = 13 then 1 else if k = 17 then 3 else 0
def mostK (k : Int) : Int := if k = 4 ∨ k = 13 then 1 else if k = 17 then 3 else if k = 5 ∨ k = 6 ∨ k = 15 ∨ k = 16 then 64 else 0
def formE (t : Nd) : Int := if (t.kids.length : Int) < leastK t.kind ∨ mostK t.kind < t.kids.length then 2 else 0
def predK (k : Int) (place : Nat) : Bool := decide (k = 4 ∨ k = 5 ∨ k = 6 ∨ k = 13 ∨ k = 17 ∧ place = 0)
theorem PField_c (w : World) (f : Int) :
    Calls Tryz.prog 128 #[.int .i64 f] w fun e w' => e = .returned (.bool (decide (isFld f))) ∧ Frm (fun _ => False) w w' := by
  refine enter Tryz.func128 rfl Tryz.ntmps128 rfl (St.start (fun _ => False) w) ?_
  refine WC.seq <| WC.region <| WL.v (v_assign rfl rfl) rfl <| WL.nt <| WC.seq <| WC.region <| WL.v (v_move rfl rfl) rfl <| ?_
  refine WL.test (v_geq rfl rfl rfl) (.none rfl) rfl rfl (fun h4 => ?_) (fun h4 => ?_)
  ·
   refine WL.v (v_move rfl rfl) rfl <| WL.val (v_move rfl rfl) (.some rfl rfl rfl) rfl rfl <| ?_
   refine WL.test (v_lss rfl rfl rfl) (.some rfl rfl rfl) rfl rfl (fun h7 => ?_) (fun h7 => ?_)
   ·
    refine WL.v (v_pick_t rfl rfl rfl) rfl <| WL.v (v_assign rfl rfl) rfl <| WL.nt <| WC.ret <| WE.ret1 (P := Tryz.prog) (.inl rfl) Tryz.results128 rfl <| ?_
    exact fun w' h => ⟨by rw [decide_eq_true (p := isFld f) ⟨h4, h7⟩], h.frm⟩
   ·
    refine WL.v (v_pick_t rfl rfl rfl) rfl <| WL.v (v_assign rfl rfl) rfl <| WL.nt <| WC.ret <| WE.ret1 (P := Tryz.prog) (.inl rfl) Tryz.results128 rfl <| ?_
    exact fun w' h => ⟨by rw [decide_eq_false (fun q : isFld f => h7 q.2)], h.frm⟩
  ·
   refine WL.v (v_move rfl rfl) rfl ?_
   iterate 2 refine WL.sk rfl ?_
   refine WL.v (v_pick_f rfl rfl rfl) rfl <| WL.v (v_assign rfl rfl) rfl <| WL.nt <| WC.ret <| WE.ret1 (P := Tryz.prog) (.inl rfl) Tryz.results128 rfl <| ?_
   exact fun w' h => ⟨by rw [decide_eq_false (fun q : isFld f => h4 q.1)], h.frm⟩
theorem Fits_c (w : World) (k : Int) (pred : Bool) :
    Calls Tryz.prog 87 #[.int .i64 k, .bool pred] w fun e w' => e = .returned (.bool (fitsP k pred)) ∧ Frm (fun _ => False) w w' := by
  refine enter Tryz.func87 rfl Tryz.ntmps87 rfl (St.start (fun _ => False) w) ?_
  refine WC.seq <| WC.region <| WL.v (v_assign rfl rfl) rfl <| WL.nt <| WC.seq <| WC.seq <| WC.region <| WL.v (v_move rfl rfl) rfl <| ?_
  cases pred
  ·
   refine WL.nt <| WC.cond_f rfl <| WC.skip <| WE.then_n <| WC.seq <| WC.region <| WL.v (v_move rfl rfl) rfl <| ?_
   refine WL.test (v_geq rfl rfl rfl) (.none rfl) rfl rfl (fun h13 => ?_) (fun h13 => ?_)
   ·
    refine WL.v (v_move rfl rfl) rfl <| WL.val (v_move rfl rfl) (.some rfl rfl rfl) rfl rfl <| ?_
    refine WL.test (v_leq rfl rfl rfl) (.some rfl rfl rfl) rfl rfl (fun h16 => ?_) (fun h16 => ?_)
    ·
     refine WL.v (v_pick_t rfl rfl rfl) rfl <| WL.v (v_assign rfl rfl) rfl <| WL.nt <| WC.ret <| WE.ret1 (P := Tryz.prog) (.inl rfl) Tryz.results87 rfl <| ?_
     exact fun w' h => ⟨by unfold fitsP; first | (rw [if_pos rfl, decide_eq_true (by omega)]) | (rw [if_pos rfl, decide_eq_false (by omega)]) | (rw [if_neg (by decide), decide_eq_true (by omega)]) | (rw [if_neg (by decide), decide_eq_false (by omega)]), h.frm⟩
    ·
     refine WL.v (v_pick_t rfl rfl rfl) rfl <| WL.v (v_assign rfl rfl) rfl <| WL.nt <| WC.ret <| WE.ret1 (P := Tryz.prog) (.inl rfl) Tryz.results87 rfl <| ?_
     exact fun w' h => ⟨by unfold fitsP; first | (rw [if_pos rfl, decide_eq_true (by omega)]) | (rw [if_pos rfl, decide_eq_false (by omega)]) | (rw [if_neg (by decide), decide_eq_true (by omega)]) | (rw [if_neg (by decide), decide_eq_false (by omega)]), h.frm⟩
   ·
    refine WL.v (v_move rfl rfl) rfl ?_
    iterate 2 refine WL.sk rfl ?_
    refine WL.v (v_pick_f rfl rfl rfl) rfl <| WL.v (v_assign rfl rfl) rfl <| WL.nt <| WC.ret <| WE.ret1 (P := Tryz.prog) (.inl rfl) Tryz.results87 rfl <| ?_
    exact fun w' h => ⟨by unfold fitsP; first | (rw [if_pos rfl, decide_eq_true (by omega)]) | (rw [if_pos rfl, decide_eq_false (by omega)]) | (rw [if_neg (by decide), decide_eq_true (by omega)]) | (rw [if_neg (by decide), decide_eq_false (by omega)]), h.frm⟩
  ·
   refine WL.nt <| WC.cond_t rfl <| WC.seq <| WC.region <| WL.v (v_move rfl rfl) rfl <| ?_
   refine WL.test (v_geq rfl rfl rfl) (.none rfl) rfl rfl (fun h7 => ?_) (fun h7 => ?_)
   ·
    refine WL.v (v_move rfl rfl) rfl <| WL.val (v_move rfl rfl) (.some rfl rfl rfl) rfl rfl <| ?_
    refine WL.test (v_leq rfl rfl rfl) (.some rfl rfl rfl) rfl rfl (fun h10 => ?_) (fun h10 => ?_)
    ·
     refine WL.v (v_pick_t rfl rfl rfl) rfl <| WL.v (v_assign rfl rfl) rfl <| WL.nt <| WC.ret <| WE.then_ret <| WE.ret1 (P := Tryz.prog) (.inl rfl) Tryz.results87 rfl <| ?_
     exact fun w' h => ⟨by unfold fitsP; first | (rw [if_pos rfl, decide_eq_true (by omega)]) | (rw [if_pos rfl, decide_eq_false (by omega)]) | (rw [if_neg (by decide), decide_eq_true (by omega)]) | (rw [if_neg (by decide), decide_eq_false (by omega)]), h.frm⟩
    ·
     refine WL.v (v_pick_t rfl rfl rfl) rfl <| WL.v (v_assign rfl rfl) rfl <| WL.nt <| WC.ret <| WE.then_ret <| WE.ret1 (P := Tryz.prog) (.inl rfl) Tryz.results87 rfl <| ?_
     exact fun w' h => ⟨by unfold fitsP; first | (rw [if_pos rfl, decide_eq_true (by omega)]) | (rw [if_pos rfl, decide_eq_false (by omega)]) | (rw [if_neg (by decide), decide_eq_true (by omega)]) | (rw [if_neg (by decide), decide_eq_false (by omega)]), h.frm⟩
   ·
    refine WL.v (v_move rfl rfl) rfl ?_
    iterate 2 refine WL.sk rfl ?_
    refine WL.v (v_pick_f rfl rfl rfl) rfl <| WL.v (v_assign rfl rfl) rfl <| WL.nt <| WC.ret <| WE.then_ret <| WE.ret1 (P := Tryz.prog) (.inl rfl) Tryz.results87 rfl <| ?_
    exact fun w' h => ⟨by unfold fitsP; first | (rw [if_pos rfl, decide_eq_true (by omega)]) | (rw [if_pos rfl, decide_eq_false (by omega)]) | (rw [if_neg (by decide), decide_eq_true (by omega)]) | (rw [if_neg (by decide), decide_eq_false (by omega)]), h.frm⟩
theorem PredKid_c (w : World) (t : Nd) (place : Nat) :
    Calls Tryz.prog 90 #[ndV t, .int .i64 place] w fun e w' => e = .returned (.bool (predK t.kind place)) ∧ Frm (fun _ => False) w w' := by
  refine enter Tryz.func90 rfl Tryz.ntmps90 rfl (St.start (fun _ => False) w) ?_
  refine WC.seq <| WC.region <| WL.box rfl rfl rfl (.none rfl) rfl rfl <| ?_
  intro g2 hg2
  refine WL.v (v_assign rfl rfl) rfl <| WL.nt <| WC.seq <| WC.seq <| WC.region <| WL.v (v_fieldAddr0 rfl rfl fld_26_0) rfl <| WL.v (v_load1 rfl rfl one_3 (cellAt rfl)) rfl <| WL.nt <| WC.block <| WC.seq <| WC.seq <| WC.region <| ?_
  refine WL.test (v_eql rfl rfl rfl) (.none rfl) rfl rfl (fun h8 => ?_) (fun h8 => ?_)
  ·
   refine WL.v (v_assign rfl rfl) rfl <| WL.nt <| WC.cond_t rfl <| WC.skip <| WE.then_n <| WC.cond_t rfl <| WC.seq <| WC.region <| WL.v (v_assign rfl rfl) rfl <| WL.nt <| WC.ret <| WE.block_ret <| WE.then_ret <| WE.ret1 (P := Tryz.prog) (.inl rfl) Tryz.results90 rfl <| ?_
   exact fun w' h => ⟨by unfold predK; first | rw [decide_eq_true (by omega)] | rw [decide_eq_false (by omega)], h.frm⟩
  ·
   refine WL.v (v_assign rfl rfl) rfl <| WL.nt <| WC.cond_f rfl <| WC.seq <| WC.region <| ?_
   refine WL.test (v_eql rfl rfl rfl) (.none rfl) rfl rfl (fun h9 => ?_) (fun h9 => ?_)
   ·
    refine WL.v (v_assign rfl rfl) rfl <| WL.nt <| WC.cond_t rfl <| WC.skip <| WE.then_n <| WC.cond_t rfl <| WC.seq <| WC.region <| WL.v (v_assign rfl rfl) rfl <| WL.nt <| WC.ret <| WE.block_ret <| WE.then_ret <| WE.ret1 (P := Tryz.prog) (.inl rfl) Tryz.results90 rfl <| ?_
    exact fun w' h => ⟨by unfold predK; first | rw [decide_eq_true (by omega)] | rw [decide_eq_false (by omega)], h.frm⟩
   ·
    refine WL.v (v_assign rfl rfl) rfl <| WL.nt <| WC.cond_f rfl <| WC.seq <| WC.region <| ?_
    refine WL.test (v_eql rfl rfl rfl) (.none rfl) rfl rfl (fun h10 => ?_) (fun h10 => ?_)
    ·
     refine WL.v (v_assign rfl rfl) rfl <| WL.nt <| WC.cond_t rfl <| WC.skip <| WE.then_n <| WC.cond_t rfl <| WC.seq <| WC.region <| WL.v (v_assign rfl rfl) rfl <| WL.nt <| WC.ret <| WE.block_ret <| WE.then_ret <| WE.ret1 (P := Tryz.prog) (.inl rfl) Tryz.results90 rfl <| ?_
     exact fun w' h => ⟨by unfold predK; first | rw [decide_eq_true (by omega)] | rw [decide_eq_false (by omega)], h.frm⟩
    ·
     refine WL.v (v_assign rfl rfl) rfl <| WL.nt <| WC.cond_f rfl <| WC.region <| ?_
     refine WL.test (v_eql rfl rfl rfl) (.none rfl) rfl rfl (fun h11 => ?_) (fun h11 => ?_)
     ·
      refine WL.v (v_assign rfl rfl) rfl <| WL.nt <| WC.cond_t rfl <| WC.seq <| WC.region <| WL.v (v_assign rfl rfl) rfl <| WL.nt <| WC.ret <| WE.block_ret <| WE.then_ret <| WE.ret1 (P := Tryz.prog) (.inl rfl) Tryz.results90 rfl <| ?_
      exact fun w' h => ⟨by unfold predK; first | rw [decide_eq_true (by omega)] | rw [decide_eq_false (by omega)], h.frm⟩
     ·
      refine WL.v (v_assign rfl rfl) rfl <| WL.nt <| WC.cond_f rfl <| WC.seq <| WC.region <| ?_
      refine WL.test (v_eql rfl rfl rfl) (.none rfl) rfl rfl (fun h13 => ?_) (fun h13 => ?_)
      ·
       refine WL.v (v_assign rfl rfl) rfl <| WL.nt <| WC.cond_t rfl <| WC.seq <| WC.region <| WL.v (v_move rfl rfl) rfl <| ?_
       refine WL.test (v_eql rfl rfl rfl) (.none rfl) rfl rfl (fun h15 => ?_) (fun h15 => ?_)
       ·
        refine WL.v (v_assign rfl rfl) rfl <| WL.nt <| WC.ret <| WE.block_ret <| WE.then_ret <| WE.ret1 (P := Tryz.prog) (.inl rfl) Tryz.results90 rfl <| ?_
        exact fun w' h => ⟨by unfold predK; first | rw [decide_eq_true (by omega)] | rw [decide_eq_false (by omega)], h.frm⟩
       ·
        refine WL.v (v_assign rfl rfl) rfl <| WL.nt <| WC.ret <| WE.block_ret <| WE.then_ret <| WE.ret1 (P := Tryz.prog) (.inl rfl) Tryz.results90 rfl <| ?_
        exact fun w' h => ⟨by unfold predK; first | rw [decide_eq_true (by omega)] | rw [decide_eq_false (by omega)], h.frm⟩
      ·
       refine WL.v (v_assign rfl rfl) rfl <| WL.nt <| WC.cond_f rfl <| WC.skip <| WE.block_n <| WE.then_n <| WC.seq <| WC.region <| WL.v (v_assign rfl rfl) rfl <| WL.nt <| WC.ret <| WE.ret1 (P := Tryz.prog) (.inl rfl) Tryz.results90 rfl <| ?_
       exact fun w' h => ⟨by unfold predK; first | rw [decide_eq_true (by omega)] | rw [decide_eq_false (by omega)], h.frm⟩
end Go.Proofs.YtkeonnnhogaggaaGreatDoor
/- policy: what is wrong with a node; the walk of a tree. -/
namespace Go.Proofs.YtkeonnnhogaggaaGreatDoor
open Go.RowKit

theorem Form_c (w : World) (t : Nd) (ht : t.In) :
    Calls Tryz.prog 89 #[ndV t] w fun e w' => e = .returned (.int .i64 (formE t)) ∧ Frm (fun _ => False) w w' := by
  have hn := ht.nums.2.2.2.2
  refine enter Tryz.func89 rfl Tryz.ntmps89 rfl (St.start (fun _ => False) w) ?_
  refine WC.seq <| WC.region <| WL.box rfl rfl rfl (.none rfl) rfl rfl <| ?_
  intro g1 hg1
  refine WL.v (v_assign rfl rfl) rfl <| WL.nt <| WC.seq <| WC.region <| WL.v (v_assign rfl rfl) rfl <| WL.v (v_assign rfl rfl) rfl <| WL.nt <| ?_
  refine WC.cut (fun x : Int × Int => [(3, .int .i64 x.1), (4, .int .i64 x.2), (1, .pointer (some ⟨g1, 0, none⟩))]) (fun _ => [.row g1 (ndL t)]) (fun x => x.1 = leastK t.kind ∧ x.2 = mostK t.kind) ?_ ?_
  ·
   refine WC.seq <| WC.region <| WL.v (v_fieldAddr0 rfl rfl fld_26_0) rfl <| WL.v (v_load1 rfl rfl one_3 (cellAt rfl)) rfl <| WL.nt <| WC.block <| WC.seq <| WC.seq <| WC.region <| ?_
   refine WL.test (v_eql rfl rfl rfl) (.none rfl) rfl rfl (fun h8 => ?_) (fun h8 => ?_)
   ·
    refine WL.v (v_assign rfl rfl) rfl <| WL.nt <| WC.cond_t rfl <| WC.skip <| WE.then_n <| WC.cond_t rfl <| WC.region <| WL.v (v_assign rfl rfl) rfl <| WL.v (v_assign rfl rfl) rfl <| WL.nil <| WE.block_n <| ?_
    exact WE.mid (1, 1) ⟨by unfold leastK; rw [if_pos (by omega)], by unfold mostK; rw [if_pos (by omega)]⟩ (.cons rfl (.cons rfl (.cons rfl .nil))) (.refl _)
   ·
    refine WL.v (v_assign rfl rfl) rfl <| WL.nt <| WC.cond_f rfl <| WC.region <| ?_
    refine WL.test (v_eql rfl rfl rfl) (.none rfl) rfl rfl (fun h9 => ?_) (fun h9 => ?_)
    ·
     refine WL.v (v_assign rfl rfl) rfl <| WL.nt <| WC.cond_t rfl <| WC.region <| WL.v (v_assign rfl rfl) rfl <| WL.v (v_assign rfl rfl) rfl <| WL.nil <| WE.block_n <| ?_
     exact WE.mid (1, 1) ⟨by unfold leastK; rw [if_pos (by omega)], by unfold mostK; rw [if_pos (by omega)]⟩ (.cons rfl (.cons rfl (.cons rfl .nil))) (.refl _)
    ·
     refine WL.v (v_assign rfl rfl) rfl <| WL.nt <| WC.cond_f rfl <| WC.seq <| WC.region <| ?_
     refine WL.test (v_eql rfl rfl rfl) (.none rfl) rfl rfl (fun h11 => ?_) (fun h11 => ?_)
     ·
      refine WL.v (v_assign rfl rfl) rfl <| WL.nt <| WC.cond_t rfl <| WC.region <| WL.v (v_assign rfl rfl) rfl <| WL.v (v_assign rfl rfl) rfl <| WL.nil <| WE.block_n <| ?_
      exact WE.mid (3, 3) ⟨by unfold leastK; rw [if_neg (by omega), if_pos (by omega)], by unfold mostK; rw [if_neg (by omega), if_pos (by omega)]⟩ (.cons rfl (.cons rfl (.cons rfl .nil))) (.refl _)
     ·
      refine WL.v (v_assign rfl rfl) rfl <| WL.nt <| WC.cond_f rfl <| WC.seq <| WC.seq <| WC.region <| ?_
      refine WL.test (v_eql rfl rfl rfl) (.none rfl) rfl rfl (fun h13 => ?_) (fun h13 => ?_)
      ·
       refine WL.v (v_assign rfl rfl) rfl <| WL.nt <| WC.cond_t rfl <| WC.skip <| WE.then_n <| WC.cond_t rfl <| WC.region <| WL.v (v_assign rfl rfl) rfl <| WL.nil <| WE.block_n <| ?_
       exact WE.mid (0, 64) ⟨by unfold leastK; rw [if_neg (by omega), if_neg (by omega)], by unfold mostK; rw [if_neg (by omega), if_neg (by omega), if_pos (by omega)]⟩ (.cons rfl (.cons rfl (.cons rfl .nil))) (.refl _)
      ·
       refine WL.v (v_assign rfl rfl) rfl <| WL.nt <| WC.cond_f rfl <| WC.seq <| WC.region <| ?_
       refine WL.test (v_eql rfl rfl rfl) (.none rfl) rfl rfl (fun h14 => ?_) (fun h14 => ?_)
       ·
        refine WL.v (v_assign rfl rfl) rfl <| WL.nt <| WC.cond_t rfl <| WC.skip <| WE.then_n <| WC.cond_t rfl <| WC.region <| WL.v (v_assign rfl rfl) rfl <| WL.nil <| WE.block_n <| ?_
        exact WE.mid (0, 64) ⟨by unfold leastK; rw [if_neg (by omega), if_neg (by omega)], by unfold mostK; rw [if_neg (by omega), if_neg (by omega), if_pos (by omega)]⟩ (.cons rfl (.cons rfl (.cons rfl .nil))) (.refl _)
       ·
        refine WL.v (v_assign rfl rfl) rfl <| WL.nt <| WC.cond_f rfl <| WC.seq <| WC.region <| ?_
        refine WL.test (v_eql rfl rfl rfl) (.none rfl) rfl rfl (fun h15 => ?_) (fun h15 => ?_)
        ·
         refine WL.v (v_assign rfl rfl) rfl <| WL.nt <| WC.cond_t rfl <| WC.skip <| WE.then_n <| WC.cond_t rfl <| WC.region <| WL.v (v_assign rfl rfl) rfl <| WL.nil <| WE.block_n <| ?_
         exact WE.mid (0, 64) ⟨by unfold leastK; rw [if_neg (by omega), if_neg (by omega)], by unfold mostK; rw [if_neg (by omega), if_neg (by omega), if_pos (by omega)]⟩ (.cons rfl (.cons rfl (.cons rfl .nil))) (.refl _)
        ·
         refine WL.v (v_assign rfl rfl) rfl <| WL.nt <| WC.cond_f rfl <| WC.region <| ?_
         refine WL.test (v_eql rfl rfl rfl) (.none rfl) rfl rfl (fun h16 => ?_) (fun h16 => ?_)
         ·
          refine WL.v (v_assign rfl rfl) rfl <| WL.nt <| WC.cond_t rfl <| WC.region <| WL.v (v_assign rfl rfl) rfl <| WL.nil <| WE.block_n <| ?_
          exact WE.mid (0, 64) ⟨by unfold leastK; rw [if_neg (by omega), if_neg (by omega)], by unfold mostK; rw [if_neg (by omega), if_neg (by omega), if_pos (by omega)]⟩ (.cons rfl (.cons rfl (.cons rfl .nil))) (.refl _)
         ·
          refine WL.v (v_assign rfl rfl) rfl <| WL.nt <| WC.cond_f rfl <| WC.skip <| WE.block_n <| ?_
          exact WE.mid (0, 0) ⟨by unfold leastK; rw [if_neg (by omega), if_neg (by omega)], by unfold mostK; rw [if_neg (by omega), if_neg (by omega), if_neg (by omega)]⟩ (.cons rfl (.cons rfl (.cons rfl .nil))) (.refl _)
  ·
   rintro ⟨le, mo⟩ ⟨h1, h2⟩
   dsimp only at h1 h2
   dsimp only
   refine WC.seq <| WC.seq <| WC.region <| WL.v (v_fieldAddr0 rfl rfl fld_26_4) rfl <| WL.v (v_load1 rfl rfl one_24 (cellAt rfl)) rfl <| WL.v (v_len_slice rfl rfl Tryz.underlying24) rfl <| WL.v (v_move rfl rfl) rfl <| ?_
   refine WL.test (v_lss rfl rfl rfl) (.none rfl) rfl rfl (fun h21 => ?_) (fun h21 => ?_)
   ·
    refine WL.v (v_move rfl rfl) rfl ?_
    iterate 5 refine WL.sk rfl ?_
    refine WL.v (v_pick_t rfl rfl rfl) rfl <| WL.nt <| WC.cond_t rfl <| WC.seq <| WC.region <| WL.v (v_assign rfl rfl) rfl <| WL.nt <| WC.ret <| WE.then_ret <| WE.ret1 (P := Tryz.prog) (.inl rfl) Tryz.results89 rfl <| ?_
    exact fun w' h => ⟨by unfold formE; first | rw [if_pos (by omega)] | rw [if_neg (by omega)], h.frm⟩
   ·
    refine WL.v (v_move rfl rfl) rfl <| WL.val (v_fieldAddr0 rfl rfl fld_26_4) (.some rfl rfl rfl) rfl rfl <| WL.val (v_load1 rfl rfl one_24 (cellAt rfl)) (.some rfl rfl rfl) rfl rfl <| WL.val (v_len_slice rfl rfl Tryz.underlying24) (.some rfl rfl rfl) rfl rfl <| WL.val (v_move rfl rfl) (.some rfl rfl rfl) rfl rfl <| ?_
    refine WL.test (v_gtr rfl rfl rfl) (.some rfl rfl rfl) rfl rfl (fun h27 => ?_) (fun h27 => ?_)
    ·
     refine WL.v (v_pick_f rfl rfl rfl) rfl <| WL.nt <| WC.cond_t rfl <| WC.seq <| WC.region <| WL.v (v_assign rfl rfl) rfl <| WL.nt <| WC.ret <| WE.then_ret <| WE.ret1 (P := Tryz.prog) (.inl rfl) Tryz.results89 rfl <| ?_
     exact fun w' h => ⟨by unfold formE; first | rw [if_pos (by omega)] | rw [if_neg (by omega)], h.frm⟩
    ·
     refine WL.v (v_pick_f rfl rfl rfl) rfl <| WL.nt <| WC.cond_f rfl <| WC.skip <| WE.then_n <| WC.seq <| WC.region <| WL.v (v_assign rfl rfl) rfl <| WL.nt <| WC.ret <| WE.ret1 (P := Tryz.prog) (.inl rfl) Tryz.results89 rfl <| ?_
     exact fun w' h => ⟨by unfold formE; first | rw [if_pos (by omega)] | rw [if_neg (by omega)], h.frm⟩
theorem isFld.nat {f : Int} (h : isFld f) : ∃ k : Nat, f = k ∧ k < 9 ∧ f.toNat = k := ⟨f.toNat, by have := h.1; omega, by have := h.2; omega, rfl⟩
theorem Argu_c (w : World) (t : Nd) (ht : t.In) (hG : GW w) :
    Calls Tryz.prog 88 #[ndV t] w fun e w' => e = .returned (.int .i64 (argE t)) ∧ Frm (fun _ => False) w w' := by
  obtain ⟨_, _, hv, hm, _⟩ := ht.nums
  have hfu := fullI_u64 t.f.toNat
  have full : ∀ w, GW w → isFld t.f → Calls Tryz.prog 98 #[.int .i64 t.f] w fun e w' => e = .returned (.int .u64 (fullI t.f.toNat)) ∧ Frm (fun _ => False) w w' := fun w hG h => by
    obtain ⟨k, e, hk, e2⟩ := h.nat
    rw [e2, e]
    exact Full_n w k hk hG
  refine enter Tryz.func88 rfl Tryz.ntmps88 rfl (St.start (fun _ => False) w) ?_
  refine WC.seq <| WC.region <| WL.box rfl rfl rfl (.none rfl) rfl rfl <| ?_
  intro g1 hg1
  refine WL.v (v_assign rfl rfl) rfl <| WL.nt <| WC.seq <| WC.seq <| WC.region <| WL.v (v_fieldAddr0 rfl rfl fld_26_0) rfl <| WL.v (v_load1 rfl rfl one_3 (cellAt rfl)) rfl <| WL.nt <| WC.block <| WC.seq <| WC.region <| ?_
  refine WL.test (v_eql rfl rfl rfl) (.none rfl) rfl rfl (fun h6 => ?_) (fun h6 => ?_)
  ·
   refine WL.v (v_assign rfl rfl) rfl <| WL.nt <| WC.cond_t rfl <| WC.seq <| ?_
   refine WC.quiet mixed (by kernel_rfl) ?_
   refine WQ.val (v_fieldAddr0 rfl rfl fld_26_1) (.none rfl) rfl rfl <| WQ.val (v_load1 rfl rfl one_22 (cellAt rfl)) (.none rfl) rfl rfl <| WQ.call _ rfl rfl ck_128 (.none rfl) rfl rfl (fun w hS => Calls.still (PField_c w t.f) hS) <| ?_
   generalize hb9 : decide (isFld t.f) = bb
   cases bb
   ·
    refine WQ.val (v_not rfl rfl rfl) (.none rfl) rfl rfl <| WQ.val (v_move rfl rfl) (.none rfl) rfl rfl <| ?_
    iterate 7 refine WQ.skip rfl rfl rfl rfl rfl rfl ?_
    refine WQ.val (v_pick_t rfl rfl rfl) (.none rfl) rfl rfl <| WQ.val (v_move rfl rfl) (.none rfl) rfl rfl <| ?_
    iterate 6 refine WQ.skip rfl rfl rfl rfl rfl rfl ?_
    refine WQ.val (v_pick_t rfl rfl rfl) (.none rfl) rfl rfl <| WQ.nil <| WE.then_n <| WC.cond_t rfl <| WC.seq <| WC.region <| WL.v (v_assign rfl rfl) rfl <| WL.nt <| WC.ret <| WE.block_ret <| WE.then_ret <| WE.ret1 (P := Tryz.prog) (.inl rfl) Tryz.results88 rfl <| ?_
    exact fun w' h => ⟨by unfold argE; rw [if_pos h6, if_pos (.inl (of_decide_eq_false hb9))], h.frm⟩
   ·
    refine WQ.val (v_not rfl rfl rfl) (.none rfl) rfl rfl <| WQ.val (v_move rfl rfl) (.none rfl) rfl rfl <| WQ.val (v_fieldAddr0 rfl rfl fld_26_3) (.some rfl rfl rfl) rfl rfl <| WQ.val (v_load1 rfl rfl one_23 (cellAt rfl)) (.some rfl rfl rfl) rfl rfl <| WQ.val (v_fieldAddr0 rfl rfl fld_26_1) (.some rfl rfl rfl) rfl rfl <| WQ.val (v_load1 rfl rfl one_22 (cellAt rfl)) (.some rfl rfl rfl) rfl rfl <| WQ.call _ rfl rfl ck_98 (.some rfl rfl rfl) rfl rfl (fun w hS => Calls.still (full w (hG.keep (fun h => h) hS) (of_decide_eq_true hb9)) hS) <| WQ.val (v_andNot rfl rfl rfl (bits_andNot_u64 hm.1 hm.2 hfu.1 hfu.2)) (.some rfl rfl rfl) rfl rfl <| ?_
    refine WQ.test (v_neq rfl rfl rfl) (.some rfl rfl rfl) rfl rfl (fun h18 => ?_) (fun h18 => ?_)
    ·
     refine WQ.val (v_pick_f rfl rfl rfl) (.none rfl) rfl rfl <| WQ.val (v_move rfl rfl) (.none rfl) rfl rfl <| ?_
     iterate 6 refine WQ.skip rfl rfl rfl rfl rfl rfl ?_
     refine WQ.val (v_pick_t rfl rfl rfl) (.none rfl) rfl rfl <| WQ.nil <| WE.then_n <| WC.cond_t rfl <| WC.seq <| WC.region <| WL.v (v_assign rfl rfl) rfl <| WL.nt <| WC.ret <| WE.block_ret <| WE.then_ret <| WE.ret1 (P := Tryz.prog) (.inl rfl) Tryz.results88 rfl <| ?_
     exact fun w' h => ⟨by unfold argE; rw [if_pos h6, if_pos (.inr (.inl h18))], h.frm⟩
    ·
     refine WQ.val (v_pick_f rfl rfl rfl) (.none rfl) rfl rfl <| WQ.val (v_move rfl rfl) (.none rfl) rfl rfl <| WQ.val (v_fieldAddr0 rfl rfl fld_26_2) (.some rfl rfl rfl) rfl rfl <| WQ.val (v_load1 rfl rfl one_23 (cellAt rfl)) (.some rfl rfl rfl) rfl rfl <| WQ.val (v_fieldAddr0 rfl rfl fld_26_3) (.some rfl rfl rfl) rfl rfl <| WQ.val (v_load1 rfl rfl one_23 (cellAt rfl)) (.some rfl rfl rfl) rfl rfl <| WQ.val (v_andNot rfl rfl rfl (bits_andNot_u64 hv.1 hv.2 hm.1 hm.2)) (.some rfl rfl rfl) rfl rfl <| ?_
     refine WQ.test (v_neq rfl rfl rfl) (.some rfl rfl rfl) rfl rfl (fun h26 => ?_) (fun h26 => ?_)
     ·
      refine WQ.val (v_pick_f rfl rfl rfl) (.none rfl) rfl rfl <| WQ.nil <| WE.then_n <| WC.cond_t rfl <| WC.seq <| WC.region <| WL.v (v_assign rfl rfl) rfl <| WL.nt <| WC.ret <| WE.block_ret <| WE.then_ret <| WE.ret1 (P := Tryz.prog) (.inl rfl) Tryz.results88 rfl <| ?_
      exact fun w' h => ⟨by unfold argE; rw [if_pos h6, if_pos (.inr (.inr h26))], h.frm⟩
     ·
      refine WQ.val (v_pick_f rfl rfl rfl) (.none rfl) rfl rfl <| WQ.nil <| WE.then_n <| WC.cond_f rfl <| WC.skip <| WE.block_n <| WE.then_n <| WC.seq <| WC.region <| WL.v (v_assign rfl rfl) rfl <| WL.nt <| WC.ret <| WE.ret1 (P := Tryz.prog) (.inl rfl) Tryz.results88 rfl <| ?_
      have hb9 := of_decide_eq_true hb9
      exact fun w' h => ⟨by unfold argE; rw [if_pos h6, if_neg (fun q => by rcases q with q | q | q <;> contradiction)], h.frm⟩
  ·
   refine WL.v (v_assign rfl rfl) rfl <| WL.nt <| WC.cond_f rfl <| WC.seq <| WC.region <| ?_
   refine WL.test (v_eql rfl rfl rfl) (.none rfl) rfl rfl (fun h29 => ?_) (fun h29 => ?_)
   ·
    refine WL.v (v_assign rfl rfl) rfl <| WL.nt <| WC.cond_t rfl <| WC.seq <| ?_
    refine WC.quiet mixed (by kernel_rfl) ?_
    refine WQ.val (v_fieldAddr0 rfl rfl fld_26_1) (.none rfl) rfl rfl <| WQ.val (v_load1 rfl rfl one_22 (cellAt rfl)) (.none rfl) rfl rfl <| WQ.call _ rfl rfl ck_128 (.none rfl) rfl rfl (fun w hS => Calls.still (PField_c w t.f) hS) <| ?_
    generalize hb32 : decide (isFld t.f) = bb
    cases bb
    ·
     refine WQ.val (v_not rfl rfl rfl) (.none rfl) rfl rfl <| WQ.val (v_move rfl rfl) (.none rfl) rfl rfl <| ?_
     iterate 3 refine WQ.skip rfl rfl rfl rfl rfl rfl ?_
     refine WQ.val (v_pick_t rfl rfl rfl) (.none rfl) rfl rfl <| WQ.val (v_move rfl rfl) (.none rfl) rfl rfl <| ?_
     iterate 3 refine WQ.skip rfl rfl rfl rfl rfl rfl ?_
     refine WQ.val (v_pick_t rfl rfl rfl) (.none rfl) rfl rfl <| WQ.val (v_move rfl rfl) (.none rfl) rfl rfl <| ?_
     iterate 6 refine WQ.skip rfl rfl rfl rfl rfl rfl ?_
     refine WQ.val (v_pick_t rfl rfl rfl) (.none rfl) rfl rfl <| WQ.nil <| WE.then_n <| WC.cond_t rfl <| WC.seq <| WC.region <| WL.v (v_assign rfl rfl) rfl <| WL.nt <| WC.ret <| WE.block_ret <| WE.then_ret <| WE.ret1 (P := Tryz.prog) (.inl rfl) Tryz.results88 rfl <| ?_
     exact fun w' h => ⟨by unfold argE; rw [if_neg h6, if_pos h29, if_pos (.inl (of_decide_eq_false hb32))], h.frm⟩
    ·
     refine WQ.val (v_not rfl rfl rfl) (.none rfl) rfl rfl <| WQ.val (v_move rfl rfl) (.none rfl) rfl rfl <| WQ.val (v_fieldAddr0 rfl rfl fld_26_1) (.some rfl rfl rfl) rfl rfl <| WQ.val (v_load1 rfl rfl one_22 (cellAt rfl)) (.some rfl rfl rfl) rfl rfl <| ?_
     refine WQ.test (v_eql rfl rfl rfl) (.some rfl rfl rfl) rfl rfl (fun h37 => ?_) (fun h37 => ?_)
     ·
      refine WQ.val (v_pick_f rfl rfl rfl) (.none rfl) rfl rfl <| WQ.val (v_move rfl rfl) (.none rfl) rfl rfl <| ?_
      iterate 3 refine WQ.skip rfl rfl rfl rfl rfl rfl ?_
      refine WQ.val (v_pick_t rfl rfl rfl) (.none rfl) rfl rfl <| WQ.val (v_move rfl rfl) (.none rfl) rfl rfl <| ?_
      iterate 6 refine WQ.skip rfl rfl rfl rfl rfl rfl ?_
      refine WQ.val (v_pick_t rfl rfl rfl) (.none rfl) rfl rfl <| WQ.nil <| WE.then_n <| WC.cond_t rfl <| WC.seq <| WC.region <| WL.v (v_assign rfl rfl) rfl <| WL.nt <| WC.ret <| WE.block_ret <| WE.then_ret <| WE.ret1 (P := Tryz.prog) (.inl rfl) Tryz.results88 rfl <| ?_
      exact fun w' h => ⟨by unfold argE; rw [if_neg h6, if_pos h29, if_pos (.inr (.inl h37))], h.frm⟩
     ·
      refine WQ.val (v_pick_f rfl rfl rfl) (.none rfl) rfl rfl <| WQ.val (v_move rfl rfl) (.none rfl) rfl rfl <| WQ.val (v_fieldAddr0 rfl rfl fld_26_1) (.some rfl rfl rfl) rfl rfl <| WQ.val (v_load1 rfl rfl one_22 (cellAt rfl)) (.some rfl rfl rfl) rfl rfl <| ?_
      refine WQ.test (v_eql rfl rfl rfl) (.some rfl rfl rfl) rfl rfl (fun h42 => ?_) (fun h42 => ?_)
      ·
       refine WQ.val (v_pick_f rfl rfl rfl) (.none rfl) rfl rfl <| WQ.val (v_move rfl rfl) (.none rfl) rfl rfl <| ?_
       iterate 6 refine WQ.skip rfl rfl rfl rfl rfl rfl ?_
       refine WQ.val (v_pick_t rfl rfl rfl) (.none rfl) rfl rfl <| WQ.nil <| WE.then_n <| WC.cond_t rfl <| WC.seq <| WC.region <| WL.v (v_assign rfl rfl) rfl <| WL.nt <| WC.ret <| WE.block_ret <| WE.then_ret <| WE.ret1 (P := Tryz.prog) (.inl rfl) Tryz.results88 rfl <| ?_
       exact fun w' h => ⟨by unfold argE; rw [if_neg h6, if_pos h29, if_pos (.inr (.inr (.inl h42)))], h.frm⟩
      ·
       refine WQ.val (v_pick_f rfl rfl rfl) (.none rfl) rfl rfl <| WQ.val (v_move rfl rfl) (.none rfl) rfl rfl <| WQ.val (v_fieldAddr0 rfl rfl fld_26_2) (.some rfl rfl rfl) rfl rfl <| WQ.val (v_load1 rfl rfl one_23 (cellAt rfl)) (.some rfl rfl rfl) rfl rfl <| WQ.val (v_fieldAddr0 rfl rfl fld_26_1) (.some rfl rfl rfl) rfl rfl <| WQ.val (v_load1 rfl rfl one_22 (cellAt rfl)) (.some rfl rfl rfl) rfl rfl <| WQ.call _ rfl rfl ck_98 (.some rfl rfl rfl) rfl rfl (fun w hS => Calls.still (full w (hG.keep (fun h => h) hS) (of_decide_eq_true hb32)) hS) <| ?_
       refine WQ.test (v_gtr rfl rfl rfl) (.some rfl rfl rfl) rfl rfl (fun h50 => ?_) (fun h50 => ?_)
       ·
        refine WQ.val (v_pick_f rfl rfl rfl) (.none rfl) rfl rfl <| WQ.nil <| WE.then_n <| WC.cond_t rfl <| WC.seq <| WC.region <| WL.v (v_assign rfl rfl) rfl <| WL.nt <| WC.ret <| WE.block_ret <| WE.then_ret <| WE.ret1 (P := Tryz.prog) (.inl rfl) Tryz.results88 rfl <| ?_
        exact fun w' h => ⟨by unfold argE; rw [if_neg h6, if_pos h29, if_pos (.inr (.inr (.inr h50)))], h.frm⟩
       ·
        refine WQ.val (v_pick_f rfl rfl rfl) (.none rfl) rfl rfl <| WQ.nil <| WE.then_n <| WC.cond_f rfl <| WC.skip <| WE.block_n <| WE.then_n <| WC.seq <| WC.region <| WL.v (v_assign rfl rfl) rfl <| WL.nt <| WC.ret <| WE.ret1 (P := Tryz.prog) (.inl rfl) Tryz.results88 rfl <| ?_
        have hb32 := of_decide_eq_true hb32
        exact fun w' h => ⟨by unfold argE; rw [if_neg h6, if_pos h29, if_neg (fun q => by rcases q with q | q | q | q <;> contradiction)], h.frm⟩
   ·
    refine WL.v (v_assign rfl rfl) rfl <| WL.nt <| WC.cond_f rfl <| WC.skip <| WE.block_n <| WE.then_n <| WC.seq <| WC.region <| WL.v (v_assign rfl rfl) rfl <| WL.nt <| WC.ret <| WE.ret1 (P := Tryz.prog) (.inl rfl) Tryz.results88 rfl <| ?_
    exact fun w' h => ⟨by unfold argE; rw [if_neg h6, if_neg h29], h.frm⟩
end Go.Proofs.YtkeonnnhogaggaaGreatDoor
/- policy: the walk of a tree, as the code does it. -/
namespace Go.Proofs.YtkeonnnhogaggaaGreatDoor
open Go.RowKit

mutual
/-- The errno, and how many were counted. -/
def walkT : Nd → Int → Bool → Int → Int × Int
  | .mk k f v m a c kids, deep, pred, n =>
    if 16 < deep ∨ 64 < n + 1 then (34, n + 1)
    else if fitsP k pred = false then (12, n + 1)
    else if argE (.mk k f v m a c kids) ≠ 0 then (argE (.mk k f v m a c kids), n + 1)
    else if formE (.mk k f v m a c kids) ≠ 0 then (formE (.mk k f v m a c kids), n + 1)
    else walkKs k 0 kids (deep + 1) (n + 1)
def walkKs (k : Int) : Nat → List Nd → Int → Int → Int × Int
  | _, [], _, n => (0, n)
  | i, t :: ts, deep, n => if (walkT t deep (predK k i) n).1 ≠ 0 then walkT t deep (predK k i) n else walkKs k (i + 1) ts deep (walkT t deep (predK k i) n).2
end
theorem walkT_eq (t : Nd) (deep : Int) (pred : Bool) (n : Int) : walkT t deep pred n =
    if 16 < deep ∨ 64 < n + 1 then (34, n + 1) else if fitsP t.kind pred = false then (12, n + 1) else if argE t ≠ 0 then (argE t, n + 1) else if formE t ≠ 0 then (formE t, n + 1) else walkKs t.kind 0 t.kids (deep + 1) (n + 1) := by
  cases t; rw [walkT]; rfl
mutual
theorem walkT_le : ∀ (t : Nd) (deep : Int) (pred : Bool) (n : Int), 0 ≤ n → (walkT t deep pred n).1 = 0 → n ≤ (walkT t deep pred n).2 ∧ (walkT t deep pred n).2 ≤ 64
  | .mk k f v m a c kids, deep, pred, n, h0, he => by
    rw [walkT] at he ⊢
    split at he
    · cases he
    · split at he
      · cases he
      · split at he
        · rename_i h; exact absurd he h
        · split at he
          · rename_i h; exact absurd he h
          · rename_i h1 h2 h3 h4
            rw [if_neg h1, if_neg h2, if_neg h3, if_neg h4]
            have := walkKs_le k 0 kids (deep + 1) (n + 1) (by omega) (by omega) he
            omega
theorem walkKs_le (k : Int) : ∀ (i : Nat) (ts : List Nd) (deep n : Int), 0 ≤ n → n ≤ 64 → (walkKs k i ts deep n).1 = 0 → n ≤ (walkKs k i ts deep n).2 ∧ (walkKs k i ts deep n).2 ≤ 64
  | _, [], _, n, _, h1, _ => by rw [walkKs]; exact ⟨Int.le_refl _, h1⟩
  | i, t :: ts, deep, n, h0, h1, he => by
    rw [walkKs] at he ⊢
    split at he
    · rename_i h; exact absurd he h
    · rename_i h
      rw [if_neg h]
      have a := walkT_le t deep (predK k i) n h0 (Classical.not_not.1 h)
      have b := walkKs_le k (i + 1) ts deep _ (by omega) a.2 he
      omega
end
theorem Nd.kid_size {t u : Nd} {j : Nat} (h : t.kids[j]? = some u) : SizeOf.sizeOf u < SizeOf.sizeOf t := by
  cases t with
  | mk k f v m a c kids =>
    have h1 := List.sizeOf_lt_of_mem (List.mem_of_getElem? h)
    show SizeOf.sizeOf u < SizeOf.sizeOf (Nd.mk k f v m a c kids)
    simp only [Nd.mk.sizeOf_spec]
    have : SizeOf.sizeOf (Nd.mk k f v m a c kids).kids = SizeOf.sizeOf kids := rfl
    omega
theorem Nd.At.kidAt {w : World} {t u : Nd} {j b o : Nat} (h : t.At w) (hu : t.kids[j]? = some u) (e : t.ad = some ⟨b, o, none⟩) : w.rangeAt b (o + j * 5) (ndL u) := by
  obtain ⟨⟨b', o', e', hr⟩, _⟩ := h.kid hu
  rw [e] at e'
  injection e' with e'
  injection e' with e1 e2
  subst e1 e2
  exact hr
theorem St.swap22 {p : Nat → Prop} {w0 w : World} {a b c d : Ent} {L : List Ent} (h : St p w0 w (a :: b :: c :: d :: L)) : St p w0 w (c :: d :: a :: b :: L) :=
  h.perm ((List.perm_append_comm (l₁ := [c, d]) (l₂ := [a, b])).append_right L)
def ckF (gc gw : Nat) : Value := .func (.func 86) #[] #[.pointer (some ⟨gc, 0, none⟩), .pointer (some ⟨gw, 0, none⟩)]
set_option maxHeartbeats 1000000 in
theorem Chk1_c (p : Nat → Prop) (hp : ∀ b, ¬ p b) (w0 : World) (hG : GW w0) (gc gw : Nat) : ∀ (N : Nat) (t : Nd), SizeOf.sizeOf t ≤ N → ∀ (L : List Ent) (w : World) (deep : Int) (pred : Bool) (n : Int), t.In → (∀ w, St p w0 w L → t.At w) → 0 ≤ n → n ≤ 64 → 1 ≤ deep → deep ≤ 17 →
    St p w0 w (.row gc [.int .i64 n] :: .row gw [ckF gc gw] :: L) →
    Calls Tryz.prog 86 #[ndV t, .int .i64 deep, .bool pred, .pointer (some ⟨gc, 0, none⟩), .pointer (some ⟨gw, 0, none⟩)] w
      fun e w' => e = .returned (.int .i64 (walkT t deep pred n).1) ∧ St p w0 w' (.row gc [.int .i64 (walkT t deep pred n).2] :: .row gw [ckF gc gw] :: L) := by
  intro N
  induction N with
  | zero => intro t hN; cases t; simp only [Nd.mk.sizeOf_spec] at hN; omega
  | succ N ih =>
    intro t hN L w deep pred n hI hAt hn0 hn1 hd0 hd1 hS
    have hlen := hI.nums.2.2.2.2
    refine enter Tryz.func86 rfl Tryz.ntmps86 rfl hS ?_
    refine WC.seq <| WC.region <| WL.box rfl rfl rfl (.none rfl) rfl rfl <| ?_
    intro g5 hg5
    refine WL.v (v_assign rfl rfl) rfl <| WL.nt <| WC.seq <| WC.region <| WL.v (v_load1 rfl rfl one_3 (cellAt rfl)) rfl <| ?_
    refine WL.v (v_add rfl rfl rfl (w_i64 (by omega) (by omega))) rfl ?_
    refine WL.store1 rfl rfl rfl rfl one_3 (Nat.le_of_ble_eq_true rfl) (.none rfl) rfl <| WL.nt <| WC.seq <| WC.seq <| WC.region <| WL.v (v_move rfl rfl) rfl <| ?_
    refine WL.test (v_gtr rfl rfl rfl) (.none rfl) rfl rfl (fun h17 => ?_) (fun h17 => ?_)
    ·
     refine WL.v (v_move rfl rfl) rfl ?_
     iterate 2 refine WL.sk rfl ?_
     refine WL.v (v_pick_t rfl rfl rfl) rfl <| WL.nt <| WC.cond_t rfl <| WC.seq <| WC.region <| WL.v (v_assign rfl rfl) rfl <| WL.nt <| WC.ret <| WE.then_ret <| WE.ret1 (P := Tryz.prog) (.inl rfl) Tryz.results86 rfl <| ?_
     exact fun w' h => ⟨by rw [walkT_eq, if_pos (.inl h17)], by rw [walkT_eq, if_pos (.inl h17)]; exact h.tail⟩
    ·
     refine WL.v (v_move rfl rfl) rfl <| WL.val (v_load1 rfl rfl one_3 (cellAt rfl)) (.some rfl rfl rfl) rfl rfl <| ?_
     refine WL.test (v_gtr rfl rfl rfl) (.some rfl rfl rfl) rfl rfl (fun h20 => ?_) (fun h20 => ?_)
     ·
      refine WL.v (v_pick_f rfl rfl rfl) rfl <| WL.nt <| WC.cond_t rfl <| WC.seq <| WC.region <| WL.v (v_assign rfl rfl) rfl <| WL.nt <| WC.ret <| WE.then_ret <| WE.ret1 (P := Tryz.prog) (.inl rfl) Tryz.results86 rfl <| ?_
      exact fun w' h => ⟨by rw [walkT_eq, if_pos (.inr h20)], by rw [walkT_eq, if_pos (.inr h20)]; exact h.tail⟩
     ·
      refine WL.v (v_pick_f rfl rfl rfl) rfl <| WL.nt <| WC.cond_f rfl <| WC.skip <| WE.then_n <| WC.seq <| WC.seq <| WC.region <| WL.v (v_fieldAddr0 rfl rfl fld_26_0) rfl <| WL.v (v_load1 rfl rfl one_3 (cellAt rfl)) rfl <| WL.v (v_move rfl rfl) rfl <| WL.call rfl rfl ck_87 (.none rfl) rfl rfl <| ?_
      intro w hS
      refine Calls.then (Fits_c w t.kind pred) hS ?_
      generalize hb25 : fitsP t.kind pred = bb
      cases bb
      ·
       refine WL.v (v_not rfl rfl rfl) rfl <| WL.nt <| WC.cond_t rfl <| WC.seq <| WC.region <| WL.v (v_assign rfl rfl) rfl <| WL.nt <| WC.ret <| WE.then_ret <| WE.ret1 (P := Tryz.prog) (.inl rfl) Tryz.results86 rfl <| ?_
       have e := walkT_eq t deep pred n
       rw [if_neg (by omega), if_pos hb25] at e
       exact fun w' h => ⟨by rw [e], by rw [e]; exact h.tail⟩
      ·
       refine WL.v (v_not rfl rfl rfl) rfl <| WL.nt <| WC.cond_f rfl <| WC.skip <| WE.then_n <| WC.seq <| WC.seq <| WC.region <| WL.v (v_loadN rfl rfl many_26 rfl allAt) rfl <| WL.call rfl rfl ck_88 (.none rfl) rfl rfl <| ?_
       intro w hS
       refine Calls.then (Argu_c w t hI (hG.keep (hp _) hS)) hS ?_
       refine WL.v (v_assign rfl rfl) rfl <| WL.nt <| WC.seq <| WC.region <| WL.v (v_move rfl rfl) rfl <| ?_
       refine WL.test (v_neq rfl rfl rfl) (.none rfl) rfl rfl (fun h30 => ?_) (fun h30 => ?_)
       ·
        refine WL.nt <| WC.cond_t rfl <| WC.seq <| WC.region <| WL.v (v_move rfl rfl) rfl <| WL.v (v_assign rfl rfl) rfl <| WL.nt <| WC.ret <| WE.then_ret <| WE.ret1 (P := Tryz.prog) (.inl rfl) Tryz.results86 rfl <| ?_
        have e := walkT_eq t deep pred n
        rw [if_neg (by omega), if_neg (by rw [hb25]; decide), if_pos h30] at e
        exact fun w' h => ⟨by rw [e], by rw [e]; exact h.tail⟩
       ·
        refine WL.nt <| WC.cond_f rfl <| WC.skip <| WE.then_n <| WC.seq <| WC.seq <| WC.region <| WL.v (v_loadN rfl rfl many_26 rfl allAt) rfl <| WL.call rfl rfl ck_89 (.none rfl) rfl rfl <| ?_
        intro w hS
        refine Calls.then (Form_c w t hI) hS ?_
        refine WL.v (v_assign rfl rfl) rfl <| WL.nt <| WC.seq <| WC.region <| WL.v (v_move rfl rfl) rfl <| ?_
        refine WL.test (v_neq rfl rfl rfl) (.none rfl) rfl rfl (fun h35 => ?_) (fun h35 => ?_)
        ·
         refine WL.nt <| WC.cond_t rfl <| WC.seq <| WC.region <| WL.v (v_move rfl rfl) rfl <| WL.v (v_assign rfl rfl) rfl <| WL.nt <| WC.ret <| WE.then_ret <| WE.ret1 (P := Tryz.prog) (.inl rfl) Tryz.results86 rfl <| ?_
         have e := walkT_eq t deep pred n
         rw [if_neg (by omega), if_neg (by rw [hb25]; decide), if_neg h30, if_pos h35] at e
         exact fun w' h => ⟨by rw [e], by rw [e]; exact h.tail⟩
        ·
         refine WL.nt <| WC.cond_f rfl <| WC.skip <| WE.then_n <| WC.seq <| WC.seq <| WC.region <| WL.v (v_fieldAddr0 rfl rfl fld_26_4) rfl <| WL.v (v_load1 rfl rfl one_24 (cellAt rfl)) rfl <| WL.v (v_len_slice rfl rfl Tryz.underlying24) rfl <| WL.v (v_move rfl rfl) rfl <| WL.nt <| WC.block <| ?_
         refine WC.loop (fun x : Nat × Int => [(40, .int .i64 x.1), (39, .int .i64 t.kids.length), (38, .slice t.ad t.kids.length t.cap), (1, .int .i64 deep), (3, .pointer (some ⟨gc, 0, none⟩)), (4, .pointer (some ⟨gw, 0, none⟩)), (5, .pointer (some ⟨g5, 0, none⟩))]) (fun x => .row g5 (ndL t) :: .row gc [.int .i64 x.2] :: .row gw [ckF gc gw] :: L) (fun x => x.1 ≤ t.kids.length ∧ walkKs t.kind x.1 (t.kids.drop x.1) (deep + 1) x.2 = walkKs t.kind 0 t.kids (deep + 1) (n + 1) ∧ 0 ≤ x.2 ∧ x.2 ≤ 64) (fun x => t.kids.length - x.1) (0, n + 1) ⟨Nat.zero_le _, rfl, by dsimp only; omega, by dsimp only; omega⟩ (.cons rfl (.cons rfl (.cons rfl (.cons rfl (.cons rfl (.cons rfl (.cons rfl .nil))))))) (.refl _) ?_
         rintro ⟨k, c⟩ ⟨hk, hw, hc0, hc1⟩
         dsimp only at hk hw hc0 hc1
         dsimp only
         refine WC.seq <| WC.region <| ?_
         refine WL.test (v_lss rfl rfl rfl) (.none rfl) rfl rfl (fun h41 => ?_) (fun h41 => ?_)
         ·
          refine WL.nt <| WC.seq <| WC.cond_t rfl <| WC.skip <| WE.then_n <| WC.seq <| WC.block <| WC.seq <| WC.region <| WL.v (v_move rfl rfl) rfl <| ?_
          obtain ⟨u, hu⟩ : ∃ u, t.kids[k]? = some u := ⟨t.kids[k]'(by omega), List.getElem?_eq_getElem _⟩
          obtain ⟨b, o, ea, _⟩ := ((hAt _ hS.tail.tail.tail).kid hu).1
          have hdr : t.kids.drop k = u :: t.kids.drop (k + 1) := (by
            rw [List.drop_eq_getElem_cons (show k < t.kids.length by omega)]
            congr 1
            rw [List.getElem?_eq_getElem (show k < t.kids.length by omega)] at hu
            exact Option.some.inj hu)
          rw [hdr, walkKs] at hw
          refine WL.v (v_indexAddr (b := b) (off := o) (lo := k) rfl (by show some (Value.slice t.ad _ _) = _; rw [ea]) rfl Tryz.underlying24 sz_26 rfl (by omega)) rfl ?_
          refine WL.v (v_loadN (cs := ndL u) rfl rfl many_26 rfl (fun w' hS' => (hAt w' hS'.tail.tail.tail).kidAt hu ea)) rfl <| WL.alloc rfl zero_26 (.none rfl) rfl rfl <| ?_
          intro g12 hg12
          refine WL.v (v_assign rfl rfl) rfl <| WL.storeW rfl rfl rfl rfl many_26 rfl rfl (.none rfl) rfl <| WL.nt <| WC.seq <| WC.orders mixed <| ?_
          refine WR.first (g := 6) [2, 3, 5] (by kernel_rfl) (by kernel_rfl) ?_
          refine WP.val (v_move rfl rfl) (.none rfl) rfl rfl ?_
          refine WP.val (v_add rfl rfl rfl (w_i64 (by omega) (by omega))) (.none rfl) rfl rfl ?_
          refine WP.val (v_move rfl rfl) (.none rfl) rfl rfl <| WP.nil <| ?_
          refine WR.read (g := 2) [0, 1, 4, 6] (by kernel_rfl) (by kernel_rfl) (by kernel_rfl) (by kernel_rfl) rfl ?_
          refine WQ.val (v_load1 rfl rfl one_154 (cellAt rfl)) (.none rfl) rfl rfl <| WQ.val (v_loadN rfl rfl many_26 rfl allAt) (.none rfl) rfl rfl <| WQ.val (v_loadN rfl rfl many_26 rfl allAt) (.none rfl) rfl rfl <| WQ.call _ rfl rfl ck_90 (.none rfl) rfl rfl (fun w hS => Calls.still (PredKid_c w t k) hS) <| WQ.nilR <| ?_
          refine WR.ones (g := 1) [7] (by kernel_rfl) ?_
          refine WL.callV rfl rfl rfl ck_86 (.none rfl) rfl rfl ?_
          intro w1 hS1
          refine (ih u (by have := Nd.kid_size hu; omega) (.row g12 (ndL u) :: .row g5 (ndL t) :: L) w1 (deep + 1) (predK t.kind k) c (hI.kids.get _ _ _ hu) (fun w' hS' => ((hAt w' hS'.tail.tail).kid hu).2) hc0 hc1 (by omega) (by omega) hS1.swap22).mono ?_
          rintro e w' ⟨rfl, hS'⟩
          refine ⟨_, _, rfl, hS'.swap22, ?_⟩
          refine WL.nilR ?_
          refine WR.first (g := 0) [8] (by kernel_rfl) (by kernel_rfl) ?_
          refine WP.val (v_assign rfl rfl) (.none rfl) rfl rfl <| WP.nil <| ?_
          refine WR.done (by kernel_rfl) ?_
          refine WE.then_n <| WC.seq <| WC.region <| WL.v (v_move rfl rfl) rfl <| ?_
          refine WL.test (v_neq rfl rfl rfl) (.none rfl) rfl rfl (fun h54 => ?_) (fun h54 => ?_)
          ·
           refine WL.nt <| WC.cond_t rfl <| WC.seq <| WC.region <| WL.v (v_move rfl rfl) rfl <| WL.v (v_assign rfl rfl) rfl <| WL.nt <| WC.ret <| WE.block_ret <| WE.then_ret <| WE.then_ret <| WE.block_ret <| WE.then_ret <| WE.ret1 (P := Tryz.prog) (.inl rfl) Tryz.results86 rfl <| ?_
           have e := walkT_eq t deep pred n
           rw [if_pos h54] at hw
           rw [if_neg (by omega), if_neg (by rw [hb25]; decide), if_neg h30, if_neg h35, ← hw] at e
           exact fun w' h => ⟨by rw [e], by rw [e]; exact h.tail.tail⟩
          ·
           refine WL.nt <| WC.cond_f rfl <| WC.skip <| WE.block_n <| WE.then_n <| WC.region <| ?_
           refine WL.v (v_add rfl rfl rfl (w_i64 (by omega) (by omega))) rfl ?_
           refine WL.v (v_move rfl rfl) rfl <| WL.nil <| ?_
           have h54' := Classical.not_not.1 h54
           rw [if_neg (fun q => q h54')] at hw
           have hle := walkT_le u (deep + 1) (predK t.kind k) c hc0 h54'
           exact WE.next (k + 1, (walkT u (deep + 1) (predK t.kind k) c).2) (by dsimp only; omega) ⟨by dsimp only; omega, hw, by dsimp only; omega, by dsimp only; omega⟩ (.int rfl (by dsimp only; omega) (.cons rfl (.cons rfl (.cons rfl (.cons rfl (.cons rfl (.cons rfl .nil))))))) (.cons _ (.refl _))
         ·
          refine WL.nt <| WC.seq <| WC.cond_f rfl <| WC.exit <| WE.then_exit <| WE.then_exit <| WE.block_hit <| WE.then_n <| WC.seq <| WC.region <| WL.v (v_assign rfl rfl) rfl <| WL.nt <| WC.ret <| WE.ret1 (P := Tryz.prog) (.inl rfl) Tryz.results86 rfl <| ?_
          obtain rfl : k = t.kids.length := (by omega)
          have e := walkT_eq t deep pred n
          rw [List.drop_length, walkKs] at hw
          rw [if_neg (by omega), if_neg (by rw [hb25]; decide), if_neg h30, if_neg h35, ← hw] at e
          exact fun w' h => ⟨by rw [e], by rw [e]; exact h.tail⟩
end Go.Proofs.YtkeonnnhogaggaaGreatDoor
/- policy: Check, CheckPred; holds. -/
namespace Go.Proofs.YtkeonnnhogaggaaGreatDoor
open Go.RowKit

theorem St.range {p : Nat → Prop} {w0 w : World} {L : List Ent} (hp : ∀ b, ¬ p b) (hS : St p w0 w L) (b o : Nat) (cs : List Value) (h : w0.rangeAt b o cs) : w.rangeAt b o cs := fun j v hj => hS.old (hp b) (h j v hj)
theorem Nd.At.st {p : Nat → Prop} {w0 w : World} {L : List Ent} {t : Nd} (hp : ∀ b, ¬ p b) (h : t.At w0) (hS : St p w0 w L) : t.At w := Nd.At.keep (hS.range hp) t h
theorem check_c (w : World) (t : Nd) (pred : Bool) (hI : t.In) (hA : t.At w) (hG : GW w) :
    Calls Tryz.prog 42 #[ndV t, .bool pred] w fun e w' => e = .returned (.int .i64 (walkT t 1 pred 0).1) ∧ Frm (fun _ => False) w w' := by
  refine enter Tryz.func42 rfl Tryz.ntmps42 rfl (St.start (fun _ => False) w) ?_
  refine WC.seq <| WC.region <| WL.box rfl rfl rfl (.none rfl) rfl rfl <| ?_
  intro g2 hg2
  refine WL.v (v_assign rfl rfl) rfl <| WL.nt <| WC.seq <| WC.region <| WL.alloc rfl zero_3 (.none rfl) rfl rfl <| ?_
  intro g5 hg5
  refine WL.store1 rfl rfl rfl rfl one_3 (Nat.le_of_ble_eq_true rfl) (.none rfl) rfl <| WL.nt <| WC.seq <| WC.region <| WL.alloc rfl zero_154 (.none rfl) rfl rfl <| ?_
  intro g6 hg6
  refine WL.nt <| WC.seq <| WC.region <| WL.v (v_makeFunc rfl rfl rfl) rfl <| WL.store1 rfl rfl rfl rfl one_154 (Nat.le_of_ble_eq_true rfl) (.none rfl) rfl <| WL.nt <| WC.seq <| WC.region <| WL.v (v_load1 rfl rfl one_154 (cellAt rfl)) rfl <| WL.v (v_loadN rfl rfl many_26 rfl allAt) rfl <| WL.v (v_move rfl rfl) rfl <| WL.callV rfl rfl rfl ck_86 (.none rfl) rfl rfl <| ?_
  intro w1 hS1
  refine (Chk1_c (fun _ => False) (fun _ h => h) w hG g5 g6 _ t (Nat.le_refl _) [.row g2 (ndL t)] w1 1 pred 0 hI (fun w' hS' => hA.st (fun _ h => h) hS') (by omega) (by omega) (by omega) (by omega) (hS1.perm (List.Perm.swap _ _ _))).mono ?_
  rintro e w' ⟨rfl, hS'⟩
  refine ⟨_, _, rfl, hS', ?_⟩
  refine WL.v (v_assign rfl rfl) rfl <| WL.nt <| WC.ret <| WE.ret1 (P := Tryz.prog) (.inl rfl) Tryz.results42 rfl <| ?_
  exact fun w' h => ⟨rfl, h.frm⟩
theorem Check_c (w : World) (t : Nd) (hI : t.In) (hA : t.At w) (hG : GW w) :
    Calls Tryz.prog 14 #[ndV t] w fun e w' => e = .returned (.int .i64 (walkT t 1 false 0).1) ∧ Frm (fun _ => False) w w' := by
  refine enter Tryz.func14 rfl Tryz.ntmps14 rfl (St.start (fun _ => False) w) ?_
  refine WC.seq <| WC.region <| WL.box rfl rfl rfl (.none rfl) rfl rfl <| ?_
  intro g1 hg1
  refine WL.v (v_assign rfl rfl) rfl <| WL.nt <| WC.seq <| WC.region <| WL.v (v_loadN rfl rfl many_26 rfl allAt) rfl <| WL.call rfl rfl ck_42 (.none rfl) rfl rfl <| ?_
  intro w hS
  refine Calls.then (check_c w t false hI (hA.st (fun _ h => h) hS) (hG.keep (fun h => h) hS)) hS ?_
  refine WL.v (v_assign rfl rfl) rfl <| WL.nt <| WC.ret <| WE.ret1 (P := Tryz.prog) (.inl rfl) Tryz.results14 rfl <| ?_
  exact fun w' h => ⟨rfl, h.frm⟩
end Go.Proofs.YtkeonnnhogaggaaGreatDoor
/- rules.List: Find; Run where one act at most is to be done; the document's example of layer 17. -/
namespace Go.Proofs.YtkeonnnhogaggaaGreatDoor
open Go.RowKit

theorem rangeIn {p : Nat → Prop} {w0 : World} {L : List Ent} {b off : Nat} {cs : List Value} (hp : ¬ p b) (h : w0.rangeAt b off cs) : ∀ w, St p w0 w L → w.rangeAt b off cs := fun _ hS j v hj => hS.old hp (h j v hj)
structure Ru where
  m : Mt
  ad : Option Addr
  n : Nat
  c : Nat
def ruL (r : Ru) : List Value := mtL r.m ++ [.slice r.ad r.n r.c]
theorem ruL_acts (r : Ru) : (ruL r)[18]? = some (.slice r.ad r.n r.c) := by
  unfold ruL
  rw [List.getElem?_append_right (by rw [mtL_len]; omega), mtL_len]; rfl
theorem ruL_match (r : Ru) : seg (ruL r) 0 18 = mtL r.m := by
  unfold seg ruL
  rw [List.drop_zero, List.take_left' (mtL_len _)]
theorem ruL_len (r : Ru) : (ruL r).length = 19 := by simp [ruL, mtL_len]
/-- The first of so many, or -1. -/
def findI (t : Nat → Bool) (n : Nat) : Int := match (List.range n).find? t with | some k => (k : Int) | none => -1
theorem findI_some {t : Nat → Bool} {n k : Nat} (hk : k < n) (h : t k = true) (hb : ∀ j, j < k → t j = false) : findI t n = (k : Int) := by
  unfold findI
  rw [List.find?_range_eq_some.2 ⟨h, List.mem_range.2 hk, fun j hj => by rw [hb j hj]; rfl⟩]
theorem findI_none {t : Nat → Bool} {n : Nat} (hb : ∀ j, j < n → t j = false) : findI t n = -1 := by
  unfold findI
  rw [List.find?_eq_none.2 (fun x hx => by rw [hb x (List.mem_range.1 hx)]; decide)]
theorem Hit1_c (w : World) (gh : Nat) (r : Ru) (H : Hd) (hm : r.m.In) (hH : H.In) (hG : GW w) (hh : w.rangeAt gh 0 (hdL H)) :
    Calls Tryz.prog 124 #[.agg (ruL r).toArray, .pointer (some ⟨gh, 0, none⟩)] w fun e w' => e = .returned (.bool (decide (r.m.hits H))) ∧ Frm (fun _ => False) w w' := by
  refine enter Tryz.func124 rfl Tryz.ntmps124 rfl (St.start (fun _ => False) w) ?_
  refine WC.seq <| WC.region <| WL.box rfl rfl rfl (.none rfl) rfl rfl <| ?_
  intro g2 hg2
  refine WL.v (v_assign rfl rfl) rfl <| WL.nt <| WC.seq <| WC.region <| WL.v (v_fieldAddr0 rfl rfl fld_117_0) rfl <| WL.v (v_loadN rfl rfl many_115 rfl (segAt (m := 18) (ruL_match r))) rfl <| WL.v (v_loadN (cs := hdL H) rfl rfl many_59 rfl (rangeIn (fun h => h) hh)) rfl <| WL.call rfl rfl ck_113 (.none rfl) rfl rfl <| ?_
  intro w hS
  refine Calls.then (Hits_c w r.m H hm hH (hG.keep (fun h => h) hS)) hS ?_
  refine WL.v (v_assign rfl rfl) rfl <| WL.nt <| WC.ret <| WE.ret1 (P := Tryz.prog) (.inl rfl) Tryz.results124 rfl <| ?_
  exact fun w' h => ⟨rfl, h.frm⟩
theorem Idx_c (w : World) (b o n c gh : Nat) (R : Nat → Ru) (H : Hd) (hm : ∀ i, i < n → (R i).m.In) (hH : H.In) (hG : GW w) (hh : w.rangeAt gh 0 (hdL H)) (hn : n ≤ 1000000) (hl : ∀ i, i < n → w.rangeAt b (o + i * 19) (ruL (R i))) :
    Calls Tryz.prog 123 #[.slice (some ⟨b, o, none⟩) n c, .func (.func 124) #[] #[.pointer (some ⟨gh, 0, none⟩)]] w
      fun e w' => e = .returned (.int .i64 (findI (fun i => decide ((R i).m.hits H)) n)) ∧ Frm (fun _ => False) w w' := by
  refine enter Tryz.func123 rfl Tryz.ntmps123 rfl (St.start (fun _ => False) w) ?_
  refine WC.seq <| WC.region <| WL.v (v_assign rfl rfl) rfl <| WL.nt <| WC.seq <| WC.seq <| WC.region <| WL.v (v_move rfl rfl) rfl <| WL.v (v_len_slice rfl rfl Tryz.underlying34) rfl <| WL.v (v_move rfl rfl) rfl <| WL.nt <| WC.block <| ?_
  refine WC.loop (fun k : Nat => [(8, .int .i64 k), (7, .int .i64 n), (6, .slice (some ⟨b, o, none⟩) n c), (0, .slice (some ⟨b, o, none⟩) n c), (1, .func (.func 124) #[] #[.pointer (some ⟨gh, 0, none⟩)])]) (fun _ => []) (fun k => k ≤ n ∧ ∀ j, j < k → decide ((R j).m.hits H) = false) (fun k => n - k) 0 ⟨Nat.zero_le _, fun j h => absurd h (by omega)⟩ (.cons rfl (.cons rfl (.cons rfl (.cons rfl (.cons rfl .nil))))) (.refl _) ?_
  rintro k ⟨hk, hno⟩
  refine WC.seq <| WC.region <| ?_
  refine WL.test (v_lss rfl rfl rfl) (.none rfl) rfl rfl (fun h9 => ?_) (fun h9 => ?_)
  ·
   refine WL.nt <| WC.seq <| WC.cond_t rfl <| WC.skip <| WE.then_n <| WC.seq <| WC.block <| WC.seq <| WC.region <| WL.v (v_move rfl rfl) rfl <| WL.v (v_assign rfl rfl) rfl <| WL.nt <| WC.seq <| WC.region <| ?_
   refine WL.v (v_move rfl rfl) rfl <| WL.v (v_move rfl rfl) rfl <| WL.v (v_move rfl rfl) rfl <| ?_
   refine WL.v (v_indexAddr (lo := k) rfl rfl rfl Tryz.underlying34 sz_117 (by omega) (by omega)) rfl ?_
   refine WL.v (v_loadN (cs := ruL (R k)) rfl rfl many_117 (ruL_len _) (rangeIn (fun h => h) (hl k (by omega)))) rfl ?_
   refine WL.callV rfl rfl rfl ck_124 (.none rfl) rfl rfl ?_
   intro w hS
   refine Calls.then (Hit1_c w gh (R k) H (hm k (by omega)) hH (hG.keep (fun h => h) hS) (rangeIn (fun h => h) hh w hS)) hS ?_
   refine WL.nt ?_
   refine WC.cond_d rfl (fun h16 => ?_) (fun h16 => ?_)
   ·
    refine WC.seq <| WC.region <| WL.v (v_move rfl rfl) rfl <| WL.v (v_assign rfl rfl) rfl <| WL.nt <| WC.ret <| WE.block_ret <| WE.then_ret <| WE.then_ret <| WE.block_ret <| WE.then_ret <| WE.ret1 (P := Tryz.prog) (.inl rfl) Tryz.results123 rfl <| ?_
    exact fun w' h => ⟨by rw [findI_some (by omega) (decide_eq_true h16) hno], h.frm⟩
   ·
    refine WC.skip <| WE.block_n <| WE.then_n <| WC.region <| ?_
    refine WL.v (v_add rfl rfl rfl (w_i64 (by omega) (by omega))) rfl ?_
    refine WL.v (v_move rfl rfl) rfl <| WL.nil <| ?_
    exact WE.next (k + 1) (by omega) ⟨by omega, fun j hj => by
    by_cases e : j = k
    · subst e; exact decide_eq_false h16
    · exact hno j (by omega)⟩ (.int rfl (by omega) (.cons rfl (.cons rfl (.cons rfl (.cons rfl .nil))))) (.refl _)
  ·
   refine WL.nt <| WC.seq <| WC.cond_f rfl <| WC.exit <| WE.then_exit <| WE.then_exit <| WE.block_hit <| WE.then_n <| WC.seq <| WC.region <| WL.v (v_assign rfl rfl) rfl <| WL.nt <| WC.ret <| WE.ret1 (P := Tryz.prog) (.inl rfl) Tryz.results123 rfl <| ?_
   obtain rfl : k = n := (by omega)
   exact fun w' h => ⟨by rw [findI_none hno], h.frm⟩
theorem Find_c (w : World) (b o n c : Nat) (R : Nat → Ru) (H : Hd) (hm : ∀ i, i < n → (R i).m.In) (hH : H.In) (hG : GW w) (hn : n ≤ 1000000) (hl : ∀ i, i < n → w.rangeAt b (o + i * 19) (ruL (R i))) :
    Calls Tryz.prog 81 #[.slice (some ⟨b, o, none⟩) n c, .agg (hdCells H)] w
      fun e w' => e = .returned (.int .i64 (findI (fun i => decide ((R i).m.hits H)) n)) ∧ Frm (fun _ => False) w w' := by
  refine enter Tryz.func81 rfl Tryz.ntmps81 rfl (St.start (fun _ => False) w) ?_
  refine WC.seq <| WC.region <| WL.box rfl rfl rfl (.none rfl) rfl rfl <| ?_
  intro g3 hg3
  refine WL.v (v_assign rfl rfl) rfl <| WL.nt <| WC.seq <| WC.region <| WL.v (v_move rfl rfl) rfl <| WL.v (v_makeFunc rfl rfl rfl) rfl <| WL.call rfl rfl ck_123 (.none rfl) rfl rfl <| ?_
  intro w hS
  refine Calls.then (Idx_c w b o n c g3 R H hm hH (hG.keep (fun h => h) hS) (allAt (g := g3) w hS) hn (fun i hi => rangeIn (fun h => h) (hl i hi) w hS)) hS ?_
  refine WL.v (v_assign rfl rfl) rfl <| WL.nt <| WC.ret <| WE.ret1 (P := Tryz.prog) (.inl rfl) Tryz.results81 rfl <| ?_
  exact fun w' h => ⟨rfl, h.frm⟩
/-! ### A sort of one at most, and what stands beside it -/
set_option maxRecDepth 8000 in
theorem Len64_s (w : World) (n : Nat) (hn : n ≤ 1) : Calls Tryz.prog 156 #[.int .u64 n] w fun e w' => e = .returned (.int .i64 n) ∧ Frm (fun _ => False) w w' := by
  have hq : ((UInt8.ofNat n).toNat : Int) = n := (by match n, hn with | 0, _ => rfl | 1, _ => rfl)
  refine enter Tryz.func156 rfl Tryz.ntmps156 rfl (St.start (fun _ => False) w) ?_
  refine WC.seq <| WC.region <| WL.v (v_assign rfl rfl) rfl <| WL.nt <| WC.seq <| WC.seq <| WC.region <| WL.v (v_move rfl rfl) rfl <| ?_
  refine WL.v ((v_geq rfl rfl rfl).f (by omega)) rfl ?_
  refine WL.nt <| WC.cond_f rfl <| WC.skip <| WE.then_n <| WC.seq <| WC.seq <| WC.region <| WL.v (v_move rfl rfl) rfl <| ?_
  refine WL.v ((v_geq rfl rfl rfl).f (by omega)) rfl ?_
  refine WL.nt <| WC.cond_f rfl <| WC.skip <| WE.then_n <| WC.seq <| WC.seq <| WC.region <| WL.v (v_move rfl rfl) rfl <| ?_
  refine WL.v ((v_geq rfl rfl rfl).f (by omega)) rfl ?_
  refine WL.nt <| WC.cond_f rfl <| WC.skip <| WE.then_n <| WC.seq <| WC.region <| WL.v (v_move rfl rfl) rfl <| WL.v (v_move rfl rfl) rfl <| ?_
  refine WL.v (v_conv rfl rfl Tryz.underlying5 Tryz.underlying23 (by first | exact w_u8 (by omega) (by omega) | exact w_u8m _)) rfl ?_
  refine WL.v (v_indexS (lo := n) (v := UInt8.ofNat n) rfl rfl rfl Tryz.underlying9 (by omega) (by match n, hn with | 0, _ => exact rfl | 1, _ => exact rfl)) rfl ?_
  refine WL.v (v_conv rfl rfl Tryz.underlying3 Tryz.underlying5 (w_i64 (by omega) (by omega))) rfl ?_
  refine WL.v (v_add rfl rfl rfl (w_i64 (by omega) (by omega))) rfl ?_
  refine WL.v (v_assign rfl rfl) rfl <| WL.nt <| WC.ret <| WE.ret1 (P := Tryz.prog) (.inl rfl) Tryz.results156 rfl <| ?_
  exact fun w' h => ⟨by rw [← hq]; simp, h.frm⟩
theorem Len_s (w : World) (n : Nat) (hn : n ≤ 1) : Calls Tryz.prog 109 #[.int .u64 n] w fun e w' => e = .returned (.int .i64 n) ∧ Frm (fun _ => False) w w' := by
  refine enter Tryz.func109 rfl Tryz.ntmps109 rfl (St.start (fun _ => False) w) ?_
  refine WC.seq <| WC.region <| WL.v (v_assign rfl rfl) rfl <| WL.nt <| WC.seq <| WC.cond_f rfl <| WC.skip <| WE.then_n <| WC.seq <| WC.region <| WL.v (v_move rfl rfl) rfl <| WL.call rfl rfl ck_156 (.none rfl) rfl rfl <| ?_
  intro w hS
  refine Calls.then (Len64_s w n hn) hS ?_
  refine WL.v (v_assign rfl rfl) rfl <| WL.nt <| WC.ret <| WE.ret1 (P := Tryz.prog) (.inl rfl) Tryz.results109 rfl <| ?_
  exact fun w' h => ⟨rfl, h.frm⟩
theorem Insert_s (w : World) (ad : Option Addr) (n c : Nat) (f : Value) (hn : n ≤ 1) : Calls Tryz.prog 160 #[.slice ad n c, .int .i64 0, .int .i64 n, f] w fun e w' => e = .returned (.tuple #[]) ∧ Frm (fun _ => False) w w' := by
  refine enter Tryz.func160 rfl Tryz.ntmps160 rfl (St.start (fun _ => False) w) ?_
  refine WC.seq <| WC.region <| WL.v (v_move rfl rfl) rfl <| ?_
  refine WL.v (v_add rfl rfl rfl (w_i64 (by omega) (by omega))) rfl ?_
  refine WL.v (v_assign rfl rfl) rfl <| WL.nt <| WC.block <| WC.loop (fun _ : Unit => [(8, .int .i64 1), (2, .int .i64 n)]) (fun _ => []) (fun _ => True) (fun _ => 0) () trivial (.cons rfl (.cons rfl .nil)) (.refl _) <| ?_
  intro _ _
  refine WC.seq <| WC.seq <| WC.region <| WL.v (v_move rfl rfl) rfl <| WL.v (v_move rfl rfl) rfl <| ?_
  refine WL.v ((v_lss rfl rfl rfl).f (by omega)) rfl ?_
  refine WL.nt <| WC.cond_f rfl <| WC.exit <| WE.then_exit <| WE.then_exit <| WE.block_hit <| WE.ret0 (P := Tryz.prog) (.inr rfl) Tryz.results160  <| ?_
  exact fun w' h => ⟨rfl, h.frm⟩
theorem Pdq_s (w : World) (ad : Option Addr) (n c : Nat) (f : Value) (m : Int) (hn : n ≤ 1) : Calls Tryz.prog 120 #[.slice ad n c, .int .i64 0, .int .i64 n, .int .i64 m, f] w fun e w' => e = .returned (.tuple #[]) ∧ Frm (fun _ => False) w w' := by
  refine enter Tryz.func120 rfl Tryz.ntmps120 rfl (St.start (fun _ => False) w) ?_
  refine WC.seq <| WC.region <| WL.v (v_assign rfl rfl) rfl <| WL.nt <| WC.seq <| WC.region <| WL.v (v_assign rfl rfl) rfl <| WL.nt <| WC.block <| WC.loop (fun _ : Unit => [(0, .slice ad n c), (1, .int .i64 0), (2, .int .i64 n), (4, f)]) (fun _ => []) (fun _ => True) (fun _ => 0) () trivial (.cons rfl (.cons rfl (.cons rfl (.cons rfl .nil)))) (.refl _) <| ?_
  intro _ _
  refine WC.block <| WC.seq <| WC.region <| WL.v (v_move rfl rfl) rfl <| WL.v (v_move rfl rfl) rfl <| ?_
  refine WL.v (v_sub rfl rfl rfl (w_i64 (by omega) (by omega))) rfl ?_
  refine WL.v (v_assign rfl rfl) rfl <| WL.nt <| WC.seq <| WC.seq <| WC.region <| WL.v (v_move rfl rfl) rfl <| ?_
  refine WL.v ((v_leq rfl rfl rfl).t (by omega)) rfl ?_
  refine WL.nt <| WC.cond_t rfl <| WC.seq <| WC.region <| WL.v (v_move rfl rfl) rfl <| WL.v (v_move rfl rfl) rfl <| WL.v (v_move rfl rfl) rfl <| WL.v (v_move rfl rfl) rfl <| WL.call rfl rfl ck_160 (.none rfl) rfl rfl <| ?_
  intro w hS
  refine Calls.then (Insert_s w ad n c f hn) hS ?_
  refine WL.nt <| WC.ret <| WE.then_ret <| WE.block_ret <| WE.then_ret <| WE.block_ret <| WE.ret0 (P := Tryz.prog) (.inl rfl) Tryz.results120  <| ?_
  exact fun w' h => ⟨rfl, h.frm⟩
theorem Sort_s (w : World) (ad : Option Addr) (n c : Nat) (f : Value) (hn : n ≤ 1) : Calls Tryz.prog 77 #[.slice ad n c, f] w fun e w' => e = .returned (.tuple #[]) ∧ Frm (fun _ => False) w w' := by
  refine enter Tryz.func77 rfl Tryz.ntmps77 rfl (St.start (fun _ => False) w) ?_
  refine WC.seq <| WC.region <| WL.v (v_move rfl rfl) rfl <| WL.v (v_len_slice rfl rfl Tryz.underlying64) rfl <| WL.v (v_assign rfl rfl) rfl <| WL.nt <| WC.region <| WL.v (v_move rfl rfl) rfl <| WL.v (v_move rfl rfl) rfl <| WL.v (v_move rfl rfl) rfl <| ?_
  refine WL.v (v_conv rfl rfl Tryz.underlying172 Tryz.underlying3 (by first | exact w_u64 (by omega) (by omega) | exact w_u64m _)) rfl ?_
  refine WL.call rfl rfl ck_109 (.none rfl) rfl rfl ?_
  intro w hS
  refine Calls.then (Len_s w n hn) hS ?_
  refine WL.v (v_move rfl rfl) rfl <| WL.call rfl rfl ck_120 (.none rfl) rfl rfl <| ?_
  intro w hS
  refine Calls.then (Pdq_s w ad n c f n hn) hS ?_
  refine WL.nil <| WE.ret0 (P := Tryz.prog) (.inr rfl) Tryz.results77  <| ?_
  exact fun w' h => ⟨rfl, h.frm⟩
theorem Compact_s (w : World) (ad : Option Addr) (n c : Nat) (hn : n ≤ 1) : Calls Tryz.prog 79 #[.slice ad n c] w fun e w' => e = .returned (.slice ad n c) ∧ Frm (fun _ => False) w w' := by
  refine enter Tryz.func79 rfl Tryz.ntmps79 rfl (St.start (fun _ => False) w) ?_
  refine WC.seq <| WC.region <| WL.v (v_assign rfl rfl) rfl <| WL.nt <| WC.seq <| WC.seq <| WC.region <| WL.v (v_move rfl rfl) rfl <| WL.v (v_len_slice rfl rfl Tryz.underlying64) rfl <| ?_
  refine WL.v ((v_lss rfl rfl rfl).t (by omega)) rfl ?_
  refine WL.nt <| WC.cond_t rfl <| WC.seq <| WC.region <| WL.v (v_move rfl rfl) rfl <| WL.v (v_assign rfl rfl) rfl <| WL.nt <| WC.ret <| WE.then_ret <| WE.ret1 (P := Tryz.prog) (.inl rfl) Tryz.results79 rfl <| ?_
  exact fun w' h => ⟨rfl, h.frm⟩
end Go.Proofs.YtkeonnnhogaggaaGreatDoor
/- policy: holds. -/
namespace Go.Proofs.YtkeonnnhogaggaaGreatDoor
open Go.RowKit

mutual
/-- All is right with a tree (as a predicate, or as a policy). -/
def okT : Bool → Nd → Prop
  | pred, .mk k f v m a c kids => fitsP k pred = true ∧ argE (.mk k f v m a c kids) = 0 ∧ formE (.mk k f v m a c kids) = 0 ∧ okKs k 0 kids
def okKs (k : Int) : Nat → List Nd → Prop
  | _, [] => True
  | i, t :: ts => okT (predK k i) t ∧ okKs k (i + 1) ts
end
theorem okT.parts {t : Nd} {pred : Bool} (h : okT pred t) : fitsP t.kind pred = true ∧ argE t = 0 ∧ formE t = 0 ∧ okKs t.kind 0 t.kids := by
  cases t; unfold okT at h; exact h
theorem okKs.get {k : Int} : ∀ (ts : List Nd) (i j : Nat) (t : Nd), okKs k i ts → ts[j]? = some t → okT (predK k (i + j)) t
  | [], _, _, _, _, h => by simp at h
  | t :: ts, i, 0, t', h, ht => by
    simp only [List.getElem?_cons_zero, Option.some.injEq] at ht
    subst ht
    unfold okKs at h
    exact h.1
  | t :: ts, i, j + 1, t', h, ht => by
    unfold okKs at h
    rw [List.getElem?_cons_succ] at ht
    have := okKs.get ts (i + 1) j t' h.2 ht
    rwa [show i + 1 + j = i + (j + 1) by omega] at this
theorem okT.kid {t u : Nd} {pred : Bool} {j : Nat} (h : okT pred t) (hu : t.kids[j]? = some u) : okT (predK t.kind j) u := by
  have := h.parts.2.2.2.get _ 0 j u hu
  rwa [Nat.zero_add] at this
mutual
theorem walkT_ok : ∀ (t : Nd) (deep : Int) (pred : Bool) (n : Int), (walkT t deep pred n).1 = 0 → okT pred t
  | .mk k f v m a c kids, deep, pred, n, he => by
    rw [walkT] at he
    split at he
    · cases he
    · split at he
      · cases he
      · split at he
        · rename_i h; exact absurd he h
        · split at he
          · rename_i h; exact absurd he h
          · rename_i h1 h2 h3 h4
            unfold okT
            exact ⟨by simpa using h2, Classical.not_not.1 h3, Classical.not_not.1 h4, walkKs_ok k 0 kids (deep + 1) (n + 1) he⟩
theorem walkKs_ok (k : Int) : ∀ (i : Nat) (ts : List Nd) (deep n : Int), (walkKs k i ts deep n).1 = 0 → okKs k i ts
  | _, [], _, _, _ => by unfold okKs; trivial
  | i, t :: ts, deep, n, he => by
    rw [walkKs] at he
    split at he
    · rename_i h; exact absurd he h
    · rename_i h
      unfold okKs
      exact ⟨walkT_ok t deep (predK k i) n (Classical.not_not.1 h), walkKs_ok k (i + 1) ts deep _ he⟩
end
mutual
/-- Whether a predicate holds of a header. -/
def holdsT (H : Hd) : Nd → Bool
  | .mk k f v m _ _ kids => if k = 1 then true else if k = 3 then decide (andN (xorN (getF H f.toNat) v) m = 0) else if k = 4 then !(holdsKs H kids).getD 0 false else if k = 5 then (holdsKs H kids).all id else if k = 6 then (holdsKs H kids).any id else false
def holdsKs (H : Hd) : List Nd → List Bool
  | [] => []
  | t :: ts => holdsT H t :: holdsKs H ts
end
end Go.Proofs.YtkeonnnhogaggaaGreatDoor
/- policy: holds, Holds. -/
namespace Go.Proofs.YtkeonnnhogaggaaGreatDoor
open Go.RowKit

theorem formE_le {t : Nd} (h : formE t = 0) : leastK t.kind ≤ t.kids.length ∧ (t.kids.length : Int) ≤ mostK t.kind := by
  unfold formE at h
  split at h
  · cases h
  · omega
end Go.Proofs.YtkeonnnhogaggaaGreatDoor
/- rules.List: Run where one act at most is to be done; the document's example of layer 17. -/
namespace Go.Proofs.YtkeonnnhogaggaaGreatDoor
open Go.RowKit

def hdsL (Hs : List Hd) : List Value := Hs.flatMap hdL
theorem hdsL_snoc (Hs : List Hd) (H : Hd) : hdsL Hs ++ hdL H = hdsL (Hs ++ [H]) := by simp [hdsL]
def outs (a : Nat → Ac) (H : Hd) (k : Nat) : List Hd := (List.range k).map fun i => appK (a i) H 9
theorem outs_succ (a : Nat → Ac) (H : Hd) (k : Nat) : outs a H (k + 1) = outs a H k ++ [appK (a k) H 9] := by simp [outs, List.range_succ]
set_option maxHeartbeats 1000000 in
theorem Run_s (p : Nat → Prop) (hp : ∀ b, ¬ p b) (w0 w : World) (L : List Ent) (hS : St p w0 w L) (b o n c : Nat) (R : Nat → Ru) (a : Nat → Ac) (H : Hd) (k : Nat) (hk : k < n) (hm : ∀ i, i < n → (R i).m.In) (hH : H.In) (hG : GW w0) (hn : n ≤ 1000000)
    (hl : ∀ w, St p w0 w L → ∀ i, i < n → w.rangeAt b (o + i * 19) (ruL (R i))) (hf : findI (fun i => decide ((R i).m.hits H)) n = (k : Int)) (h1 : (R k).n ≤ 1)
    (b' o' : Nat) (ha : 0 < (R k).n → (R k).ad = some ⟨b', o', none⟩) (har : ∀ w, St p w0 w L → ∀ i, i < (R k).n → w.rangeAt b' (o' + i * 10) (acL (a i))) (hai : ∀ i, (a i).In) (hao : ∀ i, (a i).Ok) :
    Calls Tryz.prog 40 #[.slice (some ⟨b, o, none⟩) n c, .agg (hdCells H)] w
      fun e w' => ∃ ad c' E, e = .returned (.slice ad (R k).n c') ∧ Vec 19 ad (R k).n c' (hdsL (outs a H (R k).n)) E ∧ St p w0 w' (E ++ L) := by
  refine enter Tryz.func40 rfl Tryz.ntmps40 rfl hS ?_
  refine WC.seq <| WC.region <| WL.box rfl rfl rfl (.none rfl) rfl rfl <| ?_
  intro g3 hg3
  refine WL.v (v_assign rfl rfl) rfl <| WL.nt <| WC.seq <| WC.region <| WL.v (v_move rfl rfl) rfl <| WL.v (v_loadN rfl rfl many_59 rfl allAt) rfl <| WL.call rfl rfl ck_81 (.none rfl) rfl rfl <| ?_
  intro w hS
  refine Calls.then (Find_c w b o n c R H hm hH (hG.keep (hp _) hS) hn (hl w hS.tail)) hS ?_
  refine WL.v (v_assign rfl rfl) rfl <| WL.nt <| WC.seq <| WC.seq <| WC.region <| WL.v (v_move rfl rfl) rfl <| ?_
  refine WL.v ((v_lss rfl rfl rfl).f (fun h => by rw [hf] at h; omega)) rfl ?_
  refine WL.nt <| WC.cond_f rfl <| WC.skip <| WE.then_n <| WC.seq <| WC.region <| WL.v (v_assign rfl rfl) rfl <| WL.nt <| WC.seq <| WC.seq <| WC.region <| WL.v (v_move rfl rfl) rfl <| WL.v (v_move rfl rfl) rfl <| ?_
  refine WL.v (v_indexAddr (lo := k) rfl rfl rfl Tryz.underlying34 sz_117 (by exact hf) (by omega)) rfl ?_
  refine WL.v (v_fieldAddr rfl rfl fld_117_1) rfl <| WL.v (v_load1 rfl rfl one_113 (fun w hS => hl w hS.tail k hk 18 _ (ruL_acts _))) rfl <| WL.v (v_len_slice rfl rfl Tryz.underlying113) rfl <| WL.v (v_move rfl rfl) rfl <| WL.nt <| WC.block <| WC.loop (fun x : Nat × Option Addr × Nat × List Ent => [(20, .int .i64 x.1), (19, .int .i64 (R k).n), (18, .slice (R k).ad (R k).n (R k).c), (6, .slice x.2.1 x.1 x.2.2.1), (3, .pointer (some ⟨g3, 0, none⟩))]) (fun x => x.2.2.2 ++ (.row g3 (hdL H) :: L)) (fun x => x.1 ≤ (R k).n ∧ Vec 19 x.2.1 x.1 x.2.2.1 (hdsL (outs a H x.1)) x.2.2.2) (fun x => (R k).n - x.1) (0, none, 0, []) ⟨Nat.zero_le _, Vec.nil 19⟩ (.cons rfl (.cons rfl (.cons rfl (.cons rfl (.cons rfl .nil))))) (.refl _) <| ?_
  rintro ⟨j, ad, c', E⟩ ⟨hj, hV⟩
  dsimp only at hj hV
  dsimp only
  refine WC.seq <| WC.region <| ?_
  refine WL.test (v_lss rfl rfl rfl) (.none rfl) rfl rfl (fun h21 => ?_) (fun h21 => ?_)
  ·
   refine WL.nt <| WC.seq <| WC.cond_t rfl <| WC.skip <| WE.then_n <| WC.seq <| WC.block <| WC.seq <| WC.region <| ?_
   refine WL.v (v_indexAddr (b := b') (off := o') (lo := j) rfl (by show some (Value.slice (R k).ad _ _) = _; rw [ha (by omega)]) rfl Tryz.underlying113 sz_110 rfl (by omega)) rfl ?_
   refine WL.v (v_loadN rfl rfl many_110 rfl (fun w hS => har w (hS.sub (List.sublist_append_of_sublist_right (.cons _ (.refl _)))) j (by omega))) rfl ?_
   refine WL.alloc rfl zero_110 (.none rfl) rfl rfl ?_
   intro g8 hg8
   refine WL.storeW rfl rfl rfl rfl many_110 rfl rfl (.none rfl) rfl <| WL.nt <| WC.region <| WL.v (v_move rfl rfl) rfl <| WL.v (v_loadN rfl rfl many_110 rfl allAt) rfl <| WL.v (v_loadN rfl rfl many_59 rfl allAt) rfl <| WL.call rfl rfl ck_82 (.none rfl) rfl rfl <| ?_
   intro w hS
   refine Calls.then (Apply_c w (a j) H (hai j) (hao j) (hG.keep (hp _) hS)) hS ?_
   refine WL.buildSlice rfl rfl Tryz.underlying64 sz_59 zero_59 rfl (by decide) rfl (.none rfl) rfl rfl ?_
   intro g28 hg28
   refine WL.to (L' := E ++ (.row g28 (hdL (appK (a j) H 9)) :: .row g8 (acL (a j)) :: .row g3 (hdL H) :: L)) (fun w hS => hS.front [_, _]) ?_
   refine WL.appendL rfl rfl rfl Tryz.underlying64 Tryz.underlying64 sz_59 by_59 zero_59 rfl rfl hV (new := hdL (appK (a j) H 9)) (fun _ => ⟨g28, 0, rfl, fun w hS => allAt (g := g28) w hS⟩) rfl rfl (by omega) (.none rfl) rfl rfl ?_
   intro ad29 c29 E29 hV29 hr29
   refine WL.v (v_assign rfl rfl) rfl <| WL.nil <| WE.block_n <| WE.then_n <| WC.region <| ?_
   refine WL.v (v_add rfl rfl rfl (w_i64 (by omega) (by omega))) rfl ?_
   refine WL.v (v_move rfl rfl) rfl <| WL.nil <| ?_
   exact WE.next (j + 1, ad29, c29, E29) (by dsimp only; omega) ⟨by dsimp only; omega, by dsimp only; rw [outs_succ, ← hdsL_snoc]; exact hV29⟩ (.int rfl (by dsimp only; omega) (.cons rfl (.cons rfl (.cons rfl (.cons rfl .nil))))) (List.Sublist.append_left (.cons _ (.cons _ (.refl _))) _)
  ·
   refine WL.nt <| WC.seq <| WC.cond_f rfl <| WC.exit <| WE.then_exit <| WE.then_exit <| WE.block_hit <| WE.then_n <| WC.seq <| WC.region <| WL.v (v_move rfl rfl) rfl <| WL.call rfl rfl ck_77 (.none rfl) rfl rfl <| ?_
   intro w hS
   refine Calls.then (Sort_s w ad j c' _ (by omega)) hS ?_
   refine WL.nt <| WC.seq <| WC.region <| WL.v (v_move rfl rfl) rfl <| WL.call rfl rfl ck_79 (.none rfl) rfl rfl <| ?_
   intro w hS
   refine Calls.then (Compact_s w ad j c' (by omega)) hS ?_
   refine WL.v (v_assign rfl rfl) rfl <| WL.nt <| WC.ret <| WE.ret1 (P := Tryz.prog) (.inl rfl) Tryz.results40 rfl <| ?_
   obtain rfl : j = (R k).n := (by omega)
   exact fun w' h => ⟨ad, c', E, rfl, hV, h.sub (List.Sublist.append_left (.cons _ (.refl _)) _)⟩
def mt0 : Mt := ⟨fun _ => 0, fun _ => 0⟩
def h80 : Hd := { Hd.zero with dp := 80 }
theorem Hd.zero_in : Hd.zero.In := by constructor <;> (try intro k) <;> first | decide | exact ⟨Int.le_refl _, (by decide : (0 : Int) ≤ 255)⟩
theorem h80_in : h80.In := by constructor <;> (try intro k) <;> first | decide | exact ⟨Int.le_refl _, (by decide : (0 : Int) ≤ 255)⟩
end Go.Proofs.YtkeonnnhogaggaaGreatDoor
/- policy: headers that are the same; Index, Contains, gather. -/
namespace Go.Proofs.YtkeonnnhogaggaaGreatDoor
open Go.RowKit

def Hd.same (A B : Hd) : Prop := A.port = B.port ∧ (∀ i, i < 6 → A.src i = B.src i) ∧ (∀ i, i < 6 → A.dst i = B.dst i) ∧ A.ty = B.ty ∧ A.sip = B.sip ∧ A.dip = B.dip ∧ A.proto = B.proto ∧ A.sp = B.sp ∧ A.dp = B.dp
instance (A B : Hd) : Decidable (A.same B) := by unfold Hd.same; infer_instance
theorem hdL_len (H : Hd) : (hdL H).length = 19 := rfl
/-- Headers lie there, one behind the other. -/
def HdsAt (w : World) (ad : Option Addr) (Hs : List Hd) : Prop := ∀ (i : Nat) (H : Hd), Hs[i]? = some H → ∃ b o, ad = some ⟨b, o, none⟩ ∧ w.rangeAt b (o + i * 19) (hdL H)
def inHs (Hs : List Hd) (H : Hd) : Bool := Hs.any fun x => decide (H.same x)
/-- What gather makes of two lists. -/
def gatherT (all : List Hd) : List Hd → Option (List Hd)
  | [] => some all
  | h :: more => if inHs all h then gatherT all more else if all.length = 64 then none else gatherT (all ++ [h]) more
end Go.Proofs.YtkeonnnhogaggaaGreatDoor
/- policy: gather. -/
namespace Go.Proofs.YtkeonnnhogaggaaGreatDoor
open Go.RowKit

/-- A list of headers, and whether there is one. -/
def HdsPost (p : Nat → Prop) (w0 : World) (L : List Ent) (o : Option (List Hd)) (e : Ending) (w' : World) : Prop :=
  ∃ Rs ad c E b, e = .returned (.tuple #[.slice ad (List.length Rs) c, .bool b]) ∧ Vec 19 ad (List.length Rs) c (hdsL Rs) E ∧ St p w0 w' (E ++ L) ∧ ((b = true ∧ o = some Rs) ∨ (b = false ∧ o = none ∧ Rs = [] ∧ ad = none ∧ c = 0))
end Go.Proofs.YtkeonnnhogaggaaGreatDoor
/- Acts: the plain law. -/
namespace Go.Proofs.YtkeonnnhogaggaaGreatDoor
open Go.RowKit

/-! ### Two acts as one -/
/-! ### The order of acts -/
end Go.Proofs.YtkeonnnhogaggaaGreatDoor
/- policy: run, par, seq. -/
namespace Go.Proofs.YtkeonnnhogaggaaGreatDoor
open Go.RowKit

/-- One stage of a sequence: what each header gives, gathered. -/
def seqStep (f : Hd → Option (List Hd)) : List Hd → List Hd → Option (List Hd)
  | [], nx => some nx
  | g :: gs, nx => (f g).bind fun out => (gatherT nx out).bind fun nx' => seqStep f gs nx'
mutual
/-- What a policy makes of a header, in the order in which it comes. -/
def runT : Nd → Hd → Option (List Hd)
  | .mk k f v _ _ _ kids, H =>
    if k = 12 then some [H]
    else if k = 13 then (if (holdsKs H kids).getD 0 false then some [H] else some [])
    else if k = 14 then some [wthF f.toNat v H]
    else if k = 15 then parKs kids H []
    else if k = 16 then seqKs kids [H]
    else if k = 17 then (if (holdsKs H kids).getD 0 false then nthKs kids 1 H else nthKs kids 2 H)
    else some []
def parKs : List Nd → Hd → List Hd → Option (List Hd)
  | [], _, all => some all
  | t :: ts, H, all => (runT t H).bind fun out => (gatherT all out).bind fun all' => parKs ts H all'
def seqKs : List Nd → List Hd → Option (List Hd)
  | [], all => some all
  | t :: ts, all => (seqStep (fun g => runT t g) all []).bind fun next => seqKs ts next
def nthKs : List Nd → Nat → Hd → Option (List Hd)
  | [], _, _ => none
  | t :: _, 0, H => runT t H
  | _ :: ts, i + 1, H => nthKs ts i H
end
/-- A list that may be carried on. -/
structure Good (Rs : List Hd) : Prop where
  len : Rs.length ≤ 64
  all : ∀ x ∈ Rs, x.In
/-- A Set's field and number are in their bounds. -/
theorem argE_set {t : Nd} (h : argE t = 0) (hk : t.kind = 14) : ∃ q : Nat, t.f = q ∧ q < 9 ∧ t.f.toNat = q ∧ t.val ≤ fullI q := by
  unfold argE at h
  rw [if_neg (by omega), if_pos hk] at h
  split at h
  · cases h
  · rename_i hh
    obtain ⟨q, e, hq, e2⟩ := isFld.nat (Classical.not_not.1 fun k => hh (.inl k))
    refine ⟨q, e, hq, e2, ?_⟩
    rw [← e2]
    exact Int.not_lt.1 fun k => hh (.inr (.inr (.inr k)))
end Go.Proofs.YtkeonnnhogaggaaGreatDoor
/- policy: par and seq, walked. -/
namespace Go.Proofs.YtkeonnnhogaggaaGreatDoor
open Go.RowKit

theorem Nd.kidN {t u : Nd} {j N : Nat} (hN : SizeOf.sizeOf t ≤ N + 1) (h : t.kids[j]? = some u) : SizeOf.sizeOf u ≤ N := by
  have := Nd.kid_size h; omega
theorem drop_cons {α : Type} {ts : List α} {k : Nat} {u : α} (hu : ts[k]? = some u) : ts.drop k = u :: ts.drop (k + 1) := by
  obtain ⟨hk, e⟩ := List.getElem?_eq_some_iff.1 hu
  rw [List.drop_eq_getElem_cons hk, e]
end Go.Proofs.YtkeonnnhogaggaaGreatDoor
/- policy: run, Run. -/
namespace Go.Proofs.YtkeonnnhogaggaaGreatDoor
open Go.RowKit

end Go.Proofs.YtkeonnnhogaggaaGreatDoor
/- The sort of headers: its order; its worlds as mine. -/
namespace Go.Proofs.YtkeonnnhogaggaaGreatDoor
open Go.RowKit Go.Sort

/-! ### The order -/
abbrev HdI := { H : Hd // H.In }
instance : Inhabited HdI := ⟨⟨Hd.zero, Hd.zero_in⟩⟩
/-! ### Worlds -/
end Go.Proofs.YtkeonnnhogaggaaGreatDoor
/- The kit's laying SlLaysF0.n6 at this seat's functions. Printed by wip/tools/lays.py. -/
namespace Go.Proofs.YtkeonnnhogaggaaGreatDoor
open Go.RowKit Go.Shelf

end Go.Proofs.YtkeonnnhogaggaaGreatDoor
/- slices.SortFunc of headers, whatever their number. -/
namespace Go.Proofs.YtkeonnnhogaggaaGreatDoor
open Go.RowKit Go.Sort

/-- Ascending: no later one is less than an earlier one. -/
def Asc (Rs : List Hd) : Prop := ∀ (i j : Nat) (A B : Hd), Rs[i]? = some A → Rs[j]? = some B → i < j → ¬ hcmpK B A 9 < 0
end Go.Proofs.YtkeonnnhogaggaaGreatDoor
/- policy: Run; Fwd; the law's own par, seq, filter. -/
namespace Go.Proofs.YtkeonnnhogaggaaGreatDoor
open Go.RowKit

/-- What Run hands back. -/
def RunIs (t : Nd) (H : Hd) (Rs : List Hd) (er : Int) : Prop :=
  if (walkT t 1 false 0).1 ≠ 0 then er = (walkT t 1 false 0).1 ∧ Rs = []
  else if H.okB = false then er = 1 ∧ Rs = []
  else match runT t H with
    | none => er = 34 ∧ Rs = []
    | some Qs => er = 0 ∧ Rs.Perm Qs ∧ Asc Rs
/-- The node that sends to a port. -/
def fwdN (v : Int) : Nd := .mk 14 0 v 0 none 0 []
theorem Fwd_c (w : World) (port : Int) :
    Calls Tryz.prog 36 #[.int .i64 port] w fun e w' => e = .returned (ndV (fwdN (port % 256))) ∧ Frm (fun _ => False) w w' := by
  refine enter Tryz.func36 rfl Tryz.ntmps36 rfl (St.start (fun _ => False) w) ?_
  refine WC.seq <| WC.region <| WL.alloc rfl zero_26 (.none rfl) rfl rfl <| ?_
  intro g2 hg2
  refine WL.nt <| WC.seq <| WC.region <| WL.v (v_move rfl rfl) rfl <| WL.v (v_conv rfl rfl Tryz.underlying23 Tryz.underlying3 (w_u64m _)) rfl <| ?_
  refine WL.v (v_and rfl rfl rfl (mask_u64 (i := 8) (m := 256) (by decide) (by decide) (by decide) (by omega) (by omega))) rfl ?_
  refine WL.v (v_build rfl rfl zero_26 plc_26 rfl) rfl <| WL.storeW rfl rfl rfl rfl many_26 rfl rfl (.none rfl) rfl <| WL.nt <| WC.ret <| WE.ret1 (P := Tryz.prog) (.inl rfl) Tryz.results36 (resRow rfl many_26 rfl) <| ?_
  exact fun w' h => ⟨by rw [show port % 18446744073709551616 % 256 = port % 256 by omega]; rfl, h.frm⟩
end Go.Proofs.YtkeonnnhogaggaaGreatDoor
/- policy: the document's example of layer 16. -/
namespace Go.Proofs.YtkeonnnhogaggaaGreatDoor
open Go.RowKit

theorem Nd.In_mk {k f v m : Int} {a : Option Addr} {c : Nat} {kids : List Nd} (hk : -9223372036854775808 ≤ k ∧ k ≤ 9223372036854775807) (hf : -9223372036854775808 ≤ f ∧ f ≤ 9223372036854775807) (hv : 0 ≤ v ∧ v ≤ 18446744073709551615) (hm : 0 ≤ m ∧ m ≤ 18446744073709551615) (hl : kids.length ≤ 9223372036854775807) (hI : KidsIn kids) : (Nd.mk k f v m a c kids).In := by
  unfold Nd.In; exact ⟨hk, hf, hv, hm, hl, hI⟩
theorem KidsIn.nil : KidsIn [] := by unfold KidsIn; trivial
theorem KidsIn.cons {t : Nd} {ts : List Nd} (h : t.In) (hs : KidsIn ts) : KidsIn (t :: ts) := by unfold KidsIn; exact ⟨h, hs⟩
theorem fwdN_in {v : Int} (hv : 0 ≤ v ∧ v ≤ 18446744073709551615) : (fwdN v).In := Nd.In_mk (by omega) (by omega) hv (by omega) (by show 0 ≤ _; omega) KidsIn.nil
theorem Nd.At_leaf {w : World} {k f v m : Int} {a : Option Addr} {c : Nat} : (Nd.mk k f v m a c []).At w := by unfold Nd.At KidsAt; trivial
theorem Nd.At_one {w : World} {k f v m : Int} {g c : Nat} {t : Nd} (h : w.rangeAt g 0 (ndL t)) (ht : t.At w) : (Nd.mk k f v m (some ⟨g, 0, none⟩) c [t]).At w := by
  unfold Nd.At KidsAt KidsAt
  exact ⟨⟨g, 0, rfl, h⟩, ht, trivial⟩
theorem Nd.At_two {w : World} {k f v m : Int} {g c : Nat} {t u : Nd} (h : w.rangeAt g 0 (ndL t ++ ndL u)) (ht : t.At w) (hu : u.At w) : (Nd.mk k f v m (some ⟨g, 0, none⟩) c [t, u]).At w := by
  have h1 : w.rangeAt g 0 (ndL t) := fun j x hj => h j x (by rw [List.getElem?_append_left (List.getElem?_eq_some_iff.1 hj).1]; exact hj)
  have h2 : w.rangeAt g (0 + 1 * 5) (ndL u) := fun j x hj => by
    have := h (5 + j) x (by rw [List.getElem?_append_right (by show 5 ≤ 5 + j; omega)]; rw [show 5 + j - (ndL t).length = j by show 5 + j - 5 = j; omega]; exact hj)
    rwa [show 0 + 1 * 5 + j = 0 + (5 + j) by omega]
  unfold Nd.At KidsAt KidsAt KidsAt
  exact ⟨⟨g, 0, rfl, h1⟩, ht, ⟨g, 0, rfl, h2⟩, hu, trivial⟩
end Go.Proofs.YtkeonnnhogaggaaGreatDoor
/- policy: what a policy makes of a header, as a relation between the numbers of headers. -/
namespace Go.Proofs.YtkeonnnhogaggaaGreatDoor
open Go.RowKit

abbrev Ky := Nat → Int
mutual
def holdsG (h : Ky) : Nd → Bool
  | .mk k f v m _ _ kids => if k = 1 then true else if k = 3 then decide (andN (xorN (h f.toNat) v) m = 0) else if k = 4 then !(holdsGs h kids).getD 0 false else if k = 5 then (holdsGs h kids).all id else if k = 6 then (holdsGs h kids).any id else false
def holdsGs (h : Ky) : List Nd → List Bool
  | [] => []
  | t :: ts => holdsG h t :: holdsGs h ts
end
def updK (k : Nat) (v : Int) (h : Ky) : Ky := fun j => if j = k then v else h j
mutual
/-- g is among what a policy makes of h. -/
def OutT : Nd → Ky → Ky → Prop
  | .mk k f v _ _ _ kids, h, g =>
    if k = 12 then g = h
    else if k = 13 then (holdsGs h kids).getD 0 false = true ∧ g = h
    else if k = 14 then g = updK f.toNat v h
    else if k = 15 then OutPar kids h g
    else if k = 16 then OutSeq kids h g
    else if k = 17 then (if (holdsGs h kids).getD 0 false then OutNth kids 1 h g else OutNth kids 2 h g)
    else False
def OutPar : List Nd → Ky → Ky → Prop
  | [], _, _ => False
  | t :: ts, h, g => OutT t h g ∨ OutPar ts h g
def OutSeq : List Nd → Ky → Ky → Prop
  | [], h, g => g = h
  | t :: ts, h, g => ∃ m, OutT t h m ∧ OutSeq ts m g
def OutNth : List Nd → Nat → Ky → Ky → Prop
  | [], _, _, _ => False
  | t :: _, 0, h, g => OutT t h g
  | _ :: ts, i + 1, h, g => OutNth ts i h g
end
/-! ### Headers that are right -/
structure Hd.Rt (H : Hd) : Prop where
  isIn : H.In
  ok : H.okB = true
/-! ### Lists of headers -/
/-- A number list stands among headers. -/
def inK (Rs : List Hd) (g : Ky) : Prop := ∃ x ∈ Rs, getF x = g
/-- Right headers, each once. -/
structure Once (Rs : List Hd) : Prop where
  all : ∀ x ∈ Rs, x.Rt
  nd : (Rs.map getF).Nodup
/-! ### Sorted lists -/
def ltK (f g : Ky) : Prop := lexK f g 9 < 0
end Go.Proofs.YtkeonnnhogaggaaGreatDoor
/- Comparisons in three ways; lists in strict order are told by what is in them. -/
namespace Go.Proofs.YtkeonnnhogaggaaGreatDoor
open Go.RowKit

/-- A comparison: below 0, 0, above 0. -/
structure Cm {α : Type} (c : α → α → Int) : Prop where
  refl : ∀ a, c a a = 0
  sgn : ∀ a b, 0 < c a b ↔ c b a < 0
  tr : ∀ a b d, c a b ≤ 0 → c b d ≤ 0 → c a d ≤ 0
section
variable {α β : Type} {c d : α → α → Int}
theorem Cm.zero (h : Cm c) {a b : α} (e : c a b = 0) : c b a = 0 := by have := h.sgn a b; have := h.sgn b a; omega
theorem Cm.lt_le (h : Cm c) {a b e : α} (h1 : c a b < 0) (h2 : c b e ≤ 0) : c a e < 0 := by
  have := h.tr a b e (by omega) h2
  have := h.sgn b a; have := h.sgn e a; have := h.sgn a e
  have : c e a ≤ 0 → c b a ≤ 0 := h.tr b e a h2
  omega
theorem Cm.le_lt (h : Cm c) {a b e : α} (h1 : c a b ≤ 0) (h2 : c b e < 0) : c a e < 0 := by
  have := h.tr a b e h1 (by omega)
  have := h.sgn e b; have := h.sgn e a; have := h.sgn a e
  have : c e a ≤ 0 → c e b ≤ 0 := fun k => h.tr e a b k h1
  omega
theorem Cm.lex (hc : Cm c) (hd : Cm d) : Cm (fun a b => if c a b ≠ 0 then c a b else d a b) := by
  refine ⟨fun a => by rw [if_neg (by rw [hc.refl]; omega), hd.refl], fun a b => ?_, fun a b e h1 h2 => ?_⟩
  · have k1 := hc.sgn a b; have k2 := hc.sgn b a; have k3 := hd.sgn a b
    by_cases h : c a b = 0
    · rw [if_neg (by omega), if_neg (by omega)]; exact k3
    · rw [if_pos h, if_pos (by omega)]; exact k1
  · have l1 : c a b ≤ 0 := by split at h1 <;> omega
    have l2 : c b e ≤ 0 := by split at h2 <;> omega
    by_cases z1 : c a b = 0
    · by_cases z2 : c b e = 0
      · rw [if_neg (by omega)] at h1 h2
        have e1 := hc.tr a b e l1 l2
        have e2 := hc.tr e b a (by have := hc.zero z2; omega) (by have := hc.zero z1; omega)
        have e3 := hc.sgn a e; have e4 := hc.sgn e a
        rw [if_neg (by omega)]
        exact hd.tr a b e h1 h2
      · have := hc.le_lt l1 (show c b e < 0 by omega)
        rw [if_pos (by omega)]; omega
    · have := hc.lt_le (show c a b < 0 by omega) l2
      rw [if_pos (by omega)]; omega
theorem Cm.on (f : β → α) (h : Cm c) : Cm (fun a b => c (f a) (f b)) := ⟨fun _ => h.refl _, fun _ _ => h.sgn _ _, fun _ _ _ => h.tr _ _ _⟩
theorem Cm.triv : Cm (fun (_ _ : α) => 0) := ⟨fun _ => rfl, fun _ _ => by omega, fun _ _ _ _ _ => by omega⟩
/-- Two lists in strict order with the same in them are one. -/
theorem strict_only (h : Cm c) : ∀ (l m : List α), l.Pairwise (fun a b => c a b < 0) → m.Pairwise (fun a b => c a b < 0) → (∀ x, x ∈ l ↔ x ∈ m) → l = m
  | [], [], _, _, _ => rfl
  | [], y :: m, _, _, hm => absurd ((hm y).2 (List.mem_cons_self ..)) (by simp)
  | x :: l, [], _, _, hm => absurd ((hm x).1 (List.mem_cons_self ..)) (by simp)
  | x :: l, y :: m, h1, h2, hm => by
    rw [List.pairwise_cons] at h1 h2
    have irr : ∀ z, ¬ c z z < 0 := fun z => by have := h.refl z; omega
    have e : x = y := by
      rcases List.mem_cons.1 ((hm x).1 (List.mem_cons_self ..)) with e | hx
      · exact e
      · rcases List.mem_cons.1 ((hm y).2 (List.mem_cons_self ..)) with e | hy
        · exact e.symm
        · have a1 := h2.1 x hx; have a2 := h1.1 y hy; have := h.sgn x y; omega
    subst e
    refine congrArg (x :: ·) (strict_only h l m h1.2 h2.2 fun z => ⟨fun hz => ?_, fun hz => ?_⟩)
    · rcases List.mem_cons.1 ((hm z).1 (List.mem_cons_of_mem _ hz)) with e | hz'
      · subst e; exact absurd (h1.1 z hz) (irr z)
      · exact hz'
    · rcases List.mem_cons.1 ((hm z).2 (List.mem_cons_of_mem _ hz)) with e | hz'
      · subst e; exact absurd (h2.1 z hz) (irr z)
      · exact hz'
end
/-- What follows p, each that is as its neighbour ahead left out. -/
def uq {α : Type} (eq : α → α → Bool) : α → List α → List α
  | _, [] => []
  | p, x :: l => if eq x p then uq eq x l else x :: uq eq x l
def uniq {α : Type} (eq : α → α → Bool) : List α → List α
  | [] => []
  | x :: l => x :: uq eq x l
section
variable {α : Type} {eq : α → α → Bool}
theorem uq_snoc (b : α) : ∀ (l : List α) (p : α), uq eq p (l ++ [b]) = uq eq p l ++ if eq b ((p :: l).getLast (List.cons_ne_nil _ _)) then [] else [b]
  | [], p => by
    show (if eq b p then [] else [b]) = [] ++ _
    rw [List.nil_append]; rfl
  | x :: l, p => by
    show (if eq x p then uq eq x (l ++ [b]) else x :: uq eq x (l ++ [b])) = (if eq x p then uq eq x l else x :: uq eq x l) ++ _
    rw [uq_snoc b l x]
    have e : (p :: x :: l).getLast (List.cons_ne_nil _ _) = (x :: l).getLast (List.cons_ne_nil _ _) := rfl
    rw [e]
    split <;> rfl
theorem uq_len : ∀ (l : List α) (p : α), (uq eq p l).length ≤ l.length
  | [], _ => Nat.le_refl _
  | x :: l, p => by
    show (if eq x p then uq eq x l else x :: uq eq x l).length ≤ l.length + 1
    have := uq_len l x
    split
    · omega
    · rw [List.length_cons]; omega
theorem uniq_len (l : List α) : (uniq eq l).length ≤ l.length := by
  cases l with
  | nil => exact Nat.le_refl _
  | cons x l => show (uq eq x l).length + 1 ≤ l.length + 1; have := uq_len (eq := eq) l x; omega
theorem uq_sub : ∀ (l : List α) (p : α), (uq eq p l).Sublist l
  | [], _ => .refl _
  | x :: l, p => by
    show (if eq x p then uq eq x l else x :: uq eq x l).Sublist (x :: l)
    split
    · exact .cons _ (uq_sub l x)
    · exact (uq_sub l x).cons_cons _
theorem uniq_sub (l : List α) : (uniq eq l).Sublist l := by
  cases l with
  | nil => exact .refl _
  | cons x l => exact (uq_sub l x).cons_cons _
/-- One more: it stays out if it is as the last one. -/
theorem uniq_take {l : List α} {m : Nat} {a b : α} (ha : l[m]? = some a) (hb : l[m + 1]? = some b) : uniq eq (l.take (m + 2)) = uniq eq (l.take (m + 1)) ++ if eq b a then [] else [b] := by
  have lb := (List.getElem?_eq_some_iff.1 hb).1
  have e1 : l.take (m + 2) = l.take (m + 1) ++ [b] := by
    rw [List.take_succ_eq_append_getElem lb]
    congr 2
    exact Option.some.inj ((List.getElem?_eq_getElem lb).symm.trans hb)
  have e2 : l.take (m + 1) = l.take m ++ [a] := by
    have la := (List.getElem?_eq_some_iff.1 ha).1
    rw [List.take_succ_eq_append_getElem la]
    congr 2
    exact Option.some.inj ((List.getElem?_eq_getElem la).symm.trans ha)
  rw [e1]
  cases hq : l.take (m + 1) with
  | nil => rw [e2] at hq; simp at hq
  | cons x r =>
    show x :: uq eq x (r ++ [b]) = x :: uq eq x r ++ _
    rw [uq_snoc b r x]
    have e3 : (x :: r).getLast (List.cons_ne_nil _ _) = a := by
      have : ∀ (q : List α) (hq : q ≠ []), q = l.take m ++ [a] → q.getLast hq = a := fun q hn e => by subst e; simp
      exact this _ _ (hq ▸ e2)
    rw [e3]
    rfl
theorem uq_strict {c : α → α → Int} (hc : Cm c) : ∀ (l : List α) (p : α), (p :: l).Pairwise (fun a b => c a b ≤ 0) → (∀ x ∈ l, ∀ y ∈ p :: l, eq x y = false → c y x ≠ 0) → (∀ y ∈ uq eq p l, c p y < 0) ∧ (uq eq p l).Pairwise fun a b => c a b < 0
  | [], _, _, _ => ⟨fun y h => (by cases h), List.Pairwise.nil⟩
  | x :: l, p, h, hn => by
    rw [List.pairwise_cons] at h
    have ih := uq_strict hc l x h.2 (fun z hz y hy => hn z (List.mem_cons_of_mem _ hz) y (List.mem_cons_of_mem _ hy))
    have hpx := h.1 x (List.mem_cons_self ..)
    show (∀ y ∈ (if eq x p then uq eq x l else x :: uq eq x l), c p y < 0) ∧ (if eq x p then uq eq x l else x :: uq eq x l).Pairwise _
    split
    · exact ⟨fun y hy => hc.le_lt hpx (ih.1 y hy), ih.2⟩
    · rename_i he
      have h0 := hn x (List.mem_cons_self ..) p (List.mem_cons_self ..) (by simpa using he)
      refine ⟨fun y hy => ?_, List.pairwise_cons.2 ⟨ih.1, ih.2⟩⟩
      rcases List.mem_cons.1 hy with rfl | hy
      · omega
      · exact hc.le_lt hpx (ih.1 y hy)
/-- In order, what is left is in strict order. -/
theorem uniq_strict {c : α → α → Int} (hc : Cm c) {l : List α} (h : l.Pairwise fun a b => c a b ≤ 0) (hn : ∀ x ∈ l, ∀ y ∈ l, eq x y = false → c y x ≠ 0) : (uniq eq l).Pairwise fun a b => c a b < 0 := by
  cases l with
  | nil => exact List.Pairwise.nil
  | cons x l =>
    have := uq_strict hc l x h (fun z hz y hy => hn z (List.mem_cons_of_mem _ hz) y hy)
    exact List.pairwise_cons.2 this
theorem uq_mem : ∀ (l : List α) (p : α), (∀ x ∈ l, ∀ y ∈ p :: l, eq x y = true → x = y) → ∀ x ∈ l, x ∈ p :: uq eq p l
  | [], _, _, x, h => by cases h
  | z :: l, p, he, x, hx => by
    have ih := uq_mem l z fun x hx y hy => he x (List.mem_cons_of_mem _ hx) y (List.mem_cons_of_mem _ hy)
    have hz : x ∈ z :: uq eq z l := by
      rcases List.mem_cons.1 hx with rfl | hx
      · exact List.mem_cons_self ..
      · exact ih x hx
    show x ∈ p :: (if eq z p then uq eq z l else z :: uq eq z l)
    split
    · rename_i e
      have := he z (List.mem_cons_self ..) p (List.mem_cons_self ..) e
      subst this; exact hz
    · exact List.mem_cons_of_mem _ hz
theorem uniq_mem {l : List α} (he : ∀ x ∈ l, ∀ y ∈ l, eq x y = true → x = y) (x : α) : x ∈ uniq eq l ↔ x ∈ l := by
  refine ⟨fun h => (uniq_sub l).subset h, fun h => ?_⟩
  cases l with
  | nil => cases h
  | cons z l =>
    rcases List.mem_cons.1 h with rfl | h
    · exact List.mem_cons_self ..
    · exact uq_mem l z (fun x hx y hy => he x (List.mem_cons_of_mem _ hx) y hy) x h
end
end Go.Proofs.YtkeonnnhogaggaaGreatDoor
/- The engine: a region that draws its order, of which every operation only makes new things: each operation's value is said by itself, and the order does not matter. -/
namespace Go.Proofs.YtkeonnnhogaggaaGreatDoor
open Go.RowKit

/-- What is said of a value; it stays true where only new blocks come. -/
structure SpT where
  S : Value → World → Prop
  st : ∀ v w w', S v w → Frm (fun _ => False) w w' → S v w'
def spec (Ss : List SpT) (i : Nat) (v : Value) (w : World) : Prop := match Ss[i]? with | some s => s.S v w | none => True
def Given (Ss : List SpT) (w1 : World) (G : Kn → Prop) : List (Nat × Nat) → Kn → Prop
  | [], l => G l
  | x :: js, l => ∀ v, spec Ss x.1 v w1 → Given Ss w1 G js ((x.2, v) :: l)
abbrev FreeX := Nat × Nat × List (Nat × Nat)
section
variable {P : Program} {os : List Oper} {Q : Exit → Act → World → Prop} {n : Nat} {p : Nat → Prop} {w0 : World} {l : Kn} {L : List Ent}
/-- What an operation must hand on. -/
def FreeK (Ss : List SpT) (i d : Nat) (w1 : World) (n : Nat) (l' : Kn) : Act → World → Prop := fun a' w' => Frm (fun _ => False) w1 w' ∧ ∃ v, spec Ss i v w' ∧ Has n a' ((d, v) :: l')
def FreeStep (P : Program) (os : List Oper) (Q : Exit → Act → World → Prop) (n : Nat) (p : Nat → Prop) (w0 : World) (Ss : List SpT) (l : Kn) (L : List Ent) (x : FreeX) : Prop :=
  ∀ w1, St p w0 w1 L → ∀ lx : Kn, Given Ss w1 (fun l' => WL P os.toArray (RQ (FreeK Ss x.1 x.2.1 w1 n l') (NP Q)) n (fun _ => False) w1 [at_ os x.1] l' []) x.2.2 (l ++ lx)
/-! ### The checks -/
def boundTo (o : Oper) (j : Nat) : Bool := o.after.toList.any fun e => Region.binds .any e && Nat.beq e.on j
def slotIs (os : List Oper) (j d : Nat) : Bool := match os[j]? with | some o => (match o.dst with | some e => Nat.beq e d | none => false) | none => false
def frB1 (os : List Oper) (ks : List Nat) (n : Nat) (k : Nat) (x : FreeX) : Bool :=
  Nat.beq x.1 k && slotIs os k x.2.1 && Nat.blt x.2.1 n && !(ks.contains x.2.1) &&
  (match os[k]? with
   | some o => o.after.toList.all (fun e => Nat.blt e.on k) && x.2.2.all (fun y => boundTo o y.1 && slotIs os y.1 y.2)
   | none => false)
def frB (os : List Oper) (ks : List Nat) (n : Nat) : Nat → List FreeX → List Nat → Bool
  | k, [], _ => Nat.beq k os.length
  | k, x :: X, used => frB1 os ks n k x && !(used.contains x.2.1) && frB os ks n (k + 1) X (x.2.1 :: used)
structure FreeOk (os : List Oper) (ks : List Nat) (n : Nat) (X : List FreeX) : Prop where
  len : X.length = os.length
  one : ∀ (k : Nat) (x : FreeX), X[k]? = some x → frB1 os ks n k x = true
  dif : ∀ (j k : Nat) (x y : FreeX), X[j]? = some x → X[k]? = some y → j ≠ k → x.2.1 ≠ y.2.1
/-- All that is listed, as the frame says. -/
def seen (os : List Oper) (listed : Array Bool) (a : Act) : Nat → Kn
  | 0 => []
  | k + 1 => match os[k]? with
    | some o => (match o.dst with | some d => if listed.getD k false = true then (d, a.tmps.getD d undef) :: seen os listed a k else seen os listed a k | none => seen os listed a k)
    | none => seen os listed a k
/-- What holds on the way. -/
structure FreeInv (os : List Oper) (n : Nat) (p : Nat → Prop) (w0 : World) (Ss : List SpT) (l : Kn) (L : List Ent) (listed : Array Bool) (a : Act) (w : World) : Prop where
  size : listed.size = os.length
  has : Has n a l
  st : St p w0 w L
  sp : ∀ j o d, os[j]? = some o → o.dst = some d → listed.getD j false = true → spec Ss j (a.tmps.getD d undef) w
def left (os : List Oper) (listed : Array Bool) : Nat := ((List.range os.length).filter fun j => !listed.getD j false).length
def outsB (os : List Oper) (outs : List (Nat × Nat)) : Bool := outs.all fun y => slotIs os y.1 y.2
end
end Go.Proofs.YtkeonnnhogaggaaGreatDoor
/- The engine: functions of the runtime's own (externs), append to a full slice whose cells are known, x[:hi:max]. -/
namespace Go.Proofs.YtkeonnnhogaggaaGreatDoor
open Go.RowKit

/-- What a call has made beside what was there. -/
theorem St.join {p : Nat → Prop} {w0 w1 w' : World} {L M : List Ent} (hS : St p w0 w1 L) (h : St (fun _ => False) w1 w' M) : St p w0 w' (M ++ L) := by
  refine ⟨hS.frm.trans (h.frm.mono (fun _ h => h.elim)), ?_, ?_, ?_⟩
  · intro e he
    rcases List.mem_append.1 he with he | he
    · exact h.holds e he
    · exact Ent.keep (hS.holds e he) (h.frm.block _ (Ent.lt (hS.holds e he)) (fun h => h))
  · rw [List.map_append, List.nodup_append]
    refine ⟨h.dist, hS.dist, ?_⟩
    rintro a ha b hb rfl
    obtain ⟨e, he, e1⟩ := List.mem_map.1 ha
    obtain ⟨e', he', e2⟩ := List.mem_map.1 hb
    have h1 := (h.mine e he).resolve_left (fun h => h)
    have h2 := Ent.lt (hS.holds e' he')
    omega
  · intro e he
    rcases List.mem_append.1 he with he | he
    · exact .inr (Nat.le_trans hS.frm.size ((h.mine e he).resolve_left (fun h => h)))
    · exact hS.mine e he
theorem rgIn {p : Nat → Prop} {w0 : World} {L : List Ent} {b off : Nat} {cs : List Value} (hp : ¬ p b) (h : w0.rangeAt b off cs) : ∀ w, St p w0 w L → w.rangeAt b off cs := fun _ hS j v hj => hS.old hp (h j v hj)
section
variable {P : Program} {C : World → Prop} {ops : Array Oper} {Q : Exit → Act → World → Prop} {n : Nat} {p : Nat → Prop} {w0 : World} {o : Oper} {rest : List Oper} {l : Kn} {L : List Ent}
section
variable {t tx e s by_ k d m : Nat} {ad : Option Addr} {xs new zs : List Value} {x y : Operand}
end
end
end Go.Proofs.YtkeonnnhogaggaaGreatDoor
/- slices.SortFunc at any element of k cells, whatever their number: the kit's sort as my worlds. -/
namespace Go.Proofs.YtkeonnnhogaggaaGreatDoor
open Go.RowKit Go.Sort Go.Shelf

theorem gs_ext : ∀ a b : World, a.heap = b.heap → a.tape = b.tape → a.drawn = b.drawn → a.os = b.os → a.output = b.output → a = b := by
  rintro ⟨⟩ ⟨⟩ h1 h2 h3 h4 h5
  dsimp only at h1 h2 h3 h4 h5
  subst h1 h2 h3 h4 h5
  rfl
theorem Frm.grows {w w' : World} (h : Frm (fun _ => False) w w') : ∃ q os', w' = Go.Sort.grow (w.drewN q) os' := by
  refine ⟨w'.drawn - w.drawn, (w'.heap.toList.drop w.heap.size).toArray, ?_⟩
  have h1 := h.drawn
  have hh : w'.heap = w.heap ++ (w'.heap.toList.drop w.heap.size).toArray := by
    apply Array.ext_getElem?
    intro k
    rw [Array.getElem?_append]
    split
    · rename_i hk; exact h.block k hk (fun h => h)
    · rename_i hk
      simp only [List.getElem?_toArray, List.getElem?_drop, Array.getElem?_toList]
      rw [show w.heap.size + (k - w.heap.size) = k by omega]
  exact gs_ext _ _ hh h.tape (by show w'.drawn = w.drawn + (w'.drawn - w.drawn); omega) h.os h.output
/-- Elements as cells. -/
def encL {α : Type} (enc : α → List Value) : List α → List Value
  | [] => []
  | x :: xs => enc x ++ encL enc xs
theorem encL_len {α : Type} {enc : α → List Value} {k : Nat} (hk : ∀ x, (enc x).length = k) : ∀ xs : List α, (encL enc xs).length = xs.length * k
  | [] => by simp [encL]
  | x :: xs => by
    show (enc x ++ encL enc xs).length = _
    rw [List.length_append, encL_len hk xs, hk, List.length_cons, Nat.add_mul, Nat.one_mul]; omega
theorem encL_seg {α : Type} {enc : α → List Value} {k : Nat} (hk : ∀ x, (enc x).length = k) : ∀ (xs : List α) (i : Nat) (x : α), xs[i]? = some x → ((encL enc xs).drop (i * k)).take k = enc x
  | [], _, _, h => by simp at h
  | y :: xs, 0, x, h => by
    simp only [List.getElem?_cons_zero, Option.some.injEq] at h
    subst h
    show ((enc y ++ encL enc xs).drop (0 * k)).take k = _
    rw [Nat.zero_mul, List.drop_zero, List.take_left' (hk y)]
  | y :: xs, i + 1, x, h => by
    rw [List.getElem?_cons_succ] at h
    show ((enc y ++ encL enc xs).drop ((i + 1) * k)).take k = _
    rw [Nat.add_mul, Nat.one_mul, Nat.add_comm, ← List.drop_drop, List.drop_left' (hk y)]
    exact encL_seg hk xs i x h
section
variable {α : Type} [Inhabited α] {enc : α → List Value} {k : Nat}
theorem gsW_frm (w : World) (blk off m : Nat) (d : Array α) (os : Array Obj) : Frm (fun b => b = blk) w (sortWorldK enc k w blk off m d os) := by
  have hsz : (putRowK enc k (Go.Sort.ahead w m) blk off d).heap.size = w.heap.size := by unfold putRowK; rw [Go.Sort.size_putRow]; rfl
  refine ⟨rfl, rfl, rfl, ?_, ?_, Nat.le_add_right _ _⟩
  · show w.heap.size ≤ ((putRowK enc k (Go.Sort.ahead w m) blk off d).heap ++ os).size
    rw [Array.size_append, hsz]; omega
  · intro j hj hn
    show ((putRowK enc k (Go.Sort.ahead w m) blk off d).heap ++ os)[j]? = _
    rw [Array.getElem?_append_left (by rw [hsz]; exact hj)]
    show (w.heap.modify blk _)[j]? = _
    rw [Array.getElem?_modify, if_neg (fun e => hn e.symm)]
def gsL (enc : α → List Value) (k : Nat) (d : Array α) (cs : List Value) : List Value := (Go.Sort.putCells id 0 (flatK enc k d) cs.toArray).toList
theorem gsL_len (d : Array α) (cs : List Value) : (gsL enc k d cs).length = cs.length := by simp [gsL, Go.Sort.putCells]
theorem encL_get (hk : ∀ x, (enc x).length = k) (hk0 : 0 < k) (d : Array α) {t : Nat} (ht : t < d.size * k) : (encL enc d.toList)[t]? = some ((enc d[t / k]!)[t % k]!) := by
  have hq : t / k < d.size := (Nat.div_lt_iff_lt_mul hk0).2 ht
  have hr : t % k < k := Nat.mod_lt _ hk0
  have e2 : d.toList[t / k]? = some d[t / k]! := by
    rw [Array.getElem?_toList, Array.getElem?_eq_getElem hq, getElem!_pos d (t / k) hq]
  have e3 := encL_seg hk _ _ _ e2
  have e4 : (enc d[t / k]!)[t % k]? = (encL enc d.toList)[t]? := by
    rw [← e3, List.getElem?_take, if_pos hr, List.getElem?_drop]
    congr 1
    exact Nat.div_add_mod' t k
  rw [← e4, getElem!_pos (enc d[t / k]!) (t % k) (by rw [hk]; exact hr)]
  exact List.getElem?_eq_getElem _
theorem gsL_take (hk : ∀ x, (enc x).length = k) (hk0 : 0 < k) (d : Array α) (cs : List Value) (h : d.size * k ≤ cs.length) : (gsL enc k d cs).take (d.size * k) = encL enc d.toList := by
  have hl : (encL enc d.toList).length = d.size * k := by rw [encL_len hk, Array.length_toList]
  apply List.ext_getElem?
  intro t
  by_cases ht : t < d.size * k
  · rw [List.getElem?_take, if_pos ht]
    have e1 : (gsL enc k d cs)[t]? = some ((enc d[t / k]!)[t % k]!) := by
      unfold gsL Go.Sort.putCells
      rw [Array.getElem?_toList, Array.getElem?_mapIdx]
      rw [show cs.toArray[t]? = some (cs[t]'(by omega)) by rw [List.getElem?_toArray]; exact List.getElem?_eq_getElem _]
      simp only [Option.map_some, size_flatK]
      rw [if_pos (by omega), Nat.sub_zero, get_flatK _ _ _ _ ht]
      rfl
    rw [e1, encL_get hk hk0 d ht]
  · rw [List.getElem?_eq_none (by rw [List.length_take]; omega), List.getElem?_eq_none (by rw [hl]; omega)]
theorem gsW_row {w : World} {blk m : Nat} {cs : List Value} {d : Array α} {os : Array Obj} (h : Row w blk cs) : Row (sortWorldK enc k w blk 0 m d os) blk (gsL enc k d cs) := by
  have hlt := h.lt
  obtain ⟨T, lo, hi, hb, hf⟩ := h
  refine ⟨T, lo, hi, ?_, by rw [gsL_len]; exact hf⟩
  have hsz : (putRowK enc k (Go.Sort.ahead w m) blk 0 d).heap.size = w.heap.size := by unfold putRowK; rw [Go.Sort.size_putRow]; rfl
  show ((putRowK enc k (Go.Sort.ahead w m) blk 0 d).heap ++ os)[blk]? = _
  rw [Array.getElem?_append_left (by rw [hsz]; exact hlt)]
  show (w.heap.modify blk _)[blk]? = _
  rw [Array.getElem?_modify, if_pos rfl, hb]
  rfl
theorem gsW_st {p : Nat → Prop} {w0 w : World} {blk m : Nat} {cs : List Value} {d : Array α} {os : Array Obj} {L : List Ent} (hS : St p w0 w (.row blk cs :: L)) : St p w0 (sortWorldK enc k w blk 0 m d os) (.row blk (gsL enc k d cs) :: L) := by
  have hF := gsW_frm (enc := enc) (k := k) w blk 0 m d os
  have hR : Row w blk cs := hS.holds (.row blk cs) (by simp)
  have hm := hS.mine (.row blk cs) (by simp)
  refine ⟨⟨hF.os.trans hS.frm.os, hF.tape.trans hS.frm.tape, hF.output.trans hS.frm.output, Nat.le_trans hS.frm.size hF.size, fun j hj hn => ?_, Nat.le_trans hS.frm.drawn hF.drawn⟩, ?_, hS.dist, ?_⟩
  · have hne : ¬ j = blk := fun e => by
      subst e
      rcases hm with h | h
      · exact hn h
      · exact absurd hj (by show ¬ j < w0.heap.size; have : w0.heap.size ≤ j := h; omega)
    exact (hF.block j (Nat.lt_of_lt_of_le hj hS.frm.size) hne).trans (hS.frm.block j hj hn)
  · intro e he
    rcases List.mem_cons.1 he with rfl | he
    · exact gsW_row hR
    · have hh := hS.holds e (List.mem_cons_of_mem _ he)
      refine Ent.keep hh (hF.block _ (Ent.lt hh) fun e' => ?_)
      have hd := hS.dist
      simp only [List.map_cons, List.nodup_cons] at hd
      exact hd.1 (List.mem_map.2 ⟨e, he, e'⟩)
  · intro e he
    rcases List.mem_cons.1 he with rfl | he
    · exact hm
    · exact hS.mine e (List.mem_cons_of_mem _ he)
/-- Ascending by an order: no later one is less than an earlier one. -/
def AscBy (cf : α → α → Int) (ys : List α) : Prop := ∀ (i j : Nat) (x y : α), ys[i]? = some x → ys[j]? = some y → i < j → ¬ cf y x < 0
theorem gsort_c {P : Program} {ρ : Go.Shelf.Ren} (Ly : SlLaysF0.n6 P ρ) (hk0 : 0 < k) (aE : ∀ w, (isAgg (ρ.t 24)).run P w = .ok true w) (zE : ∀ w, (Go.sizeOf (ρ.t 24)).run P w = .ok k w) (hk : ∀ x, (enc x).length = k) (h1 : ∀ x, ∀ v ∈ enc x, v.oneCell' = true)
    (cf : α → α → Int) (hO : SWO (ltOf cf)) (g : Nat) (cb : Array Value) (eg : ∀ args w, (callFunc g args).run P w = .ok (.enter g args) w) (p : Nat → Prop) (w0 w : World) (L E : List Ent) (ad : Option Addr) (c : Nat) (xs : List α)
    (hcmp : ∀ gb cs, St p w0 w (.row gb cs :: L) → ∀ w', Frm (fun b => b = gb) w w' → ∀ x y, Calls P g (#[.agg (enc x).toArray, .agg (enc y).toArray] ++ cb) w' fun e w'' => e = .returned (.int .i64 (cf x y)) ∧ Frm (fun _ => False) w' w'')
    (hV : Vec k ad xs.length c (encL enc xs) E) (hS : St p w0 w (E ++ L)) (hlen : xs.length < 4611686018427387904) :
    Calls P (ρ.f 6) #[.slice ad xs.length c, .func (.func g) #[] cb] w fun e w' =>
      e = .returned (.tuple #[]) ∧ ∃ ys E', ys.Perm xs ∧ AscBy cf ys ∧ Vec k ad xs.length c (encL enc ys) E' ∧ St p w0 w' (E' ++ L) := by
  rcases hV with ⟨ha, hn, hc, hx, hE⟩ | ⟨gb, cs, rfl, rfl, hx, hcl, hkc⟩
  · have e0 : xs = [] := List.length_eq_zero_iff.1 hn
    subst e0
    refine (Go.Proofs.AnyF.slices_SortFunc_none Ly ad c _ w).mono fun e w' h => ⟨h.1, [], E, .refl _, fun i j A B h => by simp at h, .inl ⟨ha, hn, hc, hx, hE⟩, by rw [h.2]; exact hS⟩
  · have hS' : St p w0 w (.row gb cs :: L) := hS
    have hR : Row w gb cs := hS'.holds (.row gb cs) (by simp)
    have hcs : xs.length * k ≤ cs.length := by rw [hcl]; exact Nat.mul_le_mul_right k hkc
    have hsz : xs.toArray.size = xs.length := by simp
    have hcm : CmpLays P g cb enc k cf gb 0 xs.toArray.size w := fun m os dk hs x y =>
      (hcmp gb cs hS' _ (gsW_frm w gb 0 m dk os) x y).mono fun e w' ⟨he, hF⟩ => ⟨he, hF.grows⟩
    have hH : HoldsK enc k w gb 0 xs.toArray := fun t ht => by
      rw [size_flatK] at ht
      have ht2 : t < cs.length := by rw [hsz] at ht; omega
      rw [Nat.zero_add]
      refine ⟨hR.cell ?_, hR.frozen ht2⟩
      show cs[t]? = some ((flatK enc k xs.toArray)[t]!)
      rw [get_flatK _ _ _ _ ht, ← encL_get hk hk0 _ ht]
      show cs[t]? = (encL enc xs)[t]?
      rw [← hx, List.getElem?_take, if_pos (by rw [← hsz]; exact ht)]
    have key := Go.Proofs.AnyQ.slices_SortFunc Ly k aE zE enc hk h1 cf hO g cb gb 0 c xs.toArray w eg hcm hH hR.lt (by rw [hsz]; exact hlen)
    rw [hsz] at key
    refine key.mono ?_
    rintro e w' ⟨he, d', n, os, ⟨hs1, _, hperm⟩, hsort, rfl⟩
    have hd' : d'.size = xs.length := by rw [hs1, hsz]
    have f1 : d'.extract 0 xs.length = d' := by rw [← hd']; simp
    have f2 : xs.toArray.extract 0 xs.length = xs.toArray := by rw [← hsz]; exact Array.extract_size
    rw [f1, f2] at hperm
    have hrow := gsL_take hk hk0 d' cs (by rw [hd']; exact hcs)
    refine ⟨he, d'.toList, [.row gb (gsL enc k d' cs)], ?_, ?_, ?_, gsW_st hS'⟩
    · exact hperm
    · intro i j A B hi hj hij
      have li := (List.getElem?_eq_some_iff.1 hi).1
      have lj := (List.getElem?_eq_some_iff.1 hj).1
      rw [Array.length_toList] at li lj
      have h := hsort i j (Nat.zero_le _) hij (by rw [← hd']; exact lj)
      rw [Array.getElem?_toList, Array.getElem?_eq_getElem li] at hi
      rw [Array.getElem?_toList, Array.getElem?_eq_getElem lj] at hj
      rw [getElem!_pos d' i li, getElem!_pos d' j lj] at h
      have ea := Option.some.inj hi
      have eb := Option.some.inj hj
      subst ea eb
      exact of_decide_eq_false h
    · exact .inr ⟨gb, gsL enc k d' cs, rfl, rfl, by rw [← hd', hrow], by rw [gsL_len]; exact hcl, hkc⟩
end
end Go.Proofs.YtkeonnnhogaggaaGreatDoor
/- make of elements of s cells; clear of a slice; elements laid over others in a block. -/
namespace Go.Proofs.YtkeonnnhogaggaaGreatDoor
open Go.RowKit

/-- The same blocks in another order, by counting. -/
theorem St.permX {p : Nat → Prop} {w0 w : World} {L L' : List Ent} (hS : St p w0 w L) (h : ∀ (c : Ent → List Ent → Nat) (k : Ent → Ent → Nat), (∀ e a l, c e (a :: l) = c e l + k e a) → (∀ e l r, c e (l ++ r) = c e l + c e r) → (∀ e, c e [] = 0) → ∀ e, c e L = c e L' := by intro c k h1 h2 h3 e; simp only [h1, h2, h3] <;> omega) : St p w0 w L' := hS.perm (by
  classical
  exact List.perm_iff_count.2 fun e => (h (fun e l => l.count e) (fun e a => if a == e then 1 else 0) (fun _ _ _ => List.count_cons) (fun _ _ _ => List.count_append) (fun _ => List.count_nil) e).symm)
/-- Some of the blocks, in whatever order; Z: the others. -/
theorem St.dropX {p : Nat → Prop} {w0 w : World} {L L' : List Ent} (Z : List Ent) (hS : St p w0 w L) (h : ∀ (c : Ent → List Ent → Nat) (k : Ent → Ent → Nat), (∀ e a l, c e (a :: l) = c e l + k e a) → (∀ e l r, c e (l ++ r) = c e l + c e r) → (∀ e, c e [] = 0) → ∀ e, c e L = c e (L' ++ Z) := by intro c k h1 h2 h3 e; simp only [h1, h2, h3] <;> omega) : St p w0 w L' :=
  (hS.permX (L' := L' ++ Z) h).sub (List.sublist_append_left _ _)
section
variable {P : Program} {ops : Array Oper} {Q : Exit → Act → World → Prop} {n : Nat} {p : Nat → Prop} {w0 : World} {o : Oper} {rest : List Oper} {l : Kn} {L : List Ent}
/-- make([]T, m, c), an element s cells. -/
theorem WL.makeN {t e d m c by_ s : Nat} {x y : Operand} {k k' : IntKind} {A B : Int} {zs : List Value} (ho : o.op = .makeSlice t x y) (hx : ev l x = some (.int k A)) (hy : ev l y = some (.int k' B)) (hA : A = (m : Int)) (hB : B = (c : Int)) (hmc : m ≤ c)
    (hu : P.underlying t = some (.slice e)) (hb : (P.info? e).map (·.bytes) = some by_) (hbig : by_ * c ≤ 281474976710656) (hc63 : c < 2 ^ 62) (hs : (P.info? e).map (·.size) = some s) (hz : Zero P e zs) (hzl : zs.length = s) (hg : On ops o l) (hd : o.dst = some d) (hn : Nat.blt d n = true)
    (h : ∀ g, w0.heap.size ≤ g → WL P ops Q n p w0 rest ((d, .slice (some ⟨g, 0, none⟩) m c) :: l) (.row g (List.replicate c zs).flatten :: L)) : WL P ops Q n p w0 (o :: rest) l L := by
  refine WL.op hg hd hn fun a w ha hS => ?_
  have h1 := ha.ev hx
  have h2 := ha.ev hy
  subst hA hB
  obtain ⟨zz, hz, hzz⟩ := hz
  refine ⟨_, _, _, ?_, St.new (cs := (List.replicate c zs).flatten) (T := e) hS, h _ hS.frm.size⟩
  have hzc : zz.cells = zs.toArray := by rw [← hzz]
  have hwm : IntKind.i64.wrap (m : Int) = m := w_i64 (by omega) (by omega)
  have hwc : IntKind.i64.wrap (c : Int) = c := w_i64 (by omega) (by omega)
  have hsz := run_sizeOf (P := P) hs
  have hq : ∃ i, P.info? e = some i ∧ i.bytes = by_ := by
    cases hq : P.info? e with
    | none => simp [hq] at hb
    | some i => exact ⟨i, rfl, by simpa [hq] using hb⟩
  obtain ⟨i, hi, hib⟩ := hq
  have hnc : ¬ ((by_ : Int) * (c : Int) > 2 ^ 48) := by
    have h := Int.ofNat_le.2 hbig
    rw [Int.natCast_mul] at h
    omega
  have hask : ∀ (k : Nat) (w : World), (askRoom k).run P w = .ok () w := fun k w => by
    unfold askRoom
    by_cases h : k > roomBytes
    · rw [if_pos h]; rfl
    · rw [if_neg h]; rfl
  have hrow := zero_row hzl c
  unfold execOp
  simp only [ho, h1, h2, Instr.makeSlice, Sem.run_bind, run_underlying hu, Result.andThen, asInt, asIntOf, Sem.run_pure, typeInfo, program, Sem.run, hi, hib, hwm, hwc]
  have ht1 : (decide ((c : Int) < 0) || decide ((by_ : Int) * (c : Int) > 2 ^ 48) || decide ((m : Int) < 0) || decide ((m : Int) > (c : Int))) = false := by
    simp only [Bool.or_eq_false_iff, decide_eq_false_iff_not]
    exact ⟨⟨⟨by omega, hnc⟩, by omega⟩, by omega⟩
  simp only [ht1, Bool.false_eq_true, if_false, Int.toNat_natCast]
  by_cases h0 : c * s = 0
  · have hnil : (List.replicate c zs).flatten = [] := List.length_eq_zero_iff.1 (by rw [flat_len hzl]; exact h0)
    have h0' : ∀ f : Nat → Value, Array.map f (Array.range 0) = #[] := fun f => Array.ext (by simp) (fun i h => by simp at h)
    rw [hnil]
    simp [hask, hsz, newRow, newObj, Sem.run, h0, h0']
  · have hr2 : Array.map (fun x => zs[x % zs.length]?.getD default) (Array.range (c * s)) = ((List.replicate c zs).flatten).toArray := by
      rw [← hrow]; simp
    simp [hask, hsz, h0, run_zeroValue hz, hzc, hr2, newRow, newObj, Sem.run]
def zrs (zs : List Value) (k : Nat) : List Value := (List.replicate k zs).flatten
theorem zrs_len (zs : List Value) (k : Nat) : (zrs zs k).length = k * zs.length := by unfold zrs; simp
theorem zrs_one {zs : List Value} (h : zs.all one = true) (k : Nat) : (zrs zs k).all one = true := by
  unfold zrs
  rw [List.all_eq_true] at h ⊢
  intro v hv
  obtain ⟨l, hl, hv⟩ := List.mem_flatten.1 hv
  rw [List.eq_of_mem_replicate hl] at hv
  exact h v hv
/-- clear(s): its k elements are zero. -/
theorem WL.clear {t e g off k c s : Nat} {x : Operand} {zs cs : List Value} {L' : List Ent} (ho : o.op = .call { callee := .builtin .clear, args := #[x], argTypes := #[t] }) (hx : ev l x = some (.slice (some ⟨g, off, none⟩) k c))
    (hu : P.underlying t = some (.slice e)) (hz : Zero P e zs) (hzl : zs.length = s) (hall : zs.all one = true) [At L g cs] (hle : off + k * s ≤ cs.length) [Put L g (.row g (splice cs off (zrs zs k))) L'] (hg : On ops o l) (hd : o.dst = none)
    (h : WL P ops Q n p w0 rest l L') : WL P ops Q n p w0 (o :: rest) l L := by
  refine WL.act hg hd fun a w ha hS => ?_
  have hx' : evs l [x] = some [.slice (some ⟨g, off, none⟩) k c] := by simp [evs, hx]
  obtain ⟨cc, hr⟩ := run_builtin (P := P) (w := w) (xs := [x]) ho hx' ha
  obtain ⟨z, hz, hzs⟩ := hz
  have hzc : z.cells = zs.toArray := by rw [← hzs]
  have hl : off + (zrs zs k).length ≤ cs.length := by rw [zrs_len, hzl]; exact hle
  obtain ⟨w', hst, hR', hF⟩ := run_storeCells_row (P := P) (zrs zs k) 0 off cs w (hS.row (g := g)) (by simpa using hl) (zrs_one hall k)
  have hzr : Builtin.zeroCells zs.toArray k = (zrs zs k).toArray := by
    have := zero_row (zs := zs) rfl k
    unfold Builtin.zeroCells zrs
    rw [← this]
    simp
  by_cases h0 : k = 0
  · subst h0
    have e0 : splice cs off (zrs zs 0) = cs := splice_nil cs off
    refine ⟨w, L', .inr ⟨.tuple #[], ?_⟩, hS.put (g := g) (e := .row g (splice cs off (zrs zs 0))) rfl (Frm.refl _ _) (by rw [e0]; exact hS.row (g := g)), h⟩
    rw [hr]
    simp [builtin, Builtin.clear_, run_underlying hu]
  · refine ⟨w', L', .inr ⟨.tuple #[], ?_⟩, hS.put (g := g) (e := .row g (splice cs off (zrs zs k))) rfl hF (show Row _ _ _ by simpa using hR'), h⟩
    obtain ⟨m, rfl⟩ : ∃ m, k = m + 1 := ⟨k - 1, by omega⟩
    rw [hr]
    simp [builtin, Builtin.clear_, run_underlying hu, run_zeroValue hz, hzc, hzr, hst]
section
variable {C : World → Prop}
theorem v_neq_aggE {t yt : TypeId} {x y : Operand} {xs ys : List Value} {ks : List CK} {b : Bool} (ho : o.op = .binOp .neq t x y yt) (hx : ev l x = some (.agg xs.toArray)) (hy : ev l y = some (.agg ys.toArray)) (hE : EqK P 10000 t true ks) (hg : P.eqGuardType P.depth t = false)
    (fx : fitsAll ks xs = true) (fy : fitsAll ks ys = true) (hb : b = true ↔ ¬ xs = ys) : Val P C n l o (.bool b) := by
  cases b with
  | true => exact v_neq_aggT ho hx hy hE hg fx fy (hb.1 rfl)
  | false => exact v_neq_aggF ho hx hy hE hg fx fy (Classical.byContradiction fun h => by have := hb.2 h; cases this)
theorem v_eql_aggD {t yt : TypeId} {x y : Operand} {xs ys : List Value} {ks : List CK} {b : Bool} (ho : o.op = .binOp .eql t x y yt) (hx : ev l x = some (.agg xs.toArray)) (hy : ev l y = some (.agg ys.toArray)) (hE : EqK P 10000 t true ks) (hg : P.eqGuardType P.depth t = false)
    (fx : fitsAll ks xs = true) (fy : fitsAll ks ys = true) (hb : b = true ↔ xs = ys) : Val P C n l o (.bool b) := by
  cases b with
  | false => exact v_eql_aggF ho hx hy hE hg fx fy fun h => by have := hb.2 h; cases this
  | true => exact v_eql_aggT ho hx hy hE hg fx fy (hb.1 rfl)
end
theorem splice_take {cs new : List Value} {k : Nat} (h : k + new.length ≤ cs.length) : (splice cs k new).take k = cs.take k := by
  rw [splice_eq _ _ _ h, List.append_assoc, List.take_left' (by rw [List.length_take]; omega)]
end
/-! ### Elements in a block -/
section
variable {α : Type} {enc : α → List Value} {s : Nat} (hk : ∀ x, (enc x).length = s)
include hk
theorem encL_take : ∀ (ys : List α) (k : Nat) (R : List Value), k ≤ ys.length → (encL enc ys ++ R).take (k * s) = encL enc (ys.take k)
  | ys, 0, R, _ => by rw [Nat.zero_mul]; cases ys <;> rfl
  | [], k + 1, R, h => by simp at h
  | y :: ys, k + 1, R, h => by
    show ((enc y ++ encL enc ys) ++ R).take ((k + 1) * s) = enc y ++ encL enc (ys.take k)
    rw [List.append_assoc, Nat.add_mul, Nat.one_mul, Nat.add_comm, ← hk y, List.take_length_add_append, hk y, encL_take ys k R (by simp at h; omega)]
theorem encL_drop : ∀ (ys : List α) (k : Nat) (R : List Value), k ≤ ys.length → (encL enc ys ++ R).drop (k * s) = encL enc (ys.drop k) ++ R
  | ys, 0, R, _ => by rw [Nat.zero_mul]; cases ys <;> rfl
  | [], k + 1, R, h => by simp at h
  | y :: ys, k + 1, R, h => by
    show ((enc y ++ encL enc ys) ++ R).drop ((k + 1) * s) = encL enc (ys.drop k) ++ R
    rw [List.append_assoc, Nat.add_mul, Nat.one_mul, Nat.add_comm, ← List.drop_drop, List.drop_left' (hk y), encL_drop ys k R (by simp at h; omega)]
/-- An element laid over another one. -/
theorem encL_set (ys : List α) (i : Nat) (x : α) (R : List Value) (h : i < ys.length) : splice (encL enc ys ++ R) (i * s) (enc x) = encL enc (ys.set i x) ++ R := by
  have hl := encL_len hk ys
  have h1 : i * s + s ≤ ys.length * s := by rw [← Nat.succ_mul]; exact Nat.mul_le_mul_right _ h
  rw [splice_eq _ _ _ (by rw [hk, List.length_append]; omega), hk, encL_take hk ys i R (by omega), show i * s + s = (i + 1) * s by rw [Nat.succ_mul], encL_drop hk ys (i + 1) R h]
  have e : ys.set i x = ys.take i ++ x :: ys.drop (i + 1) := by
    rw [List.set_eq_take_append_cons_drop, if_pos h]
  rw [e]
  have : ∀ (xs zs : List α), encL enc (xs ++ zs) = encL enc xs ++ encL enc zs := fun xs zs => by
    induction xs with
    | nil => rfl
    | cons a xs ih => show enc a ++ encL enc (xs ++ zs) = (enc a ++ encL enc xs) ++ encL enc zs; rw [ih, List.append_assoc]
  rw [this]
  show _ = (_ ++ (enc x ++ _)) ++ R
  simp only [List.append_assoc]
theorem encL_at {ys : List α} {i : Nat} {x : α} {R : List Value} (h : ys[i]? = some x) : seg (encL enc ys ++ R) (i * s) s = enc x := by
  have hi := (List.getElem?_eq_some_iff.1 h).1
  unfold seg
  rw [encL_drop hk ys i R (by omega)]
  have e : ys.drop i = x :: ys.drop (i + 1) := by
    rw [List.drop_eq_getElem_cons hi]
    congr 1
    exact Option.some.inj ((List.getElem?_eq_getElem hi).symm.trans h)
  rw [e]
  show ((enc x ++ encL enc (ys.drop (i + 1))) ++ R).take s = enc x
  rw [List.append_assoc, List.take_left' (hk x)]
omit hk in
/-- A slice of one's own: its block's cells are its elements', then others. -/
theorem Vec.split {ad : Option Addr} {c : Nat} {xs : List α} {E : List Ent} (hV : Vec s ad xs.length c (encL enc xs) E) (h : xs ≠ []) : ∃ g R, ad = some ⟨g, 0, none⟩ ∧ E = [.row g (encL enc xs ++ R)] ∧ (encL enc xs ++ R).length = c * s ∧ xs.length ≤ c := by
  rcases hV with ⟨_, hn, _⟩ | ⟨g, cs, rfl, rfl, hx, hl, hc⟩
  · exact absurd (List.length_eq_zero_iff.1 hn) h
  · refine ⟨g, cs.drop (xs.length * s), rfl, ?_, ?_, hc⟩
    · rw [← hx, List.take_append_drop]
    · rw [← hx, List.take_append_drop]; exact hl
end
end Go.Proofs.YtkeonnnhogaggaaGreatDoor
/- Rules and entries of a table: as they lie, as data; their orders. -/
namespace Go.Proofs.YtkeonnnhogaggaaGreatDoor
open Go.RowKit

theorem cmpI_cm : Cm cmpI := by
  refine ⟨fun a => ?_, fun a b => ?_, fun a b c h1 h2 => ?_⟩ <;> unfold cmpI at * <;> (repeat' (split at *)) <;> omega
theorem cmpI_zero {x y : Int} : cmpI x y = 0 ↔ x = y := by unfold cmpI; split <;> (try split) <;> omega
theorem lexK_cm {α : Type} (f : α → Nat → Int) : ∀ k, Cm (fun a b => lexK (f a) (f b) k)
  | 0 => Cm.triv
  | k + 1 => Cm.lex (lexK_cm f k) (cmpI_cm.on fun a => f a k)
theorem lexK_same {f g : Nat → Int} : ∀ {k}, lexK f g k = 0 → ∀ i, i < k → f i = g i
  | 0, _, i, hi => absurd hi (Nat.not_lt_zero i)
  | k + 1, h, i, hi => by
    have h : (if lexK f g k ≠ 0 then lexK f g k else cmpI (f k) (g k)) = 0 := h
    by_cases e : lexK f g k = 0
    · rw [if_neg (fun q => q e)] at h
      by_cases e2 : i = k
      · subst e2; exact cmpI_zero.1 h
      · exact lexK_same e i (by omega)
    · rw [if_pos e] at h; exact absurd h e
theorem acmp_cm : Cm acmp := Cm.lex (cmpI_cm.on Ac.set) (lexK_cm Ac.val 9)
/-- Numbers behind a field's are 0: so an act is told by its cells. -/
def Ac.Nz (a : Ac) : Prop := ∀ k, 9 ≤ k → a.val k = 0
def Mt.Nz (m : Mt) : Prop := ∀ k, 9 ≤ k → m.val k = 0 ∧ m.mask k = 0
theorem Ac.ext' {a b : Ac} (ha : a.Nz) (hb : b.Nz) (h1 : a.set = b.set) (h2 : ∀ k, k < 9 → a.val k = b.val k) : a = b := by
  cases a; cases b
  dsimp only at h1 h2
  subst h1
  congr 1
  funext k
  by_cases hk : k < 9
  · exact h2 k hk
  · exact (ha k (by omega)).trans (hb k (by omega)).symm
theorem acmp_same {a b : Ac} (ha : a.Nz) (hb : b.Nz) (h : acmp a b = 0) : a = b := by
  unfold acmp at h
  split at h
  · rename_i q; exact absurd h q
  · rename_i q; exact Ac.ext' ha hb (cmpI_zero.1 (by omega)) (lexK_same h)
/-- The order of matches: field by field, the mask first. -/
def mcmpK (m n : Mt) : Nat → Int
  | 0 => 0
  | k + 1 => if mcmpK m n k ≠ 0 then mcmpK m n k else (if cmpI (m.mask k) (n.mask k) ≠ 0 then cmpI (m.mask k) (n.mask k) else cmpI (m.val k) (n.val k))
/-! ### Rules -/
structure RuD where
  m : Mt
  acts : List Ac
structure RuL where
  m : Mt
  ad : Option Addr
  c : Nat
  acts : List Ac
def RuL.d (r : RuL) : RuD := ⟨r.m, r.acts⟩
def RuL.ru (r : RuL) : Ru := ⟨r.m, r.ad, r.acts.length, r.c⟩
def RuL.cells (r : RuL) : List Value := ruL r.ru
theorem RuL.len (r : RuL) : r.cells.length = 19 := ruL_len _
abbrev actsL (xs : List Ac) : List Value := encL acL xs
abbrev rulesL (rs : List RuL) : List Value := encL RuL.cells rs
theorem acL_len (a : Ac) : (acL a).length = 10 := by show (_ :: ucs a.val 9).length = 10; rw [List.length_cons, ucs_len]
theorem actsL_len (xs : List Ac) : (actsL xs).length = xs.length * 10 := encL_len acL_len xs
theorem rulesL_len (rs : List RuL) : (rulesL rs).length = rs.length * 19 := encL_len RuL.len rs
theorem encL_append {α : Type} (enc : α → List Value) : ∀ xs ys : List α, encL enc (xs ++ ys) = encL enc xs ++ encL enc ys
  | [], _ => rfl
  | x :: xs, ys => by show enc x ++ encL enc (xs ++ ys) = (enc x ++ encL enc xs) ++ encL enc ys; rw [encL_append enc xs ys, List.append_assoc]
theorem encL_snoc {α : Type} (enc : α → List Value) (xs : List α) (x : α) : encL enc (xs ++ [x]) = encL enc xs ++ enc x := by rw [encL_append]; show _ ++ (enc x ++ []) = _; rw [List.append_nil]
/-- Cells that can be read, from so far on. -/
def Rg (w : World) (ad : Option Addr) (cs : List Value) : Prop := cs ≠ [] → ∃ b o, ad = some ⟨b, o, none⟩ ∧ w.rangeAt b o cs
theorem Rg.seg {w : World} {b o : Nat} {α : Type} {enc : α → List Value} {k : Nat} (hk : ∀ x, (enc x).length = k) {xs : List α} {i : Nat} {x : α} (h : w.rangeAt b o (encL enc xs)) (hx : xs[i]? = some x) : w.rangeAt b (o + i * k) (enc x) := fun j v hj => by
  have := encL_seg hk xs i x hx
  rw [← this] at hj
  rw [List.getElem?_take] at hj
  split at hj
  · rw [List.getElem?_drop] at hj
    have := h _ _ hj
    rwa [Nat.add_assoc]
  · cases hj
theorem Rg.frm {q : Nat → Prop} {w w' : World} {ad : Option Addr} {cs : List Value} (hF : Frm q w w') (h : Rg w ad cs) (hq : ∀ b o, ad = some ⟨b, o, none⟩ → ¬ q b) : Rg w' ad cs := fun hn => by
  obtain ⟨b, o, e, hr⟩ := h hn
  exact ⟨b, o, e, rgIn (p := q) (L := []) (hq b o e) hr w' ⟨hF, (fun _ h => by cases h), (by simp), (fun _ h => by cases h)⟩⟩
def actErr (xs : List Ac) : Int := if xs.length > 64 then 34 else if ∀ a ∈ xs, a.Ok then 0 else 1
def Mt.Okk (m : Mt) : Prop := ∀ k, k < 9 → mtOk k (m.val k) (m.mask k)
instance (m : Mt) : Decidable m.Okk := by unfold Mt.Okk; infer_instance
def RuD.err (r : RuD) : Int := if r.m.Okk then actErr r.acts else 1
/-- The first error. -/
def errs {α : Type} (f : α → Int) : List α → Int
  | [] => 0
  | x :: xs => if f x ≠ 0 then f x else errs f xs
/-! ### Entries -/
structure EnD where
  prio : Int
  mark : Int
  r : RuD
structure EnL where
  prio : Int
  mark : Int
  r : RuL
def EnL.d (e : EnL) : EnD := ⟨e.prio, e.mark, e.r.d⟩
def EnL.cells (e : EnL) : List Value := .int .i64 e.prio :: .int .i64 e.mark :: e.r.cells
structure RuD.In (r : RuD) : Prop where
  m : r.m.In
  nz : r.m.Nz
  act : ∀ a ∈ r.acts, a.In ∧ a.Nz
structure EnD.In (e : EnD) : Prop where
  prio : -9223372036854775808 ≤ e.prio ∧ e.prio ≤ 9223372036854775807
  mark : -9223372036854775808 ≤ e.mark ∧ e.mark ≤ 9223372036854775807
  r : e.r.In
def EnD.err (e : EnD) : Int := if 0 ≤ e.prio ∧ e.prio ≤ 1073741824 then e.r.err else 1
/-- The order of entries. -/
def ordE (a b : EnD) : Int := if cmpI b.prio a.prio ≠ 0 then cmpI b.prio a.prio else mcmpK a.r.m b.r.m 9
/-- Acts in order, each once. -/
def NormP (xs ys : List Ac) : Prop := ys.Pairwise (fun a b => acmp a b < 0) ∧ ∀ x, x ∈ ys ↔ x ∈ xs
theorem NormP.one {xs ys zs : List Ac} (h1 : NormP xs ys) (h2 : NormP xs zs) : ys = zs := strict_only acmp_cm ys zs h1.1 h2.1 fun x => (h1.2 x).trans (h2.2 x).symm
end Go.Proofs.YtkeonnnhogaggaaGreatDoor
/- match.Check, match.Cmp; rules.List.Check of one rule; an entry's check; the order of entries. -/
namespace Go.Proofs.YtkeonnnhogaggaaGreatDoor
open Go.RowKit

theorem splice_all {cs new : List Value} (h : new.length = cs.length) : splice cs 0 new = new := by
  rw [splice_eq _ _ _ (by omega), List.take_zero, List.nil_append, List.drop_eq_nil_of_le (by omega), List.append_nil]
theorem ruC_acts (r : RuL) : r.cells[18]? = some (.slice r.ad r.acts.length r.c) := ruL_acts _
end Go.Proofs.YtkeonnnhogaggaaGreatDoor
/- slices.Clone, slices.Compact of rules.Act (printed by gen/slc.py). -/
namespace Go.Proofs.YtkeonnnhogaggaaGreatDoor
open Go.RowKit

set_option maxHeartbeats 1000000 in
theorem CloneAc_c (w : World) (ad : Option Addr) (c : Nat) (xs : List Ac) (hr : Rg w ad (encL acL xs)) (hone : (encL acL xs).all one = true) (hn : xs.length ≤ 100000) :
    Calls Tryz.prog 100 #[.slice ad xs.length c] w fun e w' => ∃ ad' c' E, e = .returned (.slice ad' xs.length c') ∧ Vec 10 ad' xs.length c' (encL acL xs) E ∧ St (fun _ => False) w w' E := by
  cases ad with
  | none =>
    obtain rfl : xs = [] := Classical.byContradiction fun h => by
      obtain ⟨b, o, e, _⟩ := hr (fun hn => h (List.length_eq_zero_iff.1 (by have := encL_len acL_len xs; rw [hn] at this; simp at this; omega)))
      cases e
    refine enter Tryz.func100 rfl Tryz.ntmps100 rfl (St.start (fun _ => False) w) ?_
    refine WC.seq <| WC.region <| WL.v (v_assign rfl rfl) rfl <| WL.nt <| WC.seq <| WC.seq <| WC.region <| WL.v (v_move rfl rfl) rfl <| WL.v (v_eql_nil true rfl rfl Tryz.underlying113 rfl) rfl <| WL.nt <| WC.cond_t rfl <| WC.seq <| WC.region <| WL.v (v_assign rfl rfl) rfl <| ?_
    refine WL.nt <| WC.ret <| WE.then_ret <| WE.ret1 (P := Tryz.prog) (.inl rfl) Tryz.results100 rfl <| ?_
    exact fun w' h => ⟨none, 0, [], rfl, Vec.nil 10, h⟩
  | some a =>
    have hl := encL_len acL_len xs
    refine enter Tryz.func100 rfl Tryz.ntmps100 rfl (St.start (fun _ => False) w) ?_
    refine WC.seq <| WC.region <| WL.v (v_assign rfl rfl) rfl <| WL.nt <| WC.seq <| WC.seq <| WC.region <| WL.v (v_move rfl rfl) rfl <| WL.v (v_eql_nil false rfl rfl Tryz.underlying113 rfl) rfl <| WL.nt <| WC.cond_f rfl <| WC.skip <| WE.then_n <| WC.seq <| ?_
    refine WC.region ?_
    refine WL.buildSlice rfl rfl Tryz.underlying113 sz_110 zero_110 rfl (by decide) rfl (.none rfl) rfl rfl ?_
    intro g5 hg5
    refine WL.v (v_move rfl rfl) rfl ?_
    refine WL.appendL rfl rfl rfl Tryz.underlying113 Tryz.underlying113 sz_110 by_110 zero_110 rfl rfl (E := [.row g5 []]) (Vec.row (k := 0) (s := 10) (c := 0) rfl rfl (by omega)) (new := encL acL xs) (fun h => by obtain ⟨b', o', e', hr'⟩ := hr (fun hn => by rw [hn] at hl; simp at hl; omega); exact ⟨b', o', e', rgIn (fun h => h) hr'⟩) hl hone (by omega) (.none rfl) rfl rfl ?_
    intro ad7 c7 E7 hV7 hr7
    refine WL.v (v_assign rfl rfl) rfl <| WL.nt <| WC.ret <| WE.ret1 (P := Tryz.prog) (.inl rfl) Tryz.results100 rfl <| ?_
    exact fun w' h => ⟨ad7, c7, E7, by rw [Nat.zero_add], by simpa using hV7, h.sub (List.sublist_append_left _ _)⟩
structure CsAc where
  k : Nat
  j : Nat
  ys : List Ac
set_option maxHeartbeats 4000000 in
theorem CompactAc_c (p : Nat → Prop) (w0 w : World) (L E : List Ent) (ad : Option Addr) (c : Nat) (xs : List Ac) (eq : Ac → Ac → Bool) (heq : ∀ x y, eq x y = true ↔ acL x = acL y) (hV : Vec 10 ad xs.length c (encL acL xs) E) (hS : St p w0 w (E ++ L)) (hn : xs.length ≤ 100000) :
    Calls Tryz.prog 103 #[.slice ad xs.length c] w fun e w' => ∃ E', e = .returned (.slice ad (uniq eq xs).length c) ∧ Vec 10 ad (uniq eq xs).length c (encL acL (uniq eq xs)) E' ∧ St p w0 w' (E' ++ L) := by
  by_cases h2 : xs.length < 2
  · have e0 : uniq eq xs = xs := (match xs, h2 with | [], _ => rfl | [x], _ => rfl | _ :: _ :: _, h => absurd h (by simp))
    rw [e0]
    refine enter Tryz.func103 rfl Tryz.ntmps103 rfl hS ?_
    refine WC.seq <| WC.region <| WL.v (v_assign rfl rfl) rfl <| WL.nt <| WC.seq <| WC.seq <| WC.region <| WL.v (v_move rfl rfl) rfl <| WL.v (v_len_slice rfl rfl Tryz.underlying113) rfl <| ?_
    refine WL.v ((v_lss rfl rfl rfl).t (by omega)) rfl ?_
    refine WL.nt <| WC.cond_t rfl <| WC.seq <| WC.region <| WL.v (v_move rfl rfl) rfl <| WL.v (v_assign rfl rfl) rfl <| WL.nt <| WC.ret <| WE.then_ret <| WE.ret1 (P := Tryz.prog) (.inl rfl) Tryz.results103 rfl <| ?_
    exact fun w' h => ⟨E, rfl, hV, h⟩
  have hlen := @acL_len
  obtain ⟨g, R, rfl, rfl, hcl, hcap⟩ := hV.split (fun e => h2 (by rw [e]; exact Nat.zero_lt_two))
  have hel := encL_len hlen xs
  rw [List.length_append, hel] at hcl
  refine enter Tryz.func103 rfl Tryz.ntmps103 rfl hS ?_
  refine WC.seq <| WC.region <| WL.v (v_assign rfl rfl) rfl <| WL.nt <| WC.seq <| WC.seq <| WC.region <| WL.v (v_move rfl rfl) rfl <| WL.v (v_len_slice rfl rfl Tryz.underlying113) rfl <| ?_
  refine WL.v ((v_lss rfl rfl rfl).f (by omega)) rfl ?_
  refine WL.nt <| WC.cond_f rfl <| WC.skip <| WE.then_n <| WC.seq <| WC.seq <| WC.region <| WL.v (v_assign rfl rfl) rfl <| WL.nt <| WC.block <| ?_
  refine WC.loop (fun k : Nat => [(3, .int .i64 k), (0, .slice (some ⟨g, 0, none⟩) xs.length c)]) (fun _ => .row g (encL acL xs ++ R) :: L) (fun k => 1 ≤ k ∧ k ≤ xs.length ∧ uniq eq (xs.take k) = xs.take k) (fun k => xs.length - k) 1 ⟨Nat.le_refl _, by omega, by match xs, h2 with | x :: l, _ => rfl⟩ (.cons rfl (.cons rfl .nil)) (.refl _) ?_
  rintro k ⟨hk1, hk, hu⟩
  refine WC.seq <| WC.seq <| WC.region <| WL.v (v_move rfl rfl) rfl <| WL.v (v_move rfl rfl) rfl <| WL.v (v_len_slice rfl rfl Tryz.underlying113) rfl <| ?_
  refine WL.test (v_lss rfl rfl rfl) (.none rfl) rfl rfl (fun h13 => ?_) (fun h13 => ?_)
  ·
   refine WL.nt <| WC.cond_t rfl <| WC.skip <| WE.then_n <| WC.seq <| WC.block <| WC.seq <| ?_
   refine WC.quiet mixed (by kernel_rfl) ?_
   refine WQ.val (v_move rfl rfl) (.none rfl) rfl rfl <| WQ.val (v_move rfl rfl) (.none rfl) rfl rfl <| ?_
   obtain ⟨m, rfl⟩ : ∃ m, k = m + 1 := ⟨k - 1, by omega⟩
   obtain ⟨a, ha⟩ : ∃ a, xs[m]? = some a := ⟨xs[m]'(by omega), List.getElem?_eq_getElem _⟩
   obtain ⟨b, hb⟩ : ∃ b, xs[m + 1]? = some b := ⟨xs[m + 1]'(by omega), List.getElem?_eq_getElem _⟩
   obtain ⟨b25, hb25⟩ : ∃ q, q = eq b a := ⟨_, rfl⟩
   have hbe : b25 = true ↔ acL b = acL a := (by rw [hb25]; exact heq b a)
   have hut := uniq_take (eq := eq) ha hb
   have htk : xs.take (m + 1) ++ [b] = xs.take (m + 2) := (by rw [show m + 2 = (m + 1) + 1 from rfl, List.take_succ_eq_append_getElem (show m + 1 < xs.length by omega)]; exact congrArg (fun z => xs.take (m + 1) ++ [z]) (Option.some.inj (hb.symm.trans (List.getElem?_eq_getElem _))))
   refine WQ.val (v_indexAddr (lo := m + 1) rfl rfl rfl Tryz.underlying113 sz_110 (by omega) (by omega)) (.none rfl) rfl rfl ?_
   refine WQ.val (v_loadN (cs := acL b) rfl rfl many_110 (acL_len b) (segAt (m := 10) (by rw [Nat.zero_add]; exact encL_at hlen hb))) (.none rfl) rfl rfl ?_
   refine WQ.val (v_move rfl rfl) (.none rfl) rfl rfl <| WQ.val (v_move rfl rfl) (.none rfl) rfl rfl <| ?_
   refine WQ.val (v_sub rfl rfl rfl (w_i64 (by omega) (by omega))) (.none rfl) rfl rfl ?_
   refine WQ.val (v_indexAddr (lo := m) rfl rfl rfl Tryz.underlying113 sz_110 (by omega) (by omega)) (.none rfl) rfl rfl ?_
   refine WQ.val (v_loadN (cs := acL a) rfl rfl many_110 (acL_len a) (segAt (m := 10) (by rw [Nat.zero_add]; exact encL_at hlen ha))) (.none rfl) rfl rfl ?_
   refine WQ.val (v_eql_aggD (b := b25) rfl rfl rfl eqk_110 eqg_110 rfl rfl hbe) (.none rfl) rfl rfl ?_
   cases b25
   ·
    refine WQ.nil <| WE.then_n <| WC.cond_f rfl <| WC.skip <| WE.block_n <| WE.then_n <| WC.region <| WL.v (v_move rfl rfl) rfl <| ?_
    refine WL.v (v_add rfl rfl rfl (w_i64 (by omega) (by omega))) rfl ?_
    refine WL.v (v_assign rfl rfl) rfl <| WL.nil <| ?_
    exact WE.next (m + 2) (by omega) ⟨by omega, by omega, by rw [hut, ← hb25, if_neg (by decide), hu]; exact htk⟩ (.int rfl (by omega) (.cons rfl .nil)) (.refl _)
   ·
    refine WQ.nil <| WE.then_n <| WC.cond_t rfl <| WC.seq <| WC.region <| WL.v (v_move rfl rfl) rfl <| WL.v (v_move rfl rfl) rfl <| ?_
    refine WL.v (v_slice_loS (lo := m + 1) rfl rfl rfl Tryz.underlying113 sz_110 (by omega) (by omega) (by omega)) rfl ?_
    refine WL.v (v_assign rfl rfl) rfl <| WL.nt <| WC.seq <| WC.seq <| WC.region <| WL.v (v_assign rfl rfl) rfl <| WL.nt <| WC.block <| ?_
    refine WC.loop (fun x : CsAc => [(3, .int .i64 x.k), (5, .int .i64 x.j), (4, .slice (some ⟨g, 0 + (m + 1) * 10, none⟩) (xs.length - (m + 1)) (c - (m + 1))), (0, .slice (some ⟨g, 0, none⟩) xs.length c)]) (fun x => .row g (encL acL x.ys ++ R) :: L) (fun x => x.ys.length = xs.length ∧ 1 ≤ x.j ∧ m + 1 + x.j ≤ xs.length ∧ x.k ≤ m + x.j ∧ x.ys.take x.k = uniq eq (xs.take (m + 1 + x.j)) ∧ ∀ i, m + x.j ≤ i → x.ys[i]? = xs[i]?) (fun x => xs.length - x.j) ⟨m + 1, 1, xs⟩ ⟨rfl, Nat.le_refl _, by dsimp only; omega, Nat.le_refl _, by dsimp only; rw [show m + 1 + 1 = m + 2 from rfl, hut, ← hb25, if_pos rfl, hu, List.append_nil], fun i _ => rfl⟩ (.int rfl (by first | rfl | (dsimp only; omega)) (.int rfl rfl (.cons rfl (.cons rfl .nil)))) (.refl _) ?_
    rintro ⟨k, j, ys⟩ ⟨hyl, hj1, hj, hkj, hut', hys⟩
    dsimp only at hyl hj1 hj hkj hut' hys
    dsimp only
    refine WC.seq <| WC.seq <| WC.region <| WL.v (v_move rfl rfl) rfl <| WL.v (v_move rfl rfl) rfl <| WL.v (v_len_slice rfl rfl Tryz.underlying113) rfl <| ?_
    refine WL.test (v_lss rfl rfl rfl) (.none rfl) rfl rfl (fun h32 => ?_) (fun h32 => ?_)
    ·
     refine WL.nt <| WC.cond_t rfl <| WC.skip <| WE.then_n <| WC.seq <| WC.block <| WC.seq <| ?_
     refine WC.quiet mixed (by kernel_rfl) ?_
     refine WQ.val (v_move rfl rfl) (.none rfl) rfl rfl <| WQ.val (v_move rfl rfl) (.none rfl) rfl rfl <| ?_
     obtain ⟨i, rfl⟩ : ∃ i, j = i + 1 := ⟨j - 1, by omega⟩
     obtain ⟨a', ha'⟩ : ∃ a, xs[m + 1 + i]? = some a := ⟨xs[m + 1 + i]'(by omega), List.getElem?_eq_getElem _⟩
     obtain ⟨b', hb'⟩ : ∃ b, xs[m + 1 + i + 1]? = some b := ⟨xs[m + 1 + i + 1]'(by omega), List.getElem?_eq_getElem _⟩
     obtain ⟨b44, hb44⟩ : ∃ q, q = !eq b' a' := ⟨_, rfl⟩
     have hbe' : b44 = true ↔ ¬ acL b' = acL a' := (by rw [hb44, ← heq]; simp)
     have hb44' : eq b' a' = !b44 := (by rw [hb44]; simp)
     have hut2 := uniq_take (eq := eq) ha' hb'
     have ya : ys[m + 1 + i]? = some a' := (by rw [hys _ (by omega)]; exact ha')
     have yb : ys[m + 1 + i + 1]? = some b' := (by rw [hys _ (by omega)]; exact hb')
     refine WQ.val (v_indexAddr (lo := i + 1) rfl rfl rfl Tryz.underlying113 sz_110 (by omega) (by omega)) (.none rfl) rfl rfl ?_
     refine WQ.val (v_loadN (cs := acL b') rfl rfl many_110 (acL_len b') (segAt (m := 10) (by rw [show 0 + (m + 1) * 10 + (i + 1) * 10 = (m + 1 + i + 1) * 10 by omega]; exact encL_at hlen yb))) (.none rfl) rfl rfl ?_
     refine WQ.val (v_move rfl rfl) (.none rfl) rfl rfl <| WQ.val (v_move rfl rfl) (.none rfl) rfl rfl <| ?_
     refine WQ.val (v_sub rfl rfl rfl (w_i64 (by omega) (by omega))) (.none rfl) rfl rfl ?_
     refine WQ.val (v_indexAddr (lo := i) rfl rfl rfl Tryz.underlying113 sz_110 (by omega) (by omega)) (.none rfl) rfl rfl ?_
     refine WQ.val (v_loadN (cs := acL a') rfl rfl many_110 (acL_len a') (segAt (m := 10) (by rw [show 0 + (m + 1) * 10 + i * 10 = (m + 1 + i) * 10 by omega]; exact encL_at hlen ya))) (.none rfl) rfl rfl ?_
     refine WQ.val (v_neq_aggE (b := b44) rfl rfl rfl eqk_110 eqg_110 rfl rfl hbe') (.none rfl) rfl rfl ?_
     cases b44
     ·
      refine WQ.nil <| WE.then_n <| WC.cond_f rfl <| WC.skip <| WE.block_n <| WE.then_n <| WC.region <| WL.v (v_move rfl rfl) rfl <| ?_
      refine WL.v (v_add rfl rfl rfl (w_i64 (by omega) (by omega))) rfl ?_
      refine WL.v (v_assign rfl rfl) rfl <| WL.nil <| ?_
      exact WE.next ⟨k, i + 2, ys⟩ (by dsimp only; omega) ⟨hyl, by dsimp only; omega, by dsimp only; omega, by dsimp only; omega, by
      dsimp only
      rw [show m + 1 + (i + 2) = m + 1 + i + 2 by omega, hut2, hb44', if_pos (show (!false) = true from rfl), List.append_nil, show m + 1 + i + 1 = m + 1 + (i + 1) by omega]; exact hut', fun q hq => by dsimp only at hq ⊢; exact hys q (by omega)⟩ (.int rfl rfl (.int rfl (by dsimp only; omega) (.cons rfl (.cons rfl .nil)))) (.refl _)
     ·
      refine WQ.nil <| WE.then_n <| WC.cond_t rfl <| WC.seq <| WC.region <| WL.v (v_move rfl rfl) rfl <| WL.v (v_move rfl rfl) rfl <| WL.v (v_move rfl rfl) rfl <| WL.v (v_move rfl rfl) rfl <| ?_
      refine WL.v (v_indexAddr (lo := i + 1) rfl rfl rfl Tryz.underlying113 sz_110 (by omega) (by omega)) rfl ?_
      refine WL.v (v_loadN (cs := acL b') rfl rfl many_110 (acL_len b') (segAt (m := 10) (by rw [show 0 + (m + 1) * 10 + (i + 1) * 10 = (m + 1 + i + 1) * 10 by omega]; exact encL_at hlen yb))) rfl ?_
      refine WL.v (v_indexAddr (lo := k) rfl rfl rfl Tryz.underlying113 sz_110 (by omega) (by omega)) rfl ?_
      refine WL.storeN rfl rfl rfl rfl many_110 rfl (by rw [List.length_append, encL_len hlen, hyl]; omega) (.none rfl) rfl ?_
      refine WL.as (L' := .row g (encL acL (ys.set k b') ++ R) :: L) (by rw [Nat.zero_add, encL_set hlen ys k b' R (by omega)]) ?_
      refine WL.nt <| WC.region <| WL.v (v_move rfl rfl) rfl <| ?_
      refine WL.v (v_add rfl rfl rfl (w_i64 (by omega) (by omega))) rfl ?_
      refine WL.v (v_assign rfl rfl) rfl <| WL.nil <| WE.block_n <| WE.then_n <| WC.region <| WL.v (v_move rfl rfl) rfl <| ?_
      refine WL.v (v_add rfl rfl rfl (w_i64 (by omega) (by omega))) rfl ?_
      refine WL.v (v_assign rfl rfl) rfl <| WL.nil <| ?_
      exact WE.next ⟨k + 1, i + 2, ys.set k b'⟩ (by dsimp only; omega) ⟨by dsimp only; rw [List.length_set]; exact hyl, by dsimp only; omega, by dsimp only; omega, by dsimp only; omega, by
      dsimp only
      rw [show m + 1 + (i + 2) = m + 1 + i + 2 by omega, hut2, hb44', if_neg (show ¬ (!true) = true by decide), show m + 1 + i + 1 = m + 1 + (i + 1) by omega, ← hut', List.take_succ_eq_append_getElem (by rw [List.length_set]; omega), List.take_set_of_le (Nat.le_refl _), List.getElem_set_self], fun q hq => by dsimp only at hq ⊢; rw [List.getElem?_set_ne (by omega)]; exact hys q (by omega)⟩ (.int rfl (by dsimp only; omega) (.int rfl (by dsimp only; omega) (.cons rfl (.cons rfl .nil)))) (.refl _)
    ·
     refine WL.nt <| WC.cond_f rfl <| WC.exit <| WE.then_exit <| WE.then_exit <| WE.block_hit <| WE.then_n <| WC.seq <| WC.region <| WL.v (v_move rfl rfl) rfl <| WL.v (v_move rfl rfl) rfl <| ?_
     refine WL.v (v_slice_loS (lo := k) rfl rfl rfl Tryz.underlying113 sz_110 (by omega) (by omega) (by omega)) rfl ?_
     refine WL.clear (s := 10) rfl rfl Tryz.underlying113 zero_110 rfl rfl (by rw [List.length_append, encL_len hlen, hyl]; omega) (.none rfl) rfl ?_
     refine WL.nt <| WC.seq <| WC.region <| WL.v (v_move rfl rfl) rfl <| WL.v (v_move rfl rfl) rfl <| ?_
     refine WL.v (v_slice_hi (hi := k) rfl rfl rfl Tryz.underlying113 sz_110 (by omega) (by omega)) rfl ?_
     refine WL.v (v_assign rfl rfl) rfl <| WL.nt <| WC.ret <| WE.block_ret <| WE.then_ret <| WE.then_ret <| WE.block_ret <| WE.then_ret <| WE.ret1 (P := Tryz.prog) (.inl rfl) Tryz.results103 rfl <| ?_
     obtain rfl : j = xs.length - (m + 1) := (by omega)
     have e1 : uniq eq xs = ys.take k := (by rw [hut', show m + 1 + (xs.length - (m + 1)) = xs.length by omega, List.take_length])
     have e2 : (uniq eq xs).length = k := (by rw [e1, List.length_take]; omega)
     refine fun w' h => ⟨[.row g _], by rw [e2], ?_, h⟩
     rw [e2, e1]
     refine Vec.row ?_ ?_ (by omega)
     · rw [Nat.zero_add, splice_take (by rw [zrs_len, List.length_append, encL_len hlen, hyl]; show _ + (xs.length - k) * 10 ≤ _; omega)]
       exact encL_take hlen ys k R (by omega)
     · rw [splice_length _ _ _ (by rw [zrs_len, List.length_append, encL_len hlen, hyl]; show _ + (xs.length - k) * 10 ≤ _; omega), List.length_append, encL_len hlen, hyl]
       exact hcl
  ·
   refine WL.nt <| WC.cond_f rfl <| WC.exit <| WE.then_exit <| WE.then_exit <| WE.block_hit <| WE.then_n <| WC.seq <| WC.region <| WL.v (v_move rfl rfl) rfl <| WL.v (v_assign rfl rfl) rfl <| WL.nt <| WC.ret <| WE.ret1 (P := Tryz.prog) (.inl rfl) Tryz.results103 rfl <| ?_
   have e1 : uniq eq xs = xs := (by have := hu; rwa [show k = xs.length by omega, List.take_length] at this)
   rw [e1]
   exact fun w' h => ⟨_, rfl, Vec.row (by rw [encL_take hlen xs xs.length R (Nat.le_refl _), List.take_length]) (by rw [List.length_append, hel]; exact hcl) hcap, h⟩
end Go.Proofs.YtkeonnnhogaggaaGreatDoor
/- The kit's laying SlLaysF0.n6 at this seat's functions. Printed by wip/tools/lays.py. -/
namespace Go.Proofs.YtkeonnnhogaggaaGreatDoor
open Go.RowKit Go.Shelf

def ren101 : Ren := ⟨fun n => match n with | 6 => 101 | 14 => 142 | 15 => 109 | 20 => 175 | 21 => 176 | 22 => 177 | 23 => 178 | 24 => 179 | 25 => 180 | 26 => 181 | 27 => 182 | 28 => 155 | 29 => 156 | 46 => 198 | 47 => 185 | 48 => 186 | 49 => 199 | 50 => 200 | 57 => 206 | n => n, fun n => match n with | 0 => 0 | 3 => 3 | 4 => 4 | 5 => 5 | 9 => 9 | 22 => 113 | 24 => 110 | 25 => 165 | 39 => 172 | 45 => 212 | 46 => 213 | 50 => 217 | 53 => 56 | 55 => 23 | 66 => 242 | 70 => 246 | 76 => 256 | 77 => 37 | n => n, fun n => n⟩
set_option maxRecDepth 100000 in
theorem lays101 : SlLaysF0.n6 Tryz.prog ren101 where
  mixed := mixed
  f6 := ⟨Tryz.f101.name, by decide, Tryz.func101.trans (congrArg some (by kernel_rfl))⟩
  f14 := ⟨Tryz.f142.name, by decide, Tryz.func142.trans (congrArg some (by kernel_rfl))⟩
  f15 := Tryz.func109.trans (congrArg some (by kernel_rfl))
  f20 := ⟨Tryz.f175.name, by decide, Tryz.func175.trans (congrArg some (by kernel_rfl))⟩
  f21 := ⟨Tryz.f176.name, by decide, Tryz.func176.trans (congrArg some (by kernel_rfl))⟩
  f22 := ⟨Tryz.f177.name, by decide, Tryz.func177.trans (congrArg some (by kernel_rfl))⟩
  f23 := ⟨Tryz.f178.name, by decide, Tryz.func178.trans (congrArg some (by kernel_rfl))⟩
  f24 := ⟨Tryz.f179.name, by decide, Tryz.func179.trans (congrArg some (by kernel_rfl))⟩
  f25 := ⟨Tryz.f180.name, by decide, Tryz.func180.trans (congrArg some (by kernel_rfl))⟩
  f26 := ⟨Tryz.f181.name, by decide, Tryz.func181.trans (congrArg some (by kernel_rfl))⟩
  f27 := ⟨Tryz.f182.name, by decide, Tryz.func182.trans (congrArg some (by kernel_rfl))⟩
  f28 := Tryz.func155.trans (congrArg some (by kernel_rfl))
  f29 := Tryz.func156.trans (congrArg some (by kernel_rfl))
  f46 := ⟨Tryz.f198.name, by decide, Tryz.func198.trans (congrArg some (by kernel_rfl))⟩
  f47 := Tryz.func185.trans (congrArg some (by kernel_rfl))
  f48 := Tryz.func186.trans (congrArg some (by kernel_rfl))
  f49 := ⟨Tryz.f199.name, by decide, Tryz.func199.trans (congrArg some (by kernel_rfl))⟩
  f50 := ⟨Tryz.f200.name, by decide, Tryz.func200.trans (congrArg some (by kernel_rfl))⟩
  f57 := ⟨Tryz.f206.name, by decide, Tryz.func206.trans (congrArg some (by kernel_rfl))⟩
  t0 := Tryz.underlying0
  a0 := Tryz.isAgg0
  z0 := Tryz.sizeOf0
  v0 := Tryz.zeroValue0
  t3 := Tryz.underlying3
  a3 := Tryz.isAgg3
  z3 := Tryz.sizeOf3
  v3 := Tryz.zeroValue3
  t4 := Tryz.underlying4
  a4 := Tryz.isAgg4
  z4 := Tryz.sizeOf4
  v4 := Tryz.zeroValue4
  t5 := Tryz.underlying5
  a5 := Tryz.isAgg5
  z5 := Tryz.sizeOf5
  v5 := Tryz.zeroValue5
  t9 := Tryz.underlying9
  a9 := Tryz.isAgg9
  z9 := Tryz.sizeOf9
  v9 := Tryz.zeroValue9
  t22 := Tryz.underlying113
  a22 := Tryz.isAgg113
  z22 := Tryz.sizeOf113
  v22 := Tryz.zeroValue113
  t25 := Tryz.underlying165
  a25 := Tryz.isAgg165
  z25 := Tryz.sizeOf165
  v25 := Tryz.zeroValue165
  t39 := Tryz.underlying172
  a39 := Tryz.isAgg172
  z39 := Tryz.sizeOf172
  v39 := Tryz.zeroValue172
  t45 := Tryz.underlying212
  a45 := Tryz.isAgg212
  z45 := Tryz.sizeOf212
  v45 := Tryz.zeroValue212
  t46 := Tryz.underlying213
  a46 := Tryz.isAgg213
  z46 := Tryz.sizeOf213
  v46 := Tryz.zeroValue213
  t50 := Tryz.underlying217
  a50 := Tryz.isAgg217
  z50 := Tryz.sizeOf217
  v50 := Tryz.zeroValue217
  t53 := Tryz.underlying56
  a53 := Tryz.isAgg56
  z53 := Tryz.sizeOf56
  v53 := Tryz.zeroValue56
  t55 := Tryz.underlying23
  a55 := Tryz.isAgg23
  z55 := Tryz.sizeOf23
  v55 := Tryz.zeroValue23
  t66 := Tryz.underlying242
  a66 := Tryz.isAgg242
  z66 := Tryz.sizeOf242
  v66 := Tryz.zeroValue242
  t70 := Tryz.underlying246
  a70 := Tryz.isAgg246
  z70 := Tryz.sizeOf246
  v70 := Tryz.zeroValue246
  t76 := Tryz.underlying256
  a76 := Tryz.isAgg256
  z76 := Tryz.sizeOf256
  v76 := Tryz.zeroValue256
  t77 := Tryz.underlying37
  a77 := Tryz.isAgg37
  z77 := Tryz.sizeOf37
  v77 := Tryz.zeroValue37
end Go.Proofs.YtkeonnnhogaggaaGreatDoor
/- rules.Norm: acts in order, each once. -/
namespace Go.Proofs.YtkeonnnhogaggaaGreatDoor
open Go.RowKit Go.Sort

theorem swo_of {α : Type} {c : α → α → Int} (h : Cm c) : Go.Sort.SWO (ltOf c) := by
  constructor
  · intro x; unfold ltOf; exact decide_eq_false (by have := h.refl x; omega)
  · intro x y z h1 h2; unfold ltOf at *; have a := of_decide_eq_true h1; have b := of_decide_eq_true h2; exact decide_eq_true (h.lt_le a (by omega))
  · intro x y z h1 h2
    unfold ltOf at *
    have a := of_decide_eq_false h1; have b := of_decide_eq_false h2
    refine decide_eq_false fun k => ?_
    have s1 := h.sgn x y; have s2 := h.sgn y x; have s3 := h.sgn z y; have s4 := h.sgn y z; have s5 := h.sgn x z; have s6 := h.sgn z x
    have t1 : c y x ≤ 0 := by omega
    have t2 : c z y ≤ 0 := by omega
    have := h.tr z y x t2 t1
    omega
theorem asc_le {α : Type} {c : α → α → Int} (h : Cm c) {ys : List α} (ha : AscBy c ys) : ys.Pairwise fun a b => c a b ≤ 0 := by
  rw [List.pairwise_iff_getElem]
  intro i j hi hj hij
  have := ha i j _ _ (List.getElem?_eq_getElem hi) (List.getElem?_eq_getElem hj) hij
  have s := h.sgn ys[i] ys[j]
  omega
instance : Inhabited Ac := ⟨⟨0, fun _ => 0⟩⟩
theorem acL_one (a : Ac) : ∀ v ∈ acL a, v.oneCell' = true := fun v hv => by
  rcases List.mem_cons.1 hv with rfl | hv
  · rfl
  · obtain ⟨i, _, rfl⟩ := List.mem_map.1 hv; rfl
theorem one_of {v : Value} (h : v.oneCell' = true) : one v = true := by cases v <;> first | rfl | (simp [Value.oneCell'] at h)
theorem encL_one {α : Type} {enc : α → List Value} (h : ∀ x, ∀ v ∈ enc x, v.oneCell' = true) : ∀ xs : List α, (encL enc xs).all one = true
  | [] => rfl
  | x :: xs => by
    show (enc x ++ encL enc xs).all one = true
    rw [List.all_append, encL_one h xs, Bool.and_true]
    exact List.all_eq_true.2 fun v hv => one_of (h x v hv)
theorem SortAc_c (p : Nat → Prop) (w0 w : World) (L E : List Ent) (ad : Option Addr) (c : Nat) (xs : List Ac) (hV : Vec 10 ad xs.length c (actsL xs) E) (hS : St p w0 w (E ++ L)) (hlen : xs.length < 1000000) :
    Calls Tryz.prog 101 #[.slice ad xs.length c, .func (.func 102) #[] #[]] w fun e w' =>
      e = .returned (.tuple #[]) ∧ ∃ ys E', ys.Perm xs ∧ (ys.Pairwise fun a b => acmp a b ≤ 0) ∧ Vec 10 ad xs.length c (actsL ys) E' ∧ St p w0 w' (E' ++ L) := by
  refine (gsort_c (P := Tryz.prog) lays101 (by omega) Tryz.isAgg110 Tryz.sizeOf110 acL_len acL_one acmp (swo_of acmp_cm) 102 #[] ck_102 p w0 w L E ad c xs (fun gb cs _ w' _ x y => ACmp_c w' x y) hV hS (by omega)).mono ?_
  rintro e w' ⟨he, ys, E', hp, ha, hV', hS'⟩
  exact ⟨he, ys, E', hp, asc_le acmp_cm ha, hV', hS'⟩
open Classical in
noncomputable def acEq (a b : Ac) : Bool := decide (acL a = acL b)
theorem acEq_iff (a b : Ac) : acEq a b = true ↔ acL a = acL b := by unfold acEq; simp
theorem acL_same {a b : Ac} (ha : a.Nz) (hb : b.Nz) (h : acL a = acL b) : a = b := by
  have h1 : (Value.int .i64 a.set) = .int .i64 b.set := (List.cons.inj h).1
  have h2 : ucs a.val 9 = ucs b.val 9 := (List.cons.inj h).2
  refine Ac.ext' ha hb (by injection h1) fun k hk => ?_
  have this : (ucs a.val 9)[k]? = (ucs b.val 9)[k]? := congrArg (fun z : List Value => z[k]?) h2
  rw [ucs_get _ hk, ucs_get _ hk] at this
  injection this with this
  injection this
theorem acmp_cells {a b : Ac} (h : acL a ≠ acL b) (ha : a.Nz) (hb : b.Nz) : acmp a b ≠ 0 := fun e => h (by rw [acmp_same ha hb e])
theorem normP_uniq {xs ys : List Ac} (hp : ys.Perm xs) (ha : ys.Pairwise fun a b => acmp a b ≤ 0) (hN : ∀ x ∈ xs, x.Nz) : NormP xs (uniq acEq ys) := by
  have hN' : ∀ x ∈ ys, x.Nz := fun x hx => hN x (hp.mem_iff.1 hx)
  refine ⟨uniq_strict acmp_cm ha fun x hx y hy e => ?_, fun x => (uniq_mem (fun x hx y hy e => acL_same (hN' x hx) (hN' y hy) ((acEq_iff x y).1 e)) x).trans hp.mem_iff⟩
  exact acmp_cells (fun k => by rw [(acEq_iff x y).2 k.symm] at e; cases e) (hN' y hy) (hN' x hx)
/-- What Norm hands back: a list of its own. -/
def NormC (w w' : World) (xs : List Ac) (e : Ending) : Prop := ∃ ad' c' E ys, e = .returned (.slice ad' ys.length c') ∧ NormP xs ys ∧ ys.length ≤ xs.length ∧ Vec 10 ad' ys.length c' (actsL ys) E ∧ St (fun _ => False) w w' E
theorem Norm_c (w : World) (ad : Option Addr) (c : Nat) (xs : List Ac) (hr : Rg w ad (actsL xs)) (hN : ∀ x ∈ xs, x.Nz) (hn : xs.length ≤ 100000) :
    Calls Tryz.prog 49 #[.slice ad xs.length c] w fun e w' => NormC w w' xs e := by
  refine enter Tryz.func49 rfl Tryz.ntmps49 rfl (St.start (fun _ => False) w) ?_
  refine WC.seq <| WC.region <| WL.v (v_assign rfl rfl) rfl <| WL.nt <| WC.seq <| WC.region <| WL.v (v_move rfl rfl) rfl <| WL.call rfl rfl ck_100 (.none rfl) rfl rfl <| ?_
  intro w1 hS
  refine (CloneAc_c w1 ad c xs (hr.frm hS.frm (fun _ _ _ h => h)) (encL_one acL_one xs) hn).mono ?_
  rintro e w' ⟨ad1, c1, E1, rfl, hV1, hS'⟩
  refine ⟨_, _, rfl, hS.join hS', ?_⟩
  refine WL.v (v_assign rfl rfl) rfl <| WL.nt <| WC.seq <| WC.region <| WL.v (v_move rfl rfl) rfl <| WL.call rfl rfl ck_101 (.none rfl) rfl rfl <| ?_
  intro w1 hS
  refine (SortAc_c (fun _ => False) _ w1 [] E1 ad1 c1 xs hV1 hS (by omega)).mono ?_
  rintro e w' ⟨rfl, ys, E2, hp, ha, hV2, hS'⟩
  refine ⟨_, _, rfl, hS', ?_⟩
  refine WL.nt <| WC.seq <| WC.region <| WL.v (v_move rfl rfl) rfl <| WL.call rfl rfl ck_103 (.none rfl) rfl rfl <| ?_
  intro w1 hS
  rw [← hp.length_eq] at hV2
  rw [← hp.length_eq]
  refine (CompactAc_c (fun _ => False) _ w1 [] E2 ad1 c1 ys acEq acEq_iff hV2 hS (by rw [hp.length_eq]; exact hn)).mono ?_
  rintro e w' ⟨E3, rfl, hV3, hS'⟩
  refine ⟨_, _, rfl, hS', ?_⟩
  refine WL.v (v_assign rfl rfl) rfl <| WL.nt <| WC.ret <| WE.ret1 (P := Tryz.prog) (.inl rfl) Tryz.results49 rfl <| ?_
  exact fun w' h => ⟨ad1, c1, E3, uniq acEq ys, rfl, normP_uniq hp ha hN, by have := uniq_len (eq := acEq) ys; rw [hp.length_eq] at this; exact this, hV3, by simpa using h⟩
end Go.Proofs.YtkeonnnhogaggaaGreatDoor
/- slices.Clone, slices.Compact of head.Header (printed by gen/slc.py). -/
namespace Go.Proofs.YtkeonnnhogaggaaGreatDoor
open Go.RowKit

end Go.Proofs.YtkeonnnhogaggaaGreatDoor
/- slices.SortFunc at elements of which something is known: the sort of XGs for a part of a type. -/
namespace Go.Proofs.YtkeonnnhogaggaaGreatDoor
open Go.RowKit Go.Sort Go.Shelf

end Go.Proofs.YtkeonnnhogaggaaGreatDoor
/- table: what Change and Take make of a table, as data; entries put in one by one, or all at once, are one table; what was taken out is as if it had never been put in. -/
namespace Go.Proofs.YtkeonnnhogaggaaGreatDoor
open Go.RowKit

def insA (x : Ac) : List Ac → List Ac
  | [] => [x]
  | y :: l => if acmp x y < 0 then x :: y :: l else if acmp x y = 0 then y :: l else y :: insA x l
def normF : List Ac → List Ac
  | [] => []
  | x :: l => insA x (normF l)
theorem insA_sub (x z : Ac) : ∀ l : List Ac, z ∈ insA x l → z = x ∨ z ∈ l
  | [], h => .inl (List.mem_singleton.1 h)
  | y :: l, h => by
    unfold insA at h
    split at h
    · exact List.mem_cons.1 h
    split at h
    · exact .inr h
    · rcases List.mem_cons.1 h with rfl | h
      · exact .inr (List.mem_cons_self ..)
      · exact (insA_sub x z l h).imp id (List.mem_cons_of_mem _)
theorem insA_len (x : Ac) : ∀ l : List Ac, (insA x l).length ≤ l.length + 1
  | [] => Nat.le_refl _
  | y :: l => by
    unfold insA
    split
    · exact Nat.le_refl _
    split
    · exact Nat.le_succ _
    · exact Nat.succ_le_succ (insA_len x l)
theorem insA_mem {x : Ac} (hx : x.Nz) : ∀ {l : List Ac}, (∀ y ∈ l, y.Nz) → ∀ z, z ∈ insA x l ↔ z = x ∨ z ∈ l
  | [], _, z => by unfold insA; simp
  | y :: l, hl, z => by
    refine ⟨insA_sub x z _, fun h => ?_⟩
    unfold insA
    split
    · exact List.mem_cons.2 h
    split
    · rename_i h0
      have e := acmp_same hx (hl y (List.mem_cons_self ..)) h0
      subst e
      rcases h with rfl | h
      · exact List.mem_cons_self ..
      · exact h
    · have ih := insA_mem hx (l := l) (fun y hy => hl y (List.mem_cons_of_mem _ hy)) z
      rcases h with rfl | h
      · exact List.mem_cons_of_mem _ (ih.2 (.inl rfl))
      · rcases List.mem_cons.1 h with rfl | h
        · exact List.mem_cons_self ..
        · exact List.mem_cons_of_mem _ (ih.2 (.inr h))
theorem insA_strict (x : Ac) : ∀ {l : List Ac}, l.Pairwise (fun a b => acmp a b < 0) → (insA x l).Pairwise fun a b => acmp a b < 0
  | [], _ => List.pairwise_singleton _ _
  | y :: l, h => by
    have h' := List.pairwise_cons.1 h
    unfold insA
    split
    · rename_i h0
      refine List.pairwise_cons.2 ⟨fun z hz => ?_, h⟩
      rcases List.mem_cons.1 hz with rfl | hz
      · exact h0
      · have := h'.1 z hz; exact acmp_cm.lt_le h0 (by omega)
    split
    · exact h
    · rename_i h0 h1
      refine List.pairwise_cons.2 ⟨fun z hz => ?_, insA_strict x h'.2⟩
      rcases insA_sub x z l hz with rfl | hz
      · have := acmp_cm.sgn z y; omega
      · exact h'.1 z hz
theorem normF_sub : ∀ {xs : List Ac} {z : Ac}, z ∈ normF xs → z ∈ xs
  | [], _, h => by cases h
  | x :: l, z, h => by
    rcases insA_sub x z _ h with rfl | h
    · exact List.mem_cons_self ..
    · exact List.mem_cons_of_mem _ (normF_sub h)
theorem normF_len : ∀ xs : List Ac, (normF xs).length ≤ xs.length
  | [] => Nat.le_refl _
  | x :: l => Nat.le_trans (insA_len x _) (Nat.succ_le_succ (normF_len l))
theorem normF_P : ∀ {xs : List Ac}, (∀ x ∈ xs, x.Nz) → NormP xs (normF xs)
  | [], _ => ⟨List.Pairwise.nil, fun _ => Iff.rfl⟩
  | x :: l, h => by
    have ih := normF_P (xs := l) fun y hy => h y (List.mem_cons_of_mem _ hy)
    refine ⟨insA_strict x ih.1, fun z => (insA_mem (h x (List.mem_cons_self ..)) (fun y hy => h y (List.mem_cons_of_mem _ (normF_sub hy))) z).trans ?_⟩
    rw [ih.2, List.mem_cons]
theorem normF_of {xs ys : List Ac} (hN : ∀ x ∈ xs, x.Nz) (h : NormP xs ys) : normF xs = ys := NormP.one (normF_P hN) h
def EnD.norm (e : EnD) : EnD := ⟨e.prio, e.mark, e.r.m, normF e.r.acts⟩
def Strict (T : List EnD) : Prop := T.Pairwise fun a b => ordE a b < 0
def Apart (T : List EnD) : Prop := T.Pairwise fun a b => ordE a b ≠ 0
def leftD (T : List EnD) (outs : List Int) : List EnD := T.filter fun e => decide (e.mark ∉ outs)
/-- What Change answers, and the table behind it. -/
structure ChangeP (most : Int) (T : List EnD) (outs : List Int) (ins : List EnD) (code : Int) (T' : List EnD) : Prop where
  err : errs EnD.err ins ≠ 0 → code = errs EnD.err ins
  full : errs EnD.err ins = 0 → (ins.length : Int) > most - (leftD T outs).length → code = 30
  have_ : errs EnD.err ins = 0 → (ins.length : Int) ≤ most - (leftD T outs).length → ¬ Apart (leftD T outs ++ ins.map EnD.norm) → code = 5
  ok : errs EnD.err ins = 0 → (ins.length : Int) ≤ most - (leftD T outs).length → Apart (leftD T outs ++ ins.map EnD.norm) → code = 0
  not : code ≠ 0 → T' = T
  yes : code = 0 → Strict T' ∧ T'.Perm (leftD T outs ++ ins.map EnD.norm)
end Go.Proofs.YtkeonnnhogaggaaGreatDoor
/- table: without, merge. -/
namespace Go.Proofs.YtkeonnnhogaggaaGreatDoor
open Go.RowKit

/-- A table as it lies. -/
structure TbL where
  most : Int
  ad : Option Addr
  c : Nat
  es : List EnL
def TbL.cells (t : TbL) : List Value := [.int .i64 t.most, .slice t.ad t.es.length t.c]
def TbL.d (t : TbL) : List EnD := t.es.map EnL.d
/-- A rule's acts lie in blocks of K. -/
def RuOwn (K : List Ent) (r : RuL) : Prop := ∃ E, Vec 10 r.ad r.acts.length r.c (actsL r.acts) E ∧ ∀ x ∈ E, x ∈ K
def EnsOwn (K : List Ent) (es : List EnL) : Prop := ∀ e ∈ es, RuOwn K e.r
theorem RuOwn.sub {K K' : List Ent} {r : RuL} (h : RuOwn K r) (hs : ∀ x ∈ K, x ∈ K') : RuOwn K' r := let ⟨E, h1, h2⟩ := h; ⟨E, h1, fun x hx => hs x (h2 x hx)⟩
theorem Vec.rg {s : Nat} {ad : Option Addr} {k c : Nat} {xs : List Value} {E : List Ent} {w : World} (hV : Vec s ad k c xs E) (hw : ∀ e ∈ E, e.holds w) : Rg w ad xs := fun hn => by
  rcases hV with ⟨_, _, _, h, _⟩ | ⟨g, cs, rfl, rfl, hx, hl, hk⟩
  · exact absurd h hn
  · refine ⟨g, 0, rfl, fun j v hj => ?_⟩
    have hR : Row w g cs := hw (.row g cs) (List.mem_singleton.2 rfl)
    rw [Nat.zero_add]
    refine hR.cell ?_
    rw [← hx, List.getElem?_take] at hj
    split at hj
    · exact hj
    · cases hj
end Go.Proofs.YtkeonnnhogaggaaGreatDoor
/- table: merge; the stable sort of fewer than 20 entries. -/
namespace Go.Proofs.YtkeonnnhogaggaaGreatDoor
open Go.RowKit

instance : Inhabited EnL := ⟨⟨0, 0, ⟨⟨fun _ => 0, fun _ => 0⟩, none, 0, []⟩⟩⟩
end Go.Proofs.YtkeonnnhogaggaaGreatDoor
/- The kit's laying SlLaysF0.n20 (insertion sort by a comparison) at entries. -/
namespace Go.Proofs.YtkeonnnhogaggaaGreatDoor
open Go.RowKit Go.Shelf

end Go.Proofs.YtkeonnnhogaggaaGreatDoor
/- table: the stable sort of entries, fewer than 20. -/
namespace Go.Proofs.YtkeonnnhogaggaaGreatDoor
open Go.RowKit Go.Sort

end Go.Proofs.YtkeonnnhogaggaaGreatDoor
/- table: Change. -/
namespace Go.Proofs.YtkeonnnhogaggaaGreatDoor
open Go.RowKit

end Go.Proofs.YtkeonnnhogaggaaGreatDoor
/- The engine: a region that draws its order: what reads only what nobody in the region writes is taken first, although calls come between (the kit's held orders). -/
namespace Go.Proofs.YtkeonnnhogaggaaGreatDoor
open Go.RowKit

section
variable {P : Program} {ops : Array Oper} {Q : Exit → Act → World → Prop} {n : Nat} {p : Nat → Prop} {w0 : World} {o : Oper} {rest os : List Oper} {l : Kn} {L L0 : List Ent} {K : Act → World → Prop}
/-- What is left of the region, as what follows. -/
def RestH (P : Program) (os : List Oper) (Q : Exit → Act → World → Prop) (p : Nat → Prop) (w0 : World) (L0 : List Ent) (g : Nat) (listed : Array Bool) : Act → World → Prop := fun a w => wpAnyH P .any os.toArray (NP Q) (fun w => St p w0 w L0) g listed a w
/-- What is left of a region, of which these are done; the blocks L0 stay as they are. -/
def WRH (P : Program) (os : List Oper) (Q : Exit → Act → World → Prop) (n : Nat) (p : Nat → Prop) (w0 : World) (L0 : List Ent) (g : Nat) (listed : Array Bool) (l : Kn) (L : List Ent) : Prop :=
  ∀ a w, Has n a l → St p w0 w L → RestH P os Q p w0 L0 g listed a w
theorem WC.held {id : Nat} (L0 : List Ent) (hm : P.follows .mixedOrders = true) (h : WRH P os Q n p w0 L0 os.length (Array.replicate os.length false) l L) : WC P (.region id os.toArray true) Q n p w0 l L := fun a w ha hS =>
  Code.wp_mono NP.imp (wp_region_held (S := fun w => St p w0 w L0) hm (by have h1 := h a w.drew ha hS.drew; unfold RestH at h1; simpa using h1))
def wpHeld (P : Program) (ops : Array Oper) (S : World → Prop) (K : Act → Prop) : List Oper → Act → Prop
  | [], a => K a
  | o :: rest, a => ∃ v, YieldsIf P ops S o v a ∧ wpHeld P ops S K rest (a.put o.dst v)
def WH (P : Program) (ops : Array Oper) (K : Act → World → Prop) (n : Nat) (p : Nat → Prop) (w0 : World) (L0 : List Ent) (rest : List Oper) (l : Kn) (L : List Ent) : Prop :=
  ∀ a, Has n a l → wpHeld P ops (fun w => St p w0 w L0) (fun a' => ∀ w, St p w0 w L → K a' w) rest a
theorem anyH_of_held {K : Act → Prop} {S : World → Prop} {w : World} {g : Nat} (hsel : Region.noSelect os.toArray = true) (hw : S w) : ∀ (js : List Nat) (listed : Array Bool) (a : Act), takesB .any os.toArray js listed = true →
    wpHeld P os.toArray S K (js.map (at_ os)) a → (∀ a, K a → wpAnyH P .any os.toArray (NP Q) S g (marks listed js) a w) → wpAnyH P .any os.toArray (NP Q) S (js.length + g) listed a w
  | [], listed, a, _, h, hK => by simpa [marks] using hK a h
  | i :: is, listed, a, hB, h, hK => by
    simp only [takesB, Bool.and_eq_true] at hB
    obtain ⟨⟨hr, hf⟩, hB'⟩ := hB
    obtain ⟨v, hy, h'⟩ := h
    have hr' : i ∈ Region.ready .any os.toArray listed := by simpa using hr
    rw [List.length_cons, show is.length + 1 + g = (is.length + g) + 1 by omega]
    exact wpAnyH_take (at_some hr') hsel hf hr (fun c a w hh => hh) hy hw (anyH_of_held hsel hw is _ _ hB' h' hK)
theorem WRH.first {listed : Array Bool} {g : Nat} (js : List Nat) (hsel : Region.noSelect os.toArray = true) (hB : takesB .any os.toArray js listed = true) (keep : ∀ w, St p w0 w L → St p w0 w L0)
    (h : WH P os.toArray (RestH P os Q p w0 L0 g (marks listed js)) n p w0 L0 (js.map (at_ os)) l L) : WRH P os Q n p w0 L0 (js.length + g) listed l L := fun a w ha hS =>
  anyH_of_held (K := fun a' => ∀ w, St p w0 w L → RestH P os Q p w0 L0 g (marks listed js) a' w) hsel (keep w hS) js listed a hB (h a ha) (fun _ h => h w hS)
theorem WRH.each {g : Nat} {listed : Array Bool} (rs : List Nat) (hr : Region.ready .any os.toArray listed = rs) (hne : rs ≠ [])
    (h : AllOf (fun i => WL P os.toArray (RQ (fun a' w' => St p w0 w' L0 ∧ RestH P os Q p w0 L0 g (listed.setIfInBounds i true) a' w') (NP Q)) n p w0 [at_ os i] l L) rs) : WRH P os Q n p w0 L0 (g + 1) listed l L := fun a w ha hS => by
  refine wpAnyH_all hr hne fun i hi => ?_
  have ho := at_some (listed := listed) (i := i) (by rw [hr]; exact hi)
  have h' : wpList P os.toArray (RQ (fun a' w' => St p w0 w' L0 ∧ RestH P os Q p w0 L0 g (listed.setIfInBounds i true) a' w') (NP Q)) [at_ os i] a w := h.get i hi a w ha hS
  unfold wpOp
  simp only [ho]
  unfold wpList at h'
  split
  · rename_i hwd
    rw [if_pos hwd] at h'
    exact (h'.imp wpRQ (fun h => ⟨h.1, RQ.out h.2⟩)).imp (Oper.wp_mono fun a' w' h => h) id
  · rename_i hwd
    rw [if_neg hwd] at h'
    exact h'
theorem WRH.one {g : Nat} {listed : Array Bool} (i : Nat) (hr : Region.ready .any os.toArray listed = [i])
    (h : WL P os.toArray (RQ (fun a' w' => St p w0 w' L0 ∧ RestH P os Q p w0 L0 g (listed.setIfInBounds i true) a' w') (NP Q)) n p w0 [at_ os i] l L) : WRH P os Q n p w0 L0 (g + 1) listed l L :=
  WRH.each [i] hr (by simp) h
theorem WRH.done {listed : Array Bool} (hB : Region.ready .any os.toArray listed = []) (h : WE Q .normal n p w0 l L) : WRH P os Q n p w0 L0 0 listed l L := fun a w ha hS => ⟨hB, h a w ha hS⟩
theorem WH.nil {listed : Array Bool} {g : Nat} (h : WRH P os Q n p w0 L0 g listed l L) : WH P os.toArray (RestH P os Q p w0 L0 g listed) n p w0 L0 [] l L := fun a ha w hS => h a w ha hS
theorem WL.nilH {listed : Array Bool} {g : Nat} (keep : ∀ w, St p w0 w L → St p w0 w L0) (h : WRH P os Q n p w0 L0 g listed l L) : WL P os.toArray (RQ (fun a' w' => St p w0 w' L0 ∧ RestH P os Q p w0 L0 g listed a' w') (NP Q)) n p w0 [] l L := fun a w ha hS => ⟨keep w hS, h a w ha hS⟩
theorem WH.val {d : Nat} {v : Value} (hv : Val P (fun w => St p w0 w L0) n l o v) (hg : On ops o l) (hd : o.dst = some d) (hn : Nat.blt d n = true)
    (h : WH P ops K n p w0 L0 rest ((d, v) :: l) L) : WH P ops K n p w0 L0 (o :: rest) l L := fun a ha =>
  ⟨v, .inl ⟨hg.ok ha, fun w hw => hv a w ha hw⟩, h _ (ha.put_any hd hn v)⟩
end
end Go.Proofs.YtkeonnnhogaggaaGreatDoor
/- table: New, Take, at, Find, clone, Len, Room. -/
namespace Go.Proofs.YtkeonnnhogaggaaGreatDoor
open Go.RowKit

/-- What is asked of a rule that is handed in. -/
structure RuOk (w : World) (r : RuL) : Prop where
  rd : Rg w r.ad (actsL r.acts)
  len : r.acts.length ≤ 100000
/-- What Find answers: the first entry that is hit, in new memory. -/
def FindP (w w' : World) (es : List EnL) (H : Hd) (e : Ending) : Prop :=
  ((∀ x ∈ es, ¬ x.r.m.hits H) ∧ e = .returned (.tuple #[.agg (EnL.cells ⟨0, 0, ⟨⟨fun _ => 0, fun _ => 0⟩, none, 0, []⟩⟩).toArray, .bool false]) ∧ Frm (fun _ => False) w w') ∨
  ∃ (i : Nat) (x y : EnL) (K : List Ent), es[i]? = some x ∧ x.r.m.hits H ∧ (∀ j y, j < i → es[j]? = some y → ¬ y.r.m.hits H) ∧ y.d = x.d ∧ e = .returned (.tuple #[.agg y.cells.toArray, .bool true]) ∧ RuOwn K y.r ∧ St (fun _ => False) w w' K
/-- The same, whichever it is. -/
def FindQ (w w' : World) (es : List EnL) (H : Hd) (e : Ending) : Prop :=
  ∃ (b : Bool) (y : EnL) (K : List Ent), e = .returned (.tuple #[.agg y.cells.toArray, .bool b]) ∧ (b = false → ∀ x ∈ es, ¬ x.r.m.hits H) ∧ (b = true → ∃ (i : Nat) (x : EnL), es[i]? = some x ∧ x.r.m.hits H ∧ (∀ j y, j < i → es[j]? = some y → ¬ y.r.m.hits H) ∧ y.d = x.d) ∧ RuOwn K y.r ∧ St (fun _ => False) w w' K
end Go.Proofs.YtkeonnnhogaggaaGreatDoor
/- rules.List.Run of one rule, whatever its acts; table.Run. -/
namespace Go.Proofs.YtkeonnnhogaggaaGreatDoor
open Go.RowKit Go.Sort

/-- A header with nothing behind its addresses' six bytes. -/
def Hd.nrm (H : Hd) : Hd := { H with src := fun i => if i < 6 then H.src i else 0, dst := fun i => if i < 6 then H.dst i else 0 }
instance : Inhabited { H : Hd // H.Rt } := ⟨⟨Hd.zero, ⟨Hd.zero_in, by decide⟩⟩⟩
open Classical in
/-- What a rule makes of a header. -/
structure RunD (r : RuD) (H : Hd) (hs : List Hd) : Prop where
  strict : hs.Pairwise fun a b => hcmpK a b 9 < 0
  mem : ∀ x, x ∈ hs ↔ ∃ a ∈ r.acts, x = (appK a H 9).nrm
/-- What Run of a table hands back. -/
def TRunP (es : List EnL) (H : Hd) (hs : List Hd) : Prop := ((∀ x ∈ es, ¬ x.r.m.hits H) ∧ hs = []) ∨ ∃ (i : Nat) (x : EnL), es[i]? = some x ∧ x.r.m.hits H ∧ (∀ j y, j < i → es[j]? = some y → ¬ y.r.m.hits H) ∧ RunD x.r.d H hs
end Go.Proofs.YtkeonnnhogaggaaGreatDoor
/- pile: rules of which none is covered by one ahead, as data. -/
namespace Go.Proofs.YtkeonnnhogaggaaGreatDoor
open Go.RowKit

def Mt.both (m n : Mt) : Mt := ⟨fun k => orN (m.val k) (n.val k), fun k => orN (m.mask k) (n.mask k)⟩
def Mt.meets (m n : Mt) : Prop := ∀ k, k < 9 → andN (andN (xorN (m.val k) (n.val k)) (m.mask k)) (n.mask k) = 0
instance (m n : Mt) : Decidable (m.meets n) := by unfold Mt.meets; infer_instance
/-- The match of what meets both. -/
def Mt.and (m n : Mt) : Option Mt := if m.meets n then some (m.both n) else none
def Mt.without (m : Mt) (f : Nat) : Mt := ⟨fun k => if k = f then 0 else m.val k, fun k => if k = f then 0 else m.mask k⟩
/-- The same in all fields. -/
def Mt.eqv (a b : Mt) : Prop := ∀ k, k < 9 → a.val k = b.val k ∧ a.mask k = b.mask k
instance (m n : Mt) : Decidable (m.eqv n) := by unfold Mt.eqv; infer_instance
/-- A match covers another one, and says of it what it says itself. -/
def Mt.over (r m : Mt) : Prop := ∀ k, k < 9 → andNotN (r.mask k) (m.mask k) = 0 ∧ r.val k = andN (m.val k) (r.mask k)
instance (m n : Mt) : Decidable (m.over n) := by unfold Mt.over; infer_instance
def covD (out : List RuD) (m : Mt) : Prop := ∃ r ∈ out, r.m.eqv m ∨ r.m.over m
instance (out : List RuD) (m : Mt) : Decidable (covD out m) := by unfold covD; infer_instance
structure PlD where
  mr : Int
  ma : Int
  out : List RuD
def sumA : List RuD → Nat
  | [] => 0
  | r :: rs => r.acts.length + sumA rs
theorem sumA_append : ∀ xs ys : List RuD, sumA (xs ++ ys) = sumA xs + sumA ys
  | [], ys => by show sumA ys = 0 + sumA ys; omega
  | x :: xs, ys => by show x.acts.length + sumA (xs ++ ys) = (x.acts.length + sumA xs) + sumA ys; rw [sumA_append xs ys]; omega
def PlD.add (p : PlD) (m : Mt) (us : List Ac) : Option PlD :=
  if (p.out.length : Int) ≥ p.mr ∨ ((sumA p.out : Nat) : Int) + (normF us).length > p.ma then none else some { p with out := p.out ++ [⟨m, normF us⟩] }
/-- One rule with each of others. -/
def crossI (but : List RuD) (sum : List Ac → List Ac → List Ac) (r : RuD) : List RuD → PlD → Option PlD
  | [], p => some p
  | s :: b, p => match r.m.and s.m with
    | none => crossI but sum r b p
    | some m => if covD but m ∨ covD p.out m then crossI but sum r b p else
      match p.add m (sum r.acts s.acts) with
      | none => none
      | some p' => if m.eqv r.m then some p' else crossI but sum r b p'
def crossD (but : List RuD) (sum : List Ac → List Ac → List Ac) (b : List RuD) : List RuD → PlD → Option PlD
  | [], p => some p
  | r :: a, p => match crossI but sum r b p with
    | none => none
    | some p' => crossD but sum b a p'
/-- A match as it is of a header ahead of an act: its first k fields. -/
def aheadK (act : Ac) (m : Mt) : Nat → Option Mt
  | 0 => some m
  | k + 1 => match aheadK act m k with
    | none => none
    | some n => if act.sets k then (if andN (act.val k) (n.mask k) ≠ n.val k then none else some (n.without k)) else some n
def aheadD (act : Ac) : List RuD → List RuD
  | [] => []
  | r :: l => match aheadK act r.m 9 with
    | none => aheadD act l
    | some m => ⟨m, r.acts.map act.then⟩ :: aheadD act l
def appA (a b : List Ac) : List Ac := a ++ b
def bothA (a b : List Ac) : List Ac := if a.length = 0 ∨ b.length = 0 then [] else a
def rowsD (mr ma : Int) (but b : List RuD) : List Ac → List RuD → Option (List RuD)
  | [], rows => some rows
  | a :: us, rows => match crossD but appA (aheadD a b) rows ⟨mr, ma, []⟩ with
    | none => none
    | some q => if q.out.length = 0 then some [] else rowsD mr ma but b us q.out
def addsD : List RuD → PlD → Option PlD
  | [], p => some p
  | x :: rows, p => if covD p.out x.m then addsD rows p else match p.add x.m x.acts with
    | none => none
    | some p' => addsD rows p'
def behindD (b : List RuD) : List RuD → PlD → Option PlD
  | [], p => some p
  | r :: a, p => match rowsD p.mr p.ma p.out b r.acts [⟨r.m, []⟩] with
    | none => none
    | some rows => match addsD rows p with
      | none => none
      | some p' => behindD b a p'
def outD : Option PlD → List RuD
  | none => []
  | some p => p.out
theorem PlD.add_some {p q : PlD} {m : Mt} {us : List Ac} (h : p.add m us = some q) : q = { p with out := p.out ++ [⟨m, normF us⟩] } := by
  unfold PlD.add at h
  split at h
  · cases h
  · exact (Option.some.inj h).symm
/-! ### How many -/
theorem crossI_len {but : List RuD} {sum : List Ac → List Ac → List Ac} {r : RuD} : ∀ (b : List RuD) (p q : PlD), crossI but sum r b p = some q → q.out.length ≤ p.out.length + b.length ∧ q.mr = p.mr ∧ q.ma = p.ma
  | [], p, q, h => by cases h; exact ⟨Nat.le_refl _, rfl, rfl⟩
  | s :: b, p, q, h => by
    rw [crossI] at h
    rw [List.length_cons]
    split at h
    · have := crossI_len b p q h; exact ⟨by omega, this.2⟩
    split at h
    · have := crossI_len b p q h; exact ⟨by omega, this.2⟩
    split at h
    · cases h
    rename_i p' hp
    have e := PlD.add_some hp
    split at h
    · cases h
      subst e
      exact ⟨by dsimp only; rw [List.length_append]; show _ + 1 ≤ _; omega, rfl, rfl⟩
    · have := crossI_len b p' q h
      subst e
      dsimp only at this
      rw [List.length_append] at this
      exact ⟨by have : q.out.length ≤ p.out.length + 1 + b.length := this.1; omega, this.2⟩
theorem crossD_len {but : List RuD} {sum : List Ac → List Ac → List Ac} {b : List RuD} : ∀ (a : List RuD) (p q : PlD), crossD but sum b a p = some q → q.out.length ≤ p.out.length + a.length * b.length ∧ q.mr = p.mr ∧ q.ma = p.ma
  | [], p, q, h => by cases h; exact ⟨by omega, rfl, rfl⟩
  | r :: a, p, q, h => by
    rw [crossD] at h
    split at h
    · cases h
    rename_i p' hp
    have h1 := crossI_len b p p' hp
    have h2 := crossD_len a p' q h
    rw [List.length_cons, Nat.add_mul]
    exact ⟨by omega, h2.2.1.trans h1.2.1, h2.2.2.trans h1.2.2⟩
/-- What is said of all rules' acts stays so. -/
theorem crossI_all {Q : List Ac → Prop} {but : List RuD} {sum : List Ac → List Ac → List Ac} {r : RuD} : ∀ (b : List RuD) (p q : PlD), (∀ s ∈ b, Q (normF (sum r.acts s.acts))) → (∀ x ∈ p.out, Q x.acts) → crossI but sum r b p = some q → ∀ x ∈ q.out, Q x.acts
  | [], p, q, _, hp, h => by cases h; exact hp
  | s :: b, p, q, hQ, hp, h => by
    have hQ' : ∀ s ∈ b, Q (normF (sum r.acts s.acts)) := fun x hx => hQ x (List.mem_cons_of_mem _ hx)
    rw [crossI] at h
    split at h
    · exact crossI_all b p q hQ' hp h
    split at h
    · exact crossI_all b p q hQ' hp h
    split at h
    · cases h
    rename_i p' hp'
    have e := PlD.add_some hp'
    have hp2 : ∀ x ∈ p'.out, Q x.acts := by
      subst e
      intro x hx
      rcases List.mem_append.1 hx with hx | hx
      · exact hp x hx
      · rw [List.mem_singleton.1 hx]; exact hQ s (List.mem_cons_self ..)
    split at h
    · cases h; exact hp2
    · exact crossI_all b p' q hQ' hp2 h
theorem crossD_all {Q : List Ac → Prop} {but : List RuD} {sum : List Ac → List Ac → List Ac} {b : List RuD} : ∀ (a : List RuD) (p q : PlD), (∀ r ∈ a, ∀ s ∈ b, Q (normF (sum r.acts s.acts))) → (∀ x ∈ p.out, Q x.acts) → crossD but sum b a p = some q → ∀ x ∈ q.out, Q x.acts
  | [], p, q, _, hp, h => by cases h; exact hp
  | r :: a, p, q, hQ, hp, h => by
    rw [crossD] at h
    split at h
    · cases h
    rename_i p' hp'
    exact crossD_all a p' q (fun x hx => hQ x (List.mem_cons_of_mem _ hx)) (crossI_all b p p' (hQ r (List.mem_cons_self ..)) hp hp') h
theorem aheadD_len (act : Ac) : ∀ l : List RuD, (aheadD act l).length ≤ l.length
  | [] => Nat.le_refl _
  | r :: l => by
    rw [aheadD]
    have := aheadD_len act l
    split
    · rw [List.length_cons]; omega
    · rw [List.length_cons, List.length_cons]; omega
theorem aheadD_all {act : Ac} {n : Nat} : ∀ l : List RuD, (∀ r ∈ l, r.acts.length ≤ n) → ∀ r ∈ aheadD act l, r.acts.length ≤ n
  | [], _, r, h => by cases h
  | x :: l, hl, r, h => by
    rw [aheadD] at h
    split at h
    · exact aheadD_all l (fun y hy => hl y (List.mem_cons_of_mem _ hy)) r h
    · rcases List.mem_cons.1 h with rfl | h
      · show (x.acts.map act.then).length ≤ n
        rw [List.length_map]; exact hl x (List.mem_cons_self ..)
      · exact aheadD_all l (fun y hy => hl y (List.mem_cons_of_mem _ hy)) r h
/-- A row of one rule ahead of others: so many rules, so many acts. -/
theorem rowsD_len {mr ma : Int} {but b : List RuD} {kr ka : Nat} (hk : 1 ≤ kr) (hb : b.length ≤ kr) (hba : ∀ r ∈ b, r.acts.length ≤ ka) : ∀ (us : List Ac) (rows out : List RuD) (n : Nat), (∀ r ∈ rows, r.acts.length ≤ n * ka) → rowsD mr ma but b us rows = some out → out.length ≤ rows.length * kr ^ us.length ∧ ∀ r ∈ out, r.acts.length ≤ (n + us.length) * ka
  | [], rows, out, n, hr, h => by cases h; exact ⟨by simp, by simpa using hr⟩
  | a :: us, rows, out, n, hr, h => by
    rw [rowsD] at h
    split at h
    · cases h
    rename_i q hq
    have h1 := crossD_len rows ⟨mr, ma, []⟩ q hq
    have h2 := crossD_all (Q := fun l => l.length ≤ (n + 1) * ka) rows ⟨mr, ma, []⟩ q (fun r hr' s hs => by
      refine Nat.le_trans (normF_len _) ?_
      unfold appA
      rw [List.length_append, Nat.add_mul, Nat.one_mul]
      have := hr r hr'
      have := aheadD_all b hba s hs
      omega) (fun x hx => by cases hx) hq
    split at h
    · cases h; exact ⟨Nat.zero_le _, fun r hr => by cases hr⟩
    · have h3 := rowsD_len hk hb hba us q.out out (n + 1) h2 h
      refine ⟨?_, by rw [List.length_cons, show n + (us.length + 1) = n + 1 + us.length by omega]; exact h3.2⟩
      refine Nat.le_trans h3.1 ?_
      rw [List.length_cons, Nat.pow_succ, Nat.mul_comm (kr ^ us.length) kr, ← Nat.mul_assoc]
      refine Nat.mul_le_mul_right _ ?_
      have h4 : q.out.length ≤ 0 + rows.length * (aheadD a b).length := h1.1
      refine Nat.le_trans (by omega : q.out.length ≤ rows.length * (aheadD a b).length) (Nat.mul_le_mul_left _ (Nat.le_trans (aheadD_len a b) hb))
theorem addsD_len : ∀ (rows : List RuD) (p q : PlD), addsD rows p = some q → q.out.length ≤ p.out.length + rows.length ∧ q.mr = p.mr ∧ q.ma = p.ma
  | [], p, q, h => by cases h; exact ⟨Nat.le_refl _, rfl, rfl⟩
  | x :: rows, p, q, h => by
    rw [addsD] at h
    rw [List.length_cons]
    split at h
    · have := addsD_len rows p q h; exact ⟨by omega, this.2⟩
    split at h
    · cases h
    rename_i p' hp
    have e := PlD.add_some hp
    have := addsD_len rows p' q h
    subst e
    dsimp only at this
    rw [List.length_append] at this
    exact ⟨by have : q.out.length ≤ p.out.length + 1 + rows.length := this.1; omega, this.2⟩
theorem addsD_all {n : Nat} : ∀ (rows : List RuD) (p q : PlD), (∀ r ∈ rows, r.acts.length ≤ n) → (∀ r ∈ p.out, r.acts.length ≤ n) → addsD rows p = some q → ∀ r ∈ q.out, r.acts.length ≤ n
  | [], p, q, _, hp, h => by cases h; exact hp
  | x :: rows, p, q, hr, hp, h => by
    have hr' : ∀ r ∈ rows, r.acts.length ≤ n := fun y hy => hr y (List.mem_cons_of_mem _ hy)
    rw [addsD] at h
    split at h
    · exact addsD_all rows p q hr' hp h
    split at h
    · cases h
    rename_i p' hp'
    have e := PlD.add_some hp'
    refine addsD_all rows p' q hr' (fun r h1 => ?_) h
    subst e
    rcases List.mem_append.1 h1 with h1 | h1
    · exact hp r h1
    · rw [List.mem_singleton.1 h1]; exact Nat.le_trans (normF_len _) (hr x (List.mem_cons_self ..))
theorem behindD_len {b : List RuD} {kr ka n : Nat} (hk : 1 ≤ kr) (hb : b.length ≤ kr) (hba : ∀ r ∈ b, r.acts.length ≤ ka) : ∀ (a : List RuD) (p q : PlD), (∀ r ∈ a, r.acts.length ≤ n) → (∀ r ∈ p.out, r.acts.length ≤ n * ka) → behindD b a p = some q → q.out.length ≤ p.out.length + a.length * kr ^ n ∧ (∀ r ∈ q.out, r.acts.length ≤ n * ka) ∧ q.mr = p.mr ∧ q.ma = p.ma
  | [], p, q, _, hp, h => by cases h; exact ⟨by omega, hp, rfl, rfl⟩
  | r :: a, p, q, ha, hp, h => by
    rw [behindD] at h
    split at h
    · cases h
    rename_i rows hrows
    split at h
    · cases h
    rename_i p' hp'
    have hrn := ha r (List.mem_cons_self ..)
    have h1 := rowsD_len hk hb hba r.acts [⟨r.m, []⟩] rows 0 (fun x hx => by rw [List.mem_singleton.1 hx]; exact Nat.zero_le _) hrows
    rw [List.length_singleton, Nat.one_mul, Nat.zero_add] at h1
    have h2 := addsD_len rows p p' hp'
    have h3 := addsD_all (n := n * ka) rows p p' (fun x hx => Nat.le_trans (h1.2 x hx) (Nat.mul_le_mul_right _ hrn)) hp hp'
    have h4 := behindD_len hk hb hba a p' q (fun x hx => ha x (List.mem_cons_of_mem _ hx)) h3 h
    have h5 : kr ^ r.acts.length ≤ kr ^ n := Nat.pow_le_pow_right hk hrn
    refine ⟨?_, h4.2.1, h4.2.2.1.trans h2.2.1, h4.2.2.2.trans h2.2.2⟩
    rw [List.length_cons, Nat.add_mul, Nat.one_mul]
    omega
/-! ### Numbers in range -/
theorem orN_u64 {x y : Int} (h1 : x ≤ 18446744073709551615) (h2 : y ≤ 18446744073709551615) : 0 ≤ orN x y ∧ orN x y ≤ 18446744073709551615 := by
  unfold orN
  have : x.toNat ||| y.toNat < 2 ^ 64 := Nat.or_lt_two_pow (by omega) (by omega)
  omega
theorem Mt.both_in {m n : Mt} (h1 : m.In) (h2 : n.In) : (m.both n).In := ⟨fun k => orN_u64 (h1.val k).2 (h2.val k).2, fun k => orN_u64 (h1.mask k).2 (h2.mask k).2⟩
theorem Mt.both_nz {m n : Mt} (h1 : m.Nz) (h2 : n.Nz) : (m.both n).Nz := fun k hk => by
  have a := h1 k hk
  have b := h2 k hk
  exact ⟨by show orN (m.val k) (n.val k) = 0; rw [a.1, b.1]; rfl, by show orN (m.mask k) (n.mask k) = 0; rw [a.2, b.2]; rfl⟩
theorem Mt.without_in {m : Mt} (h : m.In) (f : Nat) : (m.without f).In :=
  ⟨fun k => by show 0 ≤ (if k = f then 0 else m.val k) ∧ (if k = f then 0 else m.val k) ≤ _; split; exact ⟨Int.le_refl _, by decide⟩; exact h.val k,
   fun k => by show 0 ≤ (if k = f then 0 else m.mask k) ∧ (if k = f then 0 else m.mask k) ≤ _; split; exact ⟨Int.le_refl _, by decide⟩; exact h.mask k⟩
theorem Mt.without_nz {m : Mt} (h : m.Nz) (f : Nat) : (m.without f).Nz := fun k hk =>
  ⟨by show (if k = f then 0 else m.val k) = 0; split; rfl; exact (h k hk).1, by show (if k = f then 0 else m.mask k) = 0; split; rfl; exact (h k hk).2⟩
/-- A rule whose numbers are in range and whose acts are in their form. -/
structure RuD.Fit (r : RuD) : Prop where
  isIn : r.In
  ok : ∀ a ∈ r.acts, a.Ok
theorem Ac.thn_nz {a b : Ac} (ha : a.Nz) (hb : b.Nz) : (a.then b).Nz := fun k hk => by
  show (if b.sets k then b.val k else a.val k) = 0
  split
  · exact hb k hk
  · exact ha k hk
theorem sets_or {a b : Int} {k : Nat} (h0 : 0 ≤ a) (h1 : 0 ≤ b) : orN a b / 2 ^ k % 2 = 1 ↔ (a / 2 ^ k % 2 = 1 ∨ b / 2 ^ k % 2 = 1) := by
  obtain ⟨x, rfl⟩ := Int.eq_ofNat_of_zero_le h0
  obtain ⟨y, rfl⟩ := Int.eq_ofNat_of_zero_le h1
  have hb : ∀ n : Nat, ((n : Int) / 2 ^ k % 2 = 1) ↔ n.testBit k = true := fun n => by
    rw [Nat.testBit_eq_decide_div_mod_eq, decide_eq_true_iff]
    have : ((n : Int) / 2 ^ k % 2) = ((n / 2 ^ k % 2 : Nat) : Int) := by push_cast; rfl
    rw [this]; omega
  show ((((x : Int).toNat ||| (y : Int).toNat : Nat) : Int) / 2 ^ k % 2 = 1) ↔ _
  rw [hb, hb, hb]
  simp [Nat.testBit_or]
theorem Ac.thn_ok {a b : Ac} (ha : a.Ok) (hb : b.Ok) : (a.then b).Ok := by
  refine ⟨?_, fun k hk => ?_⟩
  · show 0 ≤ orN a.set b.set ∧ orN a.set b.set ≤ 511
    unfold orN
    have h1 := ha.1
    have h2 := hb.1
    have : a.set.toNat ||| b.set.toNat < 2 ^ 9 := Nat.or_lt_two_pow (by omega) (by omega)
    omega
  · show (if b.sets k then b.val k else a.val k) ≤ fullI k ∧ ((if b.sets k then b.val k else a.val k) ≠ 0 → (a.then b).sets k)
    have hs : (a.then b).sets k ↔ a.sets k ∨ b.sets k := sets_or ha.1.1 hb.1.1
    rw [hs]
    split
    · rename_i h; exact ⟨(hb.2 k hk).1, fun _ => .inr h⟩
    · exact ⟨(ha.2 k hk).1, fun h => .inl ((ha.2 k hk).2 h)⟩
theorem Ac.thn_in {a b : Ac} (ha : a.In) (hb : b.In) (h1 : a.Ok) (h2 : b.Ok) : (a.then b).In :=
  ⟨by have := (Ac.thn_ok h1 h2).1; omega, fun k => by
    show 0 ≤ (if b.sets k then b.val k else a.val k) ∧ (if b.sets k then b.val k else a.val k) ≤ _
    split
    · exact hb.val k
    · exact ha.val k⟩
theorem fit_new {m : Mt} {us : List Ac} (hm : m.In) (hz : m.Nz) (ha : ∀ a ∈ us, a.In ∧ a.Nz ∧ a.Ok) : (⟨m, normF us⟩ : RuD).Fit :=
  ⟨⟨hm, hz, fun a h => ⟨(ha a (normF_sub h)).1, (ha a (normF_sub h)).2.1⟩⟩, fun a h => (ha a (normF_sub h)).2.2⟩
theorem and_some {r s m : Mt} (h : r.and s = some m) : r.meets s ∧ m = r.both s := by
  unfold Mt.and at h
  split at h
  · rename_i hm; exact ⟨hm, (Option.some.inj h).symm⟩
  · cases h
def SumOk (sum : List Ac → List Ac → List Ac) : Prop := ∀ x y a, a ∈ sum x y → a ∈ x ∨ a ∈ y
theorem appA_ok : SumOk appA := fun _ _ _ h => List.mem_append.1 h
theorem bothA_ok : SumOk bothA := fun _ _ _ h => by
  unfold bothA at h
  split at h
  · cases h
  · exact .inl h
theorem RuD.Fit.three {r : RuD} (h : r.Fit) {a : Ac} (ha : a ∈ r.acts) : a.In ∧ a.Nz ∧ a.Ok := ⟨(h.isIn.act a ha).1, (h.isIn.act a ha).2, h.ok a ha⟩
theorem sum_three {sum : List Ac → List Ac → List Ac} (hs : SumOk sum) {r s : RuD} (hr : r.Fit) (hs' : s.Fit) : ∀ a ∈ sum r.acts s.acts, a.In ∧ a.Nz ∧ a.Ok := fun a h => (hs _ _ a h).elim hr.three hs'.three
theorem aheadK_in {act : Ac} {m : Mt} (hm : m.In) (hz : m.Nz) : ∀ (k : Nat) (n : Mt), aheadK act m k = some n → n.In ∧ n.Nz
  | 0, n, h => by cases h; exact ⟨hm, hz⟩
  | k + 1, n, h => by
    rw [aheadK] at h
    split at h
    · cases h
    rename_i n' hn
    have ih := aheadK_in hm hz k n' hn
    split at h
    · split at h
      · cases h
      · cases h; exact ⟨Mt.without_in ih.1 k, Mt.without_nz ih.2 k⟩
    · cases h; exact ih
theorem aheadD_fit {act : Ac} (h1 : act.In) (h2 : act.Nz) (h3 : act.Ok) : ∀ l : List RuD, (∀ r ∈ l, r.Fit) → ∀ r ∈ aheadD act l, r.Fit
  | [], _, r, h => by cases h
  | x :: l, hl, r, h => by
    rw [aheadD] at h
    split at h
    · exact aheadD_fit h1 h2 h3 l (fun y hy => hl y (List.mem_cons_of_mem _ hy)) r h
    · rename_i m hm
      rcases List.mem_cons.1 h with rfl | h
      · have hx := hl x (List.mem_cons_self ..)
        have hm2 := aheadK_in hx.isIn.m hx.isIn.nz 9 m hm
        refine ⟨⟨hm2.1, hm2.2, fun a ha => ?_⟩, fun a ha => ?_⟩
        · obtain ⟨b, hb, rfl⟩ := List.mem_map.1 ha
          have hb := hx.three hb
          exact ⟨Ac.thn_in h1 hb.1 h3 hb.2.2, Ac.thn_nz h2 hb.2.1⟩
        · obtain ⟨b, hb, rfl⟩ := List.mem_map.1 ha
          have hb := hx.three hb
          exact Ac.thn_ok h3 hb.2.2
      · exact aheadD_fit h1 h2 h3 l (fun y hy => hl y (List.mem_cons_of_mem _ hy)) r h
end Go.Proofs.YtkeonnnhogaggaaGreatDoor
/- The engine: a scope (a body with labels) through which the run goes without a goto. -/
namespace Go.Proofs.YtkeonnnhogaggaaGreatDoor
open Go.RowKit

section
variable {P : Program} {Q : Exit → Act → World → Prop} {n : Nat} {p : Nat → Prop} {w0 : World} {l : Kn} {L : List Ent}
theorem WC.scope {c : Code} (h : WC P c (Exit.noGoto Q) n p w0 l L) : WC P (.scope c) Q n p w0 l L := fun a w ha hS => wp_scope_straight (h a w ha hS)
theorem WE.scope_ret (h : WE Q .ret n p w0 l L) : WE (Exit.noGoto Q) .ret n p w0 l L := h
end
end Go.Proofs.YtkeonnnhogaggaaGreatDoor
/- Matches as a map's keys (structs of arrays of numbers). -/
namespace Go.Proofs.YtkeonnnhogaggaaGreatDoor
open Go.RowKit

theorem mapM_rng {β : Type} {f : Nat → Option β} {g : Nat → β} : ∀ (n : Nat), (∀ i, i < n → f i = some (g i)) → (List.range n).mapM f = some ((List.range n).map g)
  | 0, _ => rfl
  | n + 1, h => by
    rw [List.range_succ, List.mapM_append, mapM_rng n (fun i hi => h i (by omega)), List.map_append]
    simp [h n (by omega)]
theorem lits_ucs {P : Program} {t e : TypeId} {d : Nat} {f : Nat → Int} (hu : P.underlying t = some (.array 9 e)) (he : P.underlying e = some (.int .u64)) (hc : P.cellsOf t = 9) (hce : P.cellsOf e = 1) (hf : ∀ k, 0 ≤ f k ∧ f k ≤ 18446744073709551615) :
    P.keyLits (d + 2) t (ucs f 9) = some ((List.range 9).map fun i => Lit.int .u64 (f i)) := by
  have key : ∀ i, i < 9 → P.keyLits (d + 1) e (((ucs f 9).drop (i * P.cellsOf e)).take (P.cellsOf e)) = some [Lit.int .u64 (f i)] := fun i hi => by
    have h1 : ((ucs f 9).drop (i * P.cellsOf e)).take (P.cellsOf e) = [.int .u64 (f i)] := by
      rw [hce, Nat.mul_one]
      have := List.drop_eq_getElem_cons (l := ucs f 9) (i := i) (by rw [ucs_len]; exact hi)
      rw [this]
      have h2 := ucs_get f hi
      rw [List.getElem?_eq_getElem (by rw [ucs_len]; exact hi)] at h2
      rw [Option.some.inj h2]
      rfl
    rw [h1]
    unfold Program.keyLits
    rw [he]
    have hw : (Lit.int .u64 (f i)).wf = true := by
      have h := hf i
      show (decide (IntKind.u64.min ≤ f i) && decide (f i ≤ IntKind.u64.max)) = true
      rw [decide_eq_true (show IntKind.u64.min ≤ f i from h.1), decide_eq_true (show f i ≤ IntKind.u64.max from h.2)]
      rfl
    simp [hw]
  unfold Program.keyLits
  rw [hu]
  simp only [hc, ucs_len, if_true]
  rw [mapM_rng 9 key]
  rfl
def KMt : Value → Prop := fun v => ∃ l, keyOf Tryz.prog 115 v = some l
theorem keyW_115 : KeyP Tryz.prog 115 KMt := by
  have L : WideMaps.KeyLaw Tryz.prog 115 := deep_law (m := 4) (by decide) (by kernel_rfl) (by kernel_rfl) (by kernel_rfl)
  exact ⟨fun b w v ⟨l, h⟩ => L.check w b h, fun w x es ⟨l, h⟩ he => L.find w h es he, fun w v ⟨l, h⟩ => L.stays w h⟩
theorem lits_mt (m : Mt) (hm : m.In) : ∃ ls, Tryz.prog.keyLits (Tryz.prog.types.size + 1) 115 (mtL m) = some ls := by
  have h1 := lits_ucs (P := Tryz.prog) (t := 108) (e := 23) (d := Tryz.prog.types.size - 2) Tryz.underlying108 Tryz.underlying23 (by kernel_rfl) (by kernel_rfl) hm.val
  have h2 := lits_ucs (P := Tryz.prog) (t := 108) (e := 23) (d := Tryz.prog.types.size - 2) Tryz.underlying108 Tryz.underlying23 (by kernel_rfl) (by kernel_rfl) hm.mask
  have hs : Tryz.prog.types.size - 2 + 2 = Tryz.prog.types.size := by kernel_rfl
  rw [hs] at h1 h2
  have e1 : (mtL m).take 9 = ucs m.val 9 := rfl
  have e2 : ((mtL m).drop 9).take 9 = ucs m.mask 9 := rfl
  have hc : Tryz.prog.cellsOf 108 = 9 := by kernel_rfl
  have hc2 : Tryz.prog.cellsOf 115 = 18 := by kernel_rfl
  unfold Program.keyLits
  rw [Tryz.underlying115]
  generalize Tryz.prog.types.size = Z at h1 h2 ⊢
  simp [hc, hc2, mtL_len, e1, e2, h1, h2]
theorem KMt.mk {m : Mt} (hm : m.In) : KMt (mtV m) := by
  obtain ⟨ls, h⟩ := lits_mt m hm
  have hk : Tryz.prog.keyType 115 = true := by kernel_rfl
  have hf : (mtV m).formed Tryz.prog 115 = true := by
    have hc2 : Tryz.prog.cellsOf 115 = 18 := by kernel_rfl
    unfold mtV Value.formed
    rw [Tryz.underlying115]
    simp [hc2, mtL_len]
  refine ⟨.string (keyBytes ls), ?_⟩
  unfold keyOf
  rw [Tryz.underlying115]
  have hc : (mtV m).cells.toList = mtL m := rfl
  simp only [hk, hf, Bool.and_true, if_true, hc, h, Option.map_some]
end Go.Proofs.YtkeonnnhogaggaaGreatDoor
