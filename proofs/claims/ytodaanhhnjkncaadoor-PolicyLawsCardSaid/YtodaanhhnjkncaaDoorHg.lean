/- head: Num, Of, Get, With, Cmp; cmp.Compare. -/
import Derived.Test.YtodaanhhnjkncaaDoorHd
import Derived.Test.YtodaanhhnjkncaaDoorBits
namespace Go.Proofs.YtodaanhhnjkncaaDoor
open Go.RowKit

theorem u64_or8 {x y : Int} (hx : 0 ≤ x) (hx' : x ≤ 1099511627775) (hy : 0 ≤ y) (hy' : y ≤ 255) : bits .or .u64 (x * 256) y = x * 256 + y :=
  bits_join .u64 64 (by decide) wraps_u64' 8 (x * 256) y (by omega) (by omega) (by omega) hy (by omega) (by omega)
/-- The number of so many bytes. -/
def numK (m : Nat → Int) : Nat → Int | 0 => 0 | k + 1 => numK m k * 256 + m k
theorem numK_le {m : Nat → Int} (hm : Byt m) {k : Nat} (hk : k ≤ 6) : 0 ≤ numK m k ∧ (k ≤ 5 → numK m k ≤ 1099511627775) ∧ numK m k ≤ 281474976710655 := by
  have h0 := hm 0; have h1 := hm 1; have h2 := hm 2; have h3 := hm 3; have h4 := hm 4; have h5 := hm 5
  match k, hk with
  | 0, _ | 1, _ | 2, _ | 3, _ | 4, _ | 5, _ | 6, _ => simp only [numK]; omega
theorem Num_c (w : World) (m : Nat → Int) (hm : Byt m) :
    Calls Tryd.prog 52 #[.agg (bcs m 6).toArray] w fun e w' => e = .returned (.int .u64 (numK m 6)) ∧ Frm (fun _ => False) w w' := by
  refine enter Tryd.func52 rfl Tryd.ntmps52 rfl (St.start (fun _ => False) w) ?_
  refine WC.seq ?_
  refine WC.region ?_
  refine WL.box rfl rfl rfl (.none rfl) rfl rfl ?_
  intro g1 hg1
  refine WL.val (v_assign rfl rfl) (.none rfl) rfl rfl ?_
  refine WL.nil ?_
  refine WE.then_n ?_
  refine WC.seq ?_
  refine WC.region ?_
  refine WL.val (v_assign rfl rfl) (.none rfl) rfl rfl ?_
  refine WL.nil ?_
  refine WE.then_n ?_
  refine WC.seq ?_
  refine WC.seq ?_
  refine WC.region ?_
  refine WL.val (v_loadN rfl rfl many_27 rfl allAt) (.none rfl) rfl rfl ?_
  refine WL.val (v_move rfl rfl) (.none rfl) rfl rfl ?_
  refine WL.nil ?_
  refine WE.then_n ?_
  refine WC.block ?_
  refine WC.loop (fun k : Nat => [(7, .int .i64 k), (6, .agg (bcs m 6).toArray), (3, .int .u64 (numK m k))]) (fun _ => []) (fun k => k ≤ 6) (fun k => 6 - k) 0 (Nat.zero_le _) (.cons rfl (.cons rfl (.cons rfl .nil))) (.cons _ (.refl _)) ?_
  intro k hk
  have hN := numK_le hm hk
  have hb := hm k
  refine WC.seq ?_
  refine WC.region ?_
  refine WL.test (v_lss rfl rfl rfl) (.none rfl) rfl rfl (fun h8 => ?_) (fun h8 => ?_)
  · -- 8T
    refine WL.nil ?_
    refine WE.then_n ?_
    refine WC.seq ?_
    refine WC.cond_t rfl ?_
    refine WC.skip ?_
    refine WE.then_n ?_
    refine WC.seq ?_
    refine WC.block ?_
    refine WC.seq ?_
    refine WC.region ?_
    refine WL.val (v_indexV (lo := k) rfl rfl rfl Tryd.underlying27 one_5 (by omega) (by omega) (bcs_get m 6 k (by omega))) (.none rfl) rfl rfl ?_
    refine WL.val (v_assign rfl rfl) (.none rfl) rfl rfl ?_
    refine WL.nil ?_
    refine WE.then_n ?_
    refine WC.region ?_
    refine WL.val (v_move rfl rfl) (.none rfl) rfl rfl ?_
    refine WL.val (v_shl (m := 8) (c := 256) rfl rfl rfl rfl (by decide) (by decide) (w_u64 (by omega) (by omega))) (.none rfl) rfl rfl ?_
    refine WL.val (v_move rfl rfl) (.none rfl) rfl rfl ?_
    refine WL.val (v_conv rfl rfl Tryd.underlying22 Tryd.underlying5 (by first | exact w_u64 (by omega) (by omega) | exact w_u64m _)) (.none rfl) rfl rfl ?_
    refine WL.val (v_or rfl rfl rfl (u64_or8 (by omega) (by omega) (by omega) (by omega))) (.none rfl) rfl rfl ?_
    refine WL.val (v_assign rfl rfl) (.none rfl) rfl rfl ?_
    refine WL.nil ?_
    refine WE.block_n ?_
    refine WE.then_n ?_
    refine WC.region ?_
    refine WL.val (v_add rfl rfl rfl (w_i64 (by omega) (by omega))) (.none rfl) rfl rfl ?_
    refine WL.val (v_move rfl rfl) (.none rfl) rfl rfl ?_
    refine WL.nil ?_
    exact WE.next (k + 1) (by omega) (by omega) (.int rfl (by omega) (.cons rfl (.cons rfl .nil))) (.refl _)
  · -- 8F
    refine WL.nil ?_
    refine WE.then_n ?_
    refine WC.seq ?_
    refine WC.cond_f rfl ?_
    refine WC.exit ?_
    refine WE.then_exit ?_
    refine WE.then_exit ?_
    refine WE.block_hit ?_
    refine WE.then_n ?_
    refine WC.seq ?_
    refine WC.region ?_
    refine WL.val (v_move rfl rfl) (.none rfl) rfl rfl ?_
    refine WL.val (v_assign rfl rfl) (.none rfl) rfl rfl ?_
    refine WL.nil ?_
    refine WE.then_n ?_
    refine WC.ret ?_
    refine WE.ret1 (P := Tryd.prog) (.inl rfl) Tryd.results52 rfl ?_
    obtain rfl : k = 6 := (by omega)
    exact fun w' h => ⟨rfl, h.frm⟩
/-- Byte i of a number's lowest six. -/
def ofB (n : Int) (i : Nat) : Int := n / 256 ^ (5 - i) % 256
theorem ofB_byt (n : Int) : Byt (ofB n) := fun i => by unfold ofB; omega
def ofJ (n : Int) (j i : Nat) : Int := if 6 - j ≤ i ∧ i < 6 then ofB n i else 0
theorem bcs_set0 {f : Nat → Int} {n j : Nat} {x : Int} (h : j < n) : (bcs f n).set j (.int .u8 x) = bcs (fun i => if i = j then x else f i) n := by
  apply List.ext_getElem?
  intro i
  rw [List.getElem?_set, bcs_len]
  by_cases h1 : j = i
  · subst h1; rw [if_pos rfl, if_pos h, bcs_get _ _ _ h, if_pos rfl]
  · rw [if_neg h1]
    by_cases hi : i < n
    · rw [bcs_get _ _ _ hi, bcs_get _ _ _ hi, if_neg (by omega)]
    · rw [List.getElem?_eq_none (by rw [bcs_len]; omega), List.getElem?_eq_none (by rw [bcs_len]; omega)]
theorem bcs_congr {f g : Nat → Int} {n : Nat} (h : ∀ i, i < n → f i = g i) : bcs f n = bcs g n := by
  unfold bcs
  apply List.map_congr_left
  intro i hi
  rw [h i (List.mem_range.1 hi)]
theorem Of_c (w : World) (n : Int) (h0 : 0 ≤ n) (_h1 : n ≤ 18446744073709551615) :
    Calls Tryd.prog 64 #[.int .u64 n] w fun e w' => e = .returned (.agg (bcs (ofB n) 6).toArray) ∧ Frm (fun _ => False) w w' := by
  refine enter Tryd.func64 rfl Tryd.ntmps64 rfl (St.start (fun _ => False) w) ?_
  refine WC.seq ?_
  refine WC.region ?_
  refine WL.alloc rfl zero_27 (.none rfl) rfl rfl ?_
  intro g2 hg2
  refine WL.nil ?_
  refine WE.then_n ?_
  refine WC.seq ?_
  refine WC.region ?_
  refine WL.alloc rfl zero_27 (.none rfl) rfl rfl ?_
  intro g3 hg3
  refine WL.nil ?_
  refine WE.then_n ?_
  refine WC.seq ?_
  refine WC.seq ?_
  refine WC.region ?_
  refine WL.val (v_assign rfl rfl) (.none rfl) rfl rfl ?_
  refine WL.nil ?_
  refine WE.then_n ?_
  refine WC.block ?_
  refine WC.loop (fun j : Nat => [(4, .int .i64 (5 - j)), (0, .int .u64 (n / 256 ^ j)), (3, .pointer (some ⟨g3, 0, none⟩)), (2, .pointer (some ⟨g2, 0, none⟩))]) (fun j => [.row g3 (bcs (ofJ n j) 6), .row g2 (bcs (fun _ => 0) 6)]) (fun j => j ≤ 6) (fun j => 6 - j) 0 (Nat.zero_le _) (.int rfl rfl (.int rfl (by rw [Int.pow_zero, Int.ediv_one]) (.cons rfl (.cons rfl .nil)))) (.refl _) ?_
  intro j hj
  have hq : 0 ≤ n / 256 ^ j := Int.ediv_nonneg h0 (Int.pow_nonneg (by omega))
  have hq2 : n / 256 ^ j ≤ n := Int.ediv_le_self _ h0
  refine WC.seq ?_
  refine WC.seq ?_
  refine WC.region ?_
  refine WL.val (v_move rfl rfl) (.none rfl) rfl rfl ?_
  refine WL.test (v_geq rfl rfl rfl) (.none rfl) rfl rfl (fun h6 => ?_) (fun h6 => ?_)
  · -- 6T
    refine WL.nil ?_
    refine WE.then_n ?_
    refine WC.cond_t rfl ?_
    refine WC.skip ?_
    refine WE.then_n ?_
    refine WC.seq ?_
    refine WC.block ?_
    refine WC.seq ?_
    refine WC.region ?_
    refine WL.val (v_move rfl rfl) (.none rfl) rfl rfl ?_
    refine WL.val (v_move rfl rfl) (.none rfl) rfl rfl ?_
    refine WL.val (v_conv rfl rfl Tryd.underlying5 Tryd.underlying22 (by first | exact w_u8 (by omega) (by omega) | exact w_u8m _)) (.none rfl) rfl rfl ?_
    refine WL.val (v_indexAddrA (lo := 5 - j) rfl rfl rfl Tryd.underlying27 sz_5 (by omega) (by omega)) (.none rfl) rfl rfl ?_
    refine WL.store1 rfl rfl rfl rfl one_5 (by rw [bcs_len]; omega) (.none rfl) rfl ?_
    refine WL.as (L' := [.row g3 (bcs (ofJ n (j + 1)) 6), .row g2 (bcs (fun _ => 0) 6)]) (by
    rw [Nat.zero_add, Nat.mul_one, bcs_set0 (by omega)]
    congr 2
    refine bcs_congr fun i hi => ?_
    unfold ofJ ofB
    by_cases e : i = 5 - j
    · rw [if_pos e, if_pos (by omega), e, show 5 - (5 - j) = j by omega]
    · rw [if_neg e]
      by_cases e2 : 6 - j ≤ i
      · rw [if_pos (by omega), if_pos (by omega)]
      · rw [if_neg (by omega), if_neg (by omega)]) ?_
    refine WL.nil ?_
    refine WE.then_n ?_
    refine WC.region ?_
    refine WL.val (v_move rfl rfl) (.none rfl) rfl rfl ?_
    refine WL.val (v_shr (m := 8) (c := 256) rfl rfl rfl rfl (by decide) (by decide)) (.none rfl) rfl rfl ?_
    refine WL.val (v_assign rfl rfl) (.none rfl) rfl rfl ?_
    refine WL.nil ?_
    refine WE.block_n ?_
    refine WE.then_n ?_
    refine WC.region ?_
    refine WL.val (v_move rfl rfl) (.none rfl) rfl rfl ?_
    refine WL.val (v_sub rfl rfl rfl (w_i64 (by omega) (by omega))) (.none rfl) rfl rfl ?_
    refine WL.val (v_assign rfl rfl) (.none rfl) rfl rfl ?_
    refine WL.nil ?_
    exact WE.next (j + 1) (by omega) (by omega) (.int rfl (by omega) (.int rfl (by rw [Int.pow_succ, Int.ediv_ediv_of_nonneg (Int.pow_nonneg (by omega))]) (.cons rfl (.cons rfl .nil)))) (.refl _)
  · -- 6F
    refine WL.nil ?_
    refine WE.then_n ?_
    refine WC.cond_f rfl ?_
    refine WC.exit ?_
    refine WE.then_exit ?_
    refine WE.then_exit ?_
    refine WE.block_hit ?_
    refine WE.then_n ?_
    refine WC.seq ?_
    refine WC.region ?_
    refine WL.val (v_loadN rfl rfl many_27 rfl allAt) (.none rfl) rfl rfl ?_
    refine WL.storeW rfl rfl rfl rfl many_27 rfl rfl (.none rfl) rfl ?_
    refine WL.nil ?_
    refine WE.then_n ?_
    refine WC.ret ?_
    refine WE.ret1 (P := Tryd.prog) (.inl rfl) Tryd.results64 (resRow rfl many_27 rfl) ?_
    obtain rfl : j = 6 := (by omega)
    exact fun w' h => ⟨by rw [bcs_congr (f := ofJ n 6) (g := ofB n) (fun i hi => by unfold ofJ; rw [if_pos (by omega)])], h.frm⟩
/-- A field's number, as it stands. -/
def rawF (H : Hd) : Nat → Int
  | 0 => H.port % 18446744073709551616 | 1 => numK H.src 6 | 2 => numK H.dst 6 | 3 => H.ty % 18446744073709551616 | 4 => H.sip | 5 => H.dip
  | 6 => H.proto % 18446744073709551616 | 7 => H.sp % 18446744073709551616 | 8 => H.dp % 18446744073709551616 | _ + 9 => 0
theorem rawF_le {H : Hd} (hH : H.In) (k : Nat) : 0 ≤ rawF H k ∧ rawF H k ≤ 18446744073709551615 := by
  have a := numK_le hH.src (Nat.le_refl 6)
  have b := numK_le hH.dst (Nat.le_refl 6)
  have c := hH.sip
  have d := hH.dip
  match k with
  | 0 | 1 | 2 | 3 | 4 | 5 | 6 | 7 | 8 | _ + 9 => simp only [rawF]; omega
/-- A field's number: its lowest bits. -/
def getF (H : Hd) (k : Nat) : Int := rawF H k % 2 ^ wdN k
theorem pow_wd (k : Nat) : 1 ≤ (2 : Int) ^ wdN k ∧ (2 : Int) ^ wdN k ≤ 281474976710656 := by
  have hw := wdN_le k
  have hpow : (2 : Int) ^ wdN k = ((2 ^ wdN k : Nat) : Int) := by simp
  have h1 : 2 ^ wdN k ≤ 2 ^ 48 := Nat.pow_le_pow_right (by decide) hw
  have h2 : 0 < 2 ^ wdN k := Nat.two_pow_pos _
  omega
theorem getF_le (H : Hd) (k : Nat) : 0 ≤ getF H k ∧ getF H k ≤ fullI k := by
  have h := pow_wd k
  unfold getF fullI
  have h1 := Int.emod_nonneg (rawF H k) (b := 2 ^ wdN k) (by omega)
  have h2 := Int.emod_lt_of_pos (rawF H k) (b := 2 ^ wdN k) (by omega)
  omega
set_option maxHeartbeats 1000000 in
theorem Get_c (w : World) (H : Hd) (k : Nat) (hk : k < 9) (hH : H.In) (hG : GW w) :
    Calls Tryd.prog 16 #[.agg (hdCells H), .int .i64 k] w fun e w' => e = .returned (.int .u64 (getF H k)) ∧ Frm (fun _ => False) w w' := by
  have hr := rawF_le hH k
  have h1 := hH.sip
  have h2 := hH.dip
  have hp := pow_wd k
  have hw := wdN_le k
  refine enter Tryd.func16 rfl Tryd.ntmps16 rfl (St.start (fun _ => False) w) ?_
  refine WC.seq ?_
  refine WC.region ?_
  refine WL.box rfl rfl rfl (.none rfl) rfl rfl ?_
  intro g2 hg2
  refine WL.val (v_assign rfl rfl) (.none rfl) rfl rfl ?_
  refine WL.nil ?_
  refine WE.then_n ?_
  refine WC.seq ?_
  refine WC.region ?_
  refine WL.val (v_assign rfl rfl) (.none rfl) rfl rfl ?_
  refine WL.nil ?_
  refine WE.then_n ?_
  refine WC.cut (fun x : Int => [(5, .int .u64 x), (1, .int .i64 k)]) (fun _ => []) (fun x => x = rawF H k) ?_ ?_
  · -- cutb0
    refine WC.seq ?_
    refine WC.region ?_
    refine WL.val (v_move rfl rfl) (.none rfl) rfl rfl ?_
    refine WL.nil ?_
    refine WE.then_n ?_
    refine WC.block ?_
    refine WC.seq ?_
    refine WC.region ?_
    refine WL.test (v_eql rfl rfl rfl) (.none rfl) rfl rfl (fun h8 => ?_) (fun h8 => ?_)
    · -- 8T
      refine WL.val (v_assign rfl rfl) (.none rfl) rfl rfl ?_
      refine WL.nil ?_
      refine WE.then_n ?_
      refine WC.cond_t rfl ?_
      refine WC.region ?_
      refine WL.val (v_fieldAddr0 rfl rfl fld_31_0) (.none rfl) rfl rfl ?_
      refine WL.val (v_load1 rfl rfl one_3 (cellAt rfl)) (.none rfl) rfl rfl ?_
      refine WL.val (v_conv rfl rfl Tryd.underlying22 Tryd.underlying3 (w_u64m _)) (.none rfl) rfl rfl ?_
      refine WL.val (v_assign rfl rfl) (.none rfl) rfl rfl ?_
      refine WL.nil ?_
      refine WE.block_n ?_
      exact WE.mid _ (by obtain rfl : k = 0 := (by omega); rfl) (.cons rfl (.cons rfl .nil)) (.cons _ (.refl _))
    · -- 8F
      refine WL.val (v_assign rfl rfl) (.none rfl) rfl rfl ?_
      refine WL.nil ?_
      refine WE.then_n ?_
      refine WC.cond_f rfl ?_
      refine WC.seq ?_
      refine WC.region ?_
      refine WL.test (v_eql rfl rfl rfl) (.none rfl) rfl rfl (fun h13 => ?_) (fun h13 => ?_)
      · -- 13T
        refine WL.val (v_assign rfl rfl) (.none rfl) rfl rfl ?_
        refine WL.nil ?_
        refine WE.then_n ?_
        refine WC.cond_t rfl ?_
        refine WC.region ?_
        refine WL.val (v_fieldAddr0 rfl rfl fld_31_1) (.none rfl) rfl rfl ?_
        refine WL.val (v_loadN rfl rfl many_27 rfl (segAt (m := 6) rfl)) (.none rfl) rfl rfl ?_
        refine WL.call rfl rfl ck_52 (.none rfl) rfl rfl ?_
        intro w hS
        refine Calls.then (Num_c w H.src hH.src) hS ?_
        refine WL.val (v_assign rfl rfl) (.none rfl) rfl rfl ?_
        refine WL.nil ?_
        refine WE.block_n ?_
        exact WE.mid _ (by obtain rfl : k = 1 := (by omega); rfl) (.cons rfl (.cons rfl .nil)) (.cons _ (.refl _))
      · -- 13F
        refine WL.val (v_assign rfl rfl) (.none rfl) rfl rfl ?_
        refine WL.nil ?_
        refine WE.then_n ?_
        refine WC.cond_f rfl ?_
        refine WC.seq ?_
        refine WC.region ?_
        refine WL.test (v_eql rfl rfl rfl) (.none rfl) rfl rfl (fun h18 => ?_) (fun h18 => ?_)
        · -- 18T
          refine WL.val (v_assign rfl rfl) (.none rfl) rfl rfl ?_
          refine WL.nil ?_
          refine WE.then_n ?_
          refine WC.cond_t rfl ?_
          refine WC.region ?_
          refine WL.val (v_fieldAddr0 rfl rfl fld_31_2) (.none rfl) rfl rfl ?_
          refine WL.val (v_loadN rfl rfl many_27 rfl (segAt (m := 6) rfl)) (.none rfl) rfl rfl ?_
          refine WL.call rfl rfl ck_52 (.none rfl) rfl rfl ?_
          intro w hS
          refine Calls.then (Num_c w H.dst hH.dst) hS ?_
          refine WL.val (v_assign rfl rfl) (.none rfl) rfl rfl ?_
          refine WL.nil ?_
          refine WE.block_n ?_
          exact WE.mid _ (by obtain rfl : k = 2 := (by omega); rfl) (.cons rfl (.cons rfl .nil)) (.cons _ (.refl _))
        · -- 18F
          refine WL.val (v_assign rfl rfl) (.none rfl) rfl rfl ?_
          refine WL.nil ?_
          refine WE.then_n ?_
          refine WC.cond_f rfl ?_
          refine WC.seq ?_
          refine WC.region ?_
          refine WL.test (v_eql rfl rfl rfl) (.none rfl) rfl rfl (fun h23 => ?_) (fun h23 => ?_)
          · -- 23T
            refine WL.val (v_assign rfl rfl) (.none rfl) rfl rfl ?_
            refine WL.nil ?_
            refine WE.then_n ?_
            refine WC.cond_t rfl ?_
            refine WC.region ?_
            refine WL.val (v_fieldAddr0 rfl rfl fld_31_3) (.none rfl) rfl rfl ?_
            refine WL.val (v_load1 rfl rfl one_3 (cellAt rfl)) (.none rfl) rfl rfl ?_
            refine WL.val (v_conv rfl rfl Tryd.underlying22 Tryd.underlying3 (w_u64m _)) (.none rfl) rfl rfl ?_
            refine WL.val (v_assign rfl rfl) (.none rfl) rfl rfl ?_
            refine WL.nil ?_
            refine WE.block_n ?_
            exact WE.mid _ (by obtain rfl : k = 3 := (by omega); rfl) (.cons rfl (.cons rfl .nil)) (.cons _ (.refl _))
          · -- 23F
            refine WL.val (v_assign rfl rfl) (.none rfl) rfl rfl ?_
            refine WL.nil ?_
            refine WE.then_n ?_
            refine WC.cond_f rfl ?_
            refine WC.seq ?_
            refine WC.region ?_
            refine WL.test (v_eql rfl rfl rfl) (.none rfl) rfl rfl (fun h28 => ?_) (fun h28 => ?_)
            · -- 28T
              refine WL.val (v_assign rfl rfl) (.none rfl) rfl rfl ?_
              refine WL.nil ?_
              refine WE.then_n ?_
              refine WC.cond_t rfl ?_
              refine WC.region ?_
              refine WL.val (v_fieldAddr0 rfl rfl fld_31_4) (.none rfl) rfl rfl ?_
              refine WL.val (v_load1 rfl rfl one_29 (cellAt rfl)) (.none rfl) rfl rfl ?_
              refine WL.val (v_conv rfl rfl Tryd.underlying22 Tryd.underlying29 (by first | exact w_u64 (by omega) (by omega) | exact w_u64m _)) (.none rfl) rfl rfl ?_
              refine WL.val (v_assign rfl rfl) (.none rfl) rfl rfl ?_
              refine WL.nil ?_
              refine WE.block_n ?_
              exact WE.mid _ (by obtain rfl : k = 4 := (by omega); rfl) (.cons rfl (.cons rfl .nil)) (.cons _ (.refl _))
            · -- 28F
              refine WL.val (v_assign rfl rfl) (.none rfl) rfl rfl ?_
              refine WL.nil ?_
              refine WE.then_n ?_
              refine WC.cond_f rfl ?_
              refine WC.seq ?_
              refine WC.region ?_
              refine WL.test (v_eql rfl rfl rfl) (.none rfl) rfl rfl (fun h33 => ?_) (fun h33 => ?_)
              · -- 33T
                refine WL.val (v_assign rfl rfl) (.none rfl) rfl rfl ?_
                refine WL.nil ?_
                refine WE.then_n ?_
                refine WC.cond_t rfl ?_
                refine WC.region ?_
                refine WL.val (v_fieldAddr0 rfl rfl fld_31_5) (.none rfl) rfl rfl ?_
                refine WL.val (v_load1 rfl rfl one_29 (cellAt rfl)) (.none rfl) rfl rfl ?_
                refine WL.val (v_conv rfl rfl Tryd.underlying22 Tryd.underlying29 (by first | exact w_u64 (by omega) (by omega) | exact w_u64m _)) (.none rfl) rfl rfl ?_
                refine WL.val (v_assign rfl rfl) (.none rfl) rfl rfl ?_
                refine WL.nil ?_
                refine WE.block_n ?_
                exact WE.mid _ (by obtain rfl : k = 5 := (by omega); rfl) (.cons rfl (.cons rfl .nil)) (.cons _ (.refl _))
              · -- 33F
                refine WL.val (v_assign rfl rfl) (.none rfl) rfl rfl ?_
                refine WL.nil ?_
                refine WE.then_n ?_
                refine WC.cond_f rfl ?_
                refine WC.seq ?_
                refine WC.region ?_
                refine WL.test (v_eql rfl rfl rfl) (.none rfl) rfl rfl (fun h38 => ?_) (fun h38 => ?_)
                · -- 38T
                  refine WL.val (v_assign rfl rfl) (.none rfl) rfl rfl ?_
                  refine WL.nil ?_
                  refine WE.then_n ?_
                  refine WC.cond_t rfl ?_
                  refine WC.region ?_
                  refine WL.val (v_fieldAddr0 rfl rfl fld_31_6) (.none rfl) rfl rfl ?_
                  refine WL.val (v_load1 rfl rfl one_3 (cellAt rfl)) (.none rfl) rfl rfl ?_
                  refine WL.val (v_conv rfl rfl Tryd.underlying22 Tryd.underlying3 (w_u64m _)) (.none rfl) rfl rfl ?_
                  refine WL.val (v_assign rfl rfl) (.none rfl) rfl rfl ?_
                  refine WL.nil ?_
                  refine WE.block_n ?_
                  exact WE.mid _ (by obtain rfl : k = 6 := (by omega); rfl) (.cons rfl (.cons rfl .nil)) (.cons _ (.refl _))
                · -- 38F
                  refine WL.val (v_assign rfl rfl) (.none rfl) rfl rfl ?_
                  refine WL.nil ?_
                  refine WE.then_n ?_
                  refine WC.cond_f rfl ?_
                  refine WC.seq ?_
                  refine WC.region ?_
                  refine WL.test (v_eql rfl rfl rfl) (.none rfl) rfl rfl (fun h43 => ?_) (fun h43 => ?_)
                  · -- 43T
                    refine WL.val (v_assign rfl rfl) (.none rfl) rfl rfl ?_
                    refine WL.nil ?_
                    refine WE.then_n ?_
                    refine WC.cond_t rfl ?_
                    refine WC.region ?_
                    refine WL.val (v_fieldAddr0 rfl rfl fld_31_7) (.none rfl) rfl rfl ?_
                    refine WL.val (v_load1 rfl rfl one_3 (cellAt rfl)) (.none rfl) rfl rfl ?_
                    refine WL.val (v_conv rfl rfl Tryd.underlying22 Tryd.underlying3 (w_u64m _)) (.none rfl) rfl rfl ?_
                    refine WL.val (v_assign rfl rfl) (.none rfl) rfl rfl ?_
                    refine WL.nil ?_
                    refine WE.block_n ?_
                    exact WE.mid _ (by obtain rfl : k = 7 := (by omega); rfl) (.cons rfl (.cons rfl .nil)) (.cons _ (.refl _))
                  · -- 43F
                    refine WL.val (v_assign rfl rfl) (.none rfl) rfl rfl ?_
                    refine WL.nil ?_
                    refine WE.then_n ?_
                    refine WC.cond_f rfl ?_
                    refine WC.seq ?_
                    refine WC.region ?_
                    refine WL.val ((v_eql rfl rfl rfl).t (by omega)) (.none rfl) rfl rfl ?_
                    refine WL.val (v_assign rfl rfl) (.none rfl) rfl rfl ?_
                    refine WL.nil ?_
                    refine WE.then_n ?_
                    refine WC.cond_t rfl ?_
                    refine WC.region ?_
                    refine WL.val (v_fieldAddr0 rfl rfl fld_31_8) (.none rfl) rfl rfl ?_
                    refine WL.val (v_load1 rfl rfl one_3 (cellAt rfl)) (.none rfl) rfl rfl ?_
                    refine WL.val (v_conv rfl rfl Tryd.underlying22 Tryd.underlying3 (w_u64m _)) (.none rfl) rfl rfl ?_
                    refine WL.val (v_assign rfl rfl) (.none rfl) rfl rfl ?_
                    refine WL.nil ?_
                    refine WE.block_n ?_
                    exact WE.mid _ (by obtain rfl : k = 8 := (by omega); rfl) (.cons rfl (.cons rfl .nil)) (.cons _ (.refl _))
  · -- behind cutb0
    rintro x rfl
    refine WC.seq ?_
    refine WC.region ?_
    refine WL.val (v_move rfl rfl) (.none rfl) rfl rfl ?_
    refine WL.val (v_move rfl rfl) (.none rfl) rfl rfl ?_
    refine WL.call rfl rfl ck_30 (.none rfl) rfl rfl ?_
    intro w hS
    refine Calls.then (Full_n w k hk (hG.keep (fun h => h) hS)) hS ?_
    refine WL.val (v_and rfl rfl rfl (mask_u64 (i := wdN k) (by omega) rfl rfl hr.1 hr.2)) (.none rfl) rfl rfl ?_
    refine WL.val (v_assign rfl rfl) (.none rfl) rfl rfl ?_
    refine WL.nil ?_
    refine WE.then_n ?_
    refine WC.ret ?_
    refine WE.ret1 (P := Tryd.prog) (.inl rfl) Tryd.results16 rfl ?_
    exact fun w' h => ⟨rfl, h.frm⟩
/-- The header with a number in a field. -/
def wthF (k : Nat) (n : Int) (H : Hd) : Hd := match k with
  | 0 => { H with port := n } | 1 => { H with src := ofB n } | 2 => { H with dst := ofB n } | 3 => { H with ty := n } | 4 => { H with sip := n } | 5 => { H with dip := n }
  | 6 => { H with proto := n } | 7 => { H with sp := n } | 8 => { H with dp := n } | _ + 9 => H
set_option maxHeartbeats 1000000 in
theorem With_c (w : World) (H : Hd) (k : Nat) (hk : k < 9) (n : Int) (h0 : 0 ≤ n) (h1 : n ≤ fullI k) (hG : GW w) :
    Calls Tryd.prog 31 #[.agg (hdCells H), .int .i64 k, .int .u64 n] w fun e w' => e = .returned (.tuple #[.agg (hdCells (wthF k n H)), .int .i64 0]) ∧ Frm (fun _ => False) w w' := by
  have hp := pow_wd k
  have hw := wdN_le k
  have hfu : fullI k ≤ 281474976710655 := by unfold fullI; omega
  have hw0 : 8 ≤ wdN k := by
    match k, hk with
    | 0, _ | 1, _ | 2, _ | 3, _ | 4, _ | 5, _ | 6, _ | 7, _ | 8, _ => decide
  have e4 : fullI 4 = 4294967295 := by decide
  have e5 : fullI 5 = 4294967295 := by decide
  refine enter Tryd.func31 rfl Tryd.ntmps31 rfl (St.start (fun _ => False) w) ?_
  refine WC.seq ?_
  refine WC.region ?_
  refine WL.box rfl rfl rfl (.none rfl) rfl rfl ?_
  intro g3 hg3
  refine WL.alloc rfl zero_31 (.none rfl) rfl rfl ?_
  intro g6 hg6
  refine WL.val (v_assign rfl rfl) (.none rfl) rfl rfl ?_
  refine WL.nil ?_
  refine WE.then_n ?_
  refine WC.seq ?_
  refine WC.seq ?_
  refine WC.region ?_
  refine WL.val (v_move rfl rfl) (.none rfl) rfl rfl ?_
  refine WL.call rfl rfl ck_63 (.none rfl) rfl rfl ?_
  intro w hS
  refine Calls.then (Width_n w k hk (hG.keep (fun h => h) hS)) hS ?_
  refine WL.val ((v_eql rfl rfl rfl).f (by omega)) (.none rfl) rfl rfl ?_
  refine WL.val (v_move rfl rfl) (.none rfl) rfl rfl ?_
  refine WL.val (v_move rfl rfl) (.some rfl rfl rfl) rfl rfl ?_
  refine WL.val (v_move rfl rfl) (.some rfl rfl rfl) rfl rfl ?_
  refine WL.call rfl rfl ck_30 (.some rfl rfl rfl) rfl rfl ?_
  intro w hS
  refine Calls.then (Full_n w k hk (hG.keep (fun h => h) hS)) hS ?_
  refine WL.val ((v_gtr rfl rfl rfl).f (by omega)) (.some rfl rfl rfl) rfl rfl ?_
  refine WL.val (v_pick_f rfl rfl rfl) (.none rfl) rfl rfl ?_
  refine WL.nil ?_
  refine WE.then_n ?_
  refine WC.cond_f rfl ?_
  refine WC.skip ?_
  refine WE.then_n ?_
  refine WC.cut (fun _ : Unit => [(3, .pointer (some ⟨g3, 0, none⟩)), (6, .pointer (some ⟨g6, 0, none⟩))]) (fun _ => [.row g6 (hdL Hd.zero), .row g3 (hdL (wthF k n H))]) (fun _ => True) ?_ ?_
  · -- cutb0
    refine WC.seq ?_
    refine WC.region ?_
    refine WL.val (v_move rfl rfl) (.none rfl) rfl rfl ?_
    refine WL.nil ?_
    refine WE.then_n ?_
    refine WC.block ?_
    refine WC.seq ?_
    refine WC.region ?_
    refine WL.test (v_eql rfl rfl rfl) (.none rfl) rfl rfl (fun h20 => ?_) (fun h20 => ?_)
    · -- 20T
      refine WL.val (v_assign rfl rfl) (.none rfl) rfl rfl ?_
      refine WL.nil ?_
      refine WE.then_n ?_
      refine WC.cond_t rfl ?_
      refine WC.region ?_
      refine WL.val (v_move rfl rfl) (.none rfl) rfl rfl ?_
      refine WL.val (v_conv rfl rfl Tryd.underlying3 Tryd.underlying22 (w_i64 (by omega) (by omega))) (.none rfl) rfl rfl ?_
      refine WL.val (v_fieldAddr0 rfl rfl fld_31_0) (.none rfl) rfl rfl ?_
      refine WL.store1 rfl rfl rfl rfl one_3 (Nat.le_of_ble_eq_true rfl) (.none rfl) rfl ?_
      refine WL.nil ?_
      refine WE.block_n ?_
      obtain rfl : k = 0 := (by omega)
      exact WE.mid () trivial (.cons rfl (.cons rfl .nil)) (.refl _)
    · -- 20F
      refine WL.val (v_assign rfl rfl) (.none rfl) rfl rfl ?_
      refine WL.nil ?_
      refine WE.then_n ?_
      refine WC.cond_f rfl ?_
      refine WC.seq ?_
      refine WC.region ?_
      refine WL.test (v_eql rfl rfl rfl) (.none rfl) rfl rfl (fun h25 => ?_) (fun h25 => ?_)
      · -- 25T
        refine WL.val (v_assign rfl rfl) (.none rfl) rfl rfl ?_
        refine WL.nil ?_
        refine WE.then_n ?_
        refine WC.cond_t rfl ?_
        refine WC.region ?_
        refine WL.val (v_move rfl rfl) (.none rfl) rfl rfl ?_
        refine WL.call rfl rfl ck_64 (.none rfl) rfl rfl ?_
        intro w hS
        refine Calls.then (Of_c w n (by omega) (by omega)) hS ?_
        refine WL.val (v_fieldAddr0 rfl rfl fld_31_1) (.none rfl) rfl rfl ?_
        refine WL.storeN rfl rfl rfl rfl many_27 rfl (by first | exact Nat.le_of_ble_eq_true rfl | simp) (.none rfl) rfl ?_
        refine WL.nil ?_
        refine WE.block_n ?_
        obtain rfl : k = 1 := (by omega)
        exact WE.mid () trivial (.cons rfl (.cons rfl .nil)) (.refl _)
      · -- 25F
        refine WL.val (v_assign rfl rfl) (.none rfl) rfl rfl ?_
        refine WL.nil ?_
        refine WE.then_n ?_
        refine WC.cond_f rfl ?_
        refine WC.seq ?_
        refine WC.region ?_
        refine WL.test (v_eql rfl rfl rfl) (.none rfl) rfl rfl (fun h30 => ?_) (fun h30 => ?_)
        · -- 30T
          refine WL.val (v_assign rfl rfl) (.none rfl) rfl rfl ?_
          refine WL.nil ?_
          refine WE.then_n ?_
          refine WC.cond_t rfl ?_
          refine WC.region ?_
          refine WL.val (v_move rfl rfl) (.none rfl) rfl rfl ?_
          refine WL.call rfl rfl ck_64 (.none rfl) rfl rfl ?_
          intro w hS
          refine Calls.then (Of_c w n (by omega) (by omega)) hS ?_
          refine WL.val (v_fieldAddr0 rfl rfl fld_31_2) (.none rfl) rfl rfl ?_
          refine WL.storeN rfl rfl rfl rfl many_27 rfl (by first | exact Nat.le_of_ble_eq_true rfl | simp) (.none rfl) rfl ?_
          refine WL.nil ?_
          refine WE.block_n ?_
          obtain rfl : k = 2 := (by omega)
          exact WE.mid () trivial (.cons rfl (.cons rfl .nil)) (.refl _)
        · -- 30F
          refine WL.val (v_assign rfl rfl) (.none rfl) rfl rfl ?_
          refine WL.nil ?_
          refine WE.then_n ?_
          refine WC.cond_f rfl ?_
          refine WC.seq ?_
          refine WC.region ?_
          refine WL.test (v_eql rfl rfl rfl) (.none rfl) rfl rfl (fun h35 => ?_) (fun h35 => ?_)
          · -- 35T
            refine WL.val (v_assign rfl rfl) (.none rfl) rfl rfl ?_
            refine WL.nil ?_
            refine WE.then_n ?_
            refine WC.cond_t rfl ?_
            refine WC.region ?_
            refine WL.val (v_move rfl rfl) (.none rfl) rfl rfl ?_
            refine WL.val (v_conv rfl rfl Tryd.underlying3 Tryd.underlying22 (w_i64 (by omega) (by omega))) (.none rfl) rfl rfl ?_
            refine WL.val (v_fieldAddr0 rfl rfl fld_31_3) (.none rfl) rfl rfl ?_
            refine WL.store1 rfl rfl rfl rfl one_3 (Nat.le_of_ble_eq_true rfl) (.none rfl) rfl ?_
            refine WL.nil ?_
            refine WE.block_n ?_
            obtain rfl : k = 3 := (by omega)
            exact WE.mid () trivial (.cons rfl (.cons rfl .nil)) (.refl _)
          · -- 35F
            refine WL.val (v_assign rfl rfl) (.none rfl) rfl rfl ?_
            refine WL.nil ?_
            refine WE.then_n ?_
            refine WC.cond_f rfl ?_
            refine WC.seq ?_
            refine WC.region ?_
            refine WL.test (v_eql rfl rfl rfl) (.none rfl) rfl rfl (fun h40 => ?_) (fun h40 => ?_)
            · -- 40T
              refine WL.val (v_assign rfl rfl) (.none rfl) rfl rfl ?_
              refine WL.nil ?_
              refine WE.then_n ?_
              refine WC.cond_t rfl ?_
              refine WC.region ?_
              refine WL.val (v_move rfl rfl) (.none rfl) rfl rfl ?_
              obtain rfl : k = 4 := (by omega)
              refine WL.val (v_conv rfl rfl Tryd.underlying29 Tryd.underlying22 (by first | exact w_u32 (by omega) (by omega) | exact w_u32m _)) (.none rfl) rfl rfl ?_
              refine WL.val (v_fieldAddr0 rfl rfl fld_31_4) (.none rfl) rfl rfl ?_
              refine WL.store1 rfl rfl rfl rfl one_29 (Nat.le_of_ble_eq_true rfl) (.none rfl) rfl ?_
              refine WL.nil ?_
              refine WE.block_n ?_
              exact WE.mid () trivial (.cons rfl (.cons rfl .nil)) (.refl _)
            · -- 40F
              refine WL.val (v_assign rfl rfl) (.none rfl) rfl rfl ?_
              refine WL.nil ?_
              refine WE.then_n ?_
              refine WC.cond_f rfl ?_
              refine WC.seq ?_
              refine WC.region ?_
              refine WL.test (v_eql rfl rfl rfl) (.none rfl) rfl rfl (fun h45 => ?_) (fun h45 => ?_)
              · -- 45T
                refine WL.val (v_assign rfl rfl) (.none rfl) rfl rfl ?_
                refine WL.nil ?_
                refine WE.then_n ?_
                refine WC.cond_t rfl ?_
                refine WC.region ?_
                refine WL.val (v_move rfl rfl) (.none rfl) rfl rfl ?_
                obtain rfl : k = 5 := (by omega)
                refine WL.val (v_conv rfl rfl Tryd.underlying29 Tryd.underlying22 (by first | exact w_u32 (by omega) (by omega) | exact w_u32m _)) (.none rfl) rfl rfl ?_
                refine WL.val (v_fieldAddr0 rfl rfl fld_31_5) (.none rfl) rfl rfl ?_
                refine WL.store1 rfl rfl rfl rfl one_29 (Nat.le_of_ble_eq_true rfl) (.none rfl) rfl ?_
                refine WL.nil ?_
                refine WE.block_n ?_
                exact WE.mid () trivial (.cons rfl (.cons rfl .nil)) (.refl _)
              · -- 45F
                refine WL.val (v_assign rfl rfl) (.none rfl) rfl rfl ?_
                refine WL.nil ?_
                refine WE.then_n ?_
                refine WC.cond_f rfl ?_
                refine WC.seq ?_
                refine WC.region ?_
                refine WL.test (v_eql rfl rfl rfl) (.none rfl) rfl rfl (fun h50 => ?_) (fun h50 => ?_)
                · -- 50T
                  refine WL.val (v_assign rfl rfl) (.none rfl) rfl rfl ?_
                  refine WL.nil ?_
                  refine WE.then_n ?_
                  refine WC.cond_t rfl ?_
                  refine WC.region ?_
                  refine WL.val (v_move rfl rfl) (.none rfl) rfl rfl ?_
                  refine WL.val (v_conv rfl rfl Tryd.underlying3 Tryd.underlying22 (w_i64 (by omega) (by omega))) (.none rfl) rfl rfl ?_
                  refine WL.val (v_fieldAddr0 rfl rfl fld_31_6) (.none rfl) rfl rfl ?_
                  refine WL.store1 rfl rfl rfl rfl one_3 (Nat.le_of_ble_eq_true rfl) (.none rfl) rfl ?_
                  refine WL.nil ?_
                  refine WE.block_n ?_
                  obtain rfl : k = 6 := (by omega)
                  exact WE.mid () trivial (.cons rfl (.cons rfl .nil)) (.refl _)
                · -- 50F
                  refine WL.val (v_assign rfl rfl) (.none rfl) rfl rfl ?_
                  refine WL.nil ?_
                  refine WE.then_n ?_
                  refine WC.cond_f rfl ?_
                  refine WC.seq ?_
                  refine WC.region ?_
                  refine WL.test (v_eql rfl rfl rfl) (.none rfl) rfl rfl (fun h55 => ?_) (fun h55 => ?_)
                  · -- 55T
                    refine WL.val (v_assign rfl rfl) (.none rfl) rfl rfl ?_
                    refine WL.nil ?_
                    refine WE.then_n ?_
                    refine WC.cond_t rfl ?_
                    refine WC.region ?_
                    refine WL.val (v_move rfl rfl) (.none rfl) rfl rfl ?_
                    refine WL.val (v_conv rfl rfl Tryd.underlying3 Tryd.underlying22 (w_i64 (by omega) (by omega))) (.none rfl) rfl rfl ?_
                    refine WL.val (v_fieldAddr0 rfl rfl fld_31_7) (.none rfl) rfl rfl ?_
                    refine WL.store1 rfl rfl rfl rfl one_3 (Nat.le_of_ble_eq_true rfl) (.none rfl) rfl ?_
                    refine WL.nil ?_
                    refine WE.block_n ?_
                    obtain rfl : k = 7 := (by omega)
                    exact WE.mid () trivial (.cons rfl (.cons rfl .nil)) (.refl _)
                  · -- 55F
                    refine WL.val (v_assign rfl rfl) (.none rfl) rfl rfl ?_
                    refine WL.nil ?_
                    refine WE.then_n ?_
                    refine WC.cond_f rfl ?_
                    refine WC.seq ?_
                    refine WC.region ?_
                    refine WL.val ((v_eql rfl rfl rfl).t (by omega)) (.none rfl) rfl rfl ?_
                    refine WL.val (v_assign rfl rfl) (.none rfl) rfl rfl ?_
                    refine WL.nil ?_
                    refine WE.then_n ?_
                    refine WC.cond_t rfl ?_
                    refine WC.region ?_
                    refine WL.val (v_move rfl rfl) (.none rfl) rfl rfl ?_
                    refine WL.val (v_conv rfl rfl Tryd.underlying3 Tryd.underlying22 (w_i64 (by omega) (by omega))) (.none rfl) rfl rfl ?_
                    refine WL.val (v_fieldAddr0 rfl rfl fld_31_8) (.none rfl) rfl rfl ?_
                    refine WL.store1 rfl rfl rfl rfl one_3 (Nat.le_of_ble_eq_true rfl) (.none rfl) rfl ?_
                    refine WL.nil ?_
                    refine WE.block_n ?_
                    obtain rfl : k = 8 := (by omega)
                    exact WE.mid () trivial (.cons rfl (.cons rfl .nil)) (.refl _)
  · -- behind cutb0
    intro _ _
    refine WC.seq ?_
    refine WC.region ?_
    refine WL.val (v_loadN rfl rfl many_31 rfl allAt) (.none rfl) rfl rfl ?_
    refine WL.storeW rfl rfl rfl rfl many_31 rfl rfl (.none rfl) rfl ?_
    refine WL.val (v_assign rfl rfl) (.none rfl) rfl rfl ?_
    refine WL.nil ?_
    refine WE.then_n ?_
    refine WC.ret ?_
    refine WE.ret2 (P := Tryd.prog) (.inl rfl) Tryd.results31 (resRow rfl many_31 rfl) rfl ?_
    exact fun w' h => ⟨rfl, h.frm⟩
/-- How two numbers compare. -/
def cmpI (x y : Int) : Int := if x < y then -1 else if y < x then 1 else 0
theorem isNaNU_c (w : World) (x : Int) : Calls Tryd.prog 107 #[.int .u64 x] w fun e w' => e = .returned (.bool false) ∧ Frm (fun _ => False) w w' := by
  refine enter Tryd.func107 rfl Tryd.ntmps107 rfl (St.start (fun _ => False) w) ?_
  refine WC.seq ?_
  refine WC.region ?_
  refine WL.val (v_assign rfl rfl) (.none rfl) rfl rfl ?_
  refine WL.nil ?_
  refine WE.then_n ?_
  refine WC.seq ?_
  refine WC.region ?_
  refine WL.val (v_move rfl rfl) (.none rfl) rfl rfl ?_
  refine WL.val (v_move rfl rfl) (.none rfl) rfl rfl ?_
  refine WL.val ((v_neq rfl rfl rfl).f (fun h => h rfl)) (.none rfl) rfl rfl ?_
  refine WL.val (v_assign rfl rfl) (.none rfl) rfl rfl ?_
  refine WL.nil ?_
  refine WE.then_n ?_
  refine WC.ret ?_
  refine WE.ret1 (P := Tryd.prog) (.inl rfl) Tryd.results107 rfl ?_
  exact fun w' h => ⟨rfl, h.frm⟩
theorem CmpU_c (w : World) (x y : Int) : Calls Tryd.prog 79 #[.int .u64 x, .int .u64 y] w fun e w' => e = .returned (.int .i64 (cmpI x y)) ∧ Frm (fun _ => False) w w' := by
  refine enter Tryd.func79 rfl Tryd.ntmps79 rfl (St.start (fun _ => False) w) ?_
  refine WC.seq ?_
  refine WC.region ?_
  refine WL.val (v_assign rfl rfl) (.none rfl) rfl rfl ?_
  refine WL.nil ?_
  refine WE.then_n ?_
  refine WC.seq ?_
  refine WC.region ?_
  refine WL.val (v_move rfl rfl) (.none rfl) rfl rfl ?_
  refine WL.call rfl rfl ck_107 (.none rfl) rfl rfl ?_
  intro w hS
  refine Calls.then (isNaNU_c w x) hS ?_
  refine WL.val (v_assign rfl rfl) (.none rfl) rfl rfl ?_
  refine WL.nil ?_
  refine WE.then_n ?_
  refine WC.seq ?_
  refine WC.region ?_
  refine WL.val (v_move rfl rfl) (.none rfl) rfl rfl ?_
  refine WL.call rfl rfl ck_107 (.none rfl) rfl rfl ?_
  intro w hS
  refine Calls.then (isNaNU_c w y) hS ?_
  refine WL.val (v_assign rfl rfl) (.none rfl) rfl rfl ?_
  refine WL.nil ?_
  refine WE.then_n ?_
  refine WC.seq ?_
  refine WC.seq ?_
  refine WC.region ?_
  refine WL.val (v_move rfl rfl) (.none rfl) rfl rfl ?_
  refine WL.nil ?_
  refine WE.then_n ?_
  refine WC.cond_f rfl ?_
  refine WC.skip ?_
  refine WE.then_n ?_
  refine WC.seq ?_
  refine WC.seq ?_
  refine WC.region ?_
  refine WL.val (v_move rfl rfl) (.none rfl) rfl rfl ?_
  refine WL.nil ?_
  refine WE.then_n ?_
  refine WC.cond_f rfl ?_
  refine WC.skip ?_
  refine WE.then_n ?_
  refine WC.seq ?_
  refine WC.seq ?_
  refine WC.region ?_
  refine WL.val (v_move rfl rfl) (.none rfl) rfl rfl ?_
  refine WL.val (v_move rfl rfl) (.none rfl) rfl rfl ?_
  refine WL.test (v_lss rfl rfl rfl) (.none rfl) rfl rfl (fun h16 => ?_) (fun h16 => ?_)
  · -- 16T
    refine WL.nil ?_
    refine WE.then_n ?_
    refine WC.cond_t rfl ?_
    refine WC.seq ?_
    refine WC.region ?_
    refine WL.val (v_assign rfl rfl) (.none rfl) rfl rfl ?_
    refine WL.nil ?_
    refine WE.then_n ?_
    refine WC.ret ?_
    refine WE.then_ret ?_
    refine WE.ret1 (P := Tryd.prog) (.inl rfl) Tryd.results79 rfl ?_
    exact fun w' h => ⟨by unfold cmpI; rw [if_pos h16], h.frm⟩
  · -- 16F
    refine WL.nil ?_
    refine WE.then_n ?_
    refine WC.cond_f rfl ?_
    refine WC.skip ?_
    refine WE.then_n ?_
    refine WC.seq ?_
    refine WC.seq ?_
    refine WC.region ?_
    refine WL.val (v_move rfl rfl) (.none rfl) rfl rfl ?_
    refine WL.val (v_move rfl rfl) (.none rfl) rfl rfl ?_
    refine WL.test (v_gtr rfl rfl rfl) (.none rfl) rfl rfl (fun h19 => ?_) (fun h19 => ?_)
    · -- 19T
      refine WL.nil ?_
      refine WE.then_n ?_
      refine WC.cond_t rfl ?_
      refine WC.seq ?_
      refine WC.region ?_
      refine WL.val (v_assign rfl rfl) (.none rfl) rfl rfl ?_
      refine WL.nil ?_
      refine WE.then_n ?_
      refine WC.ret ?_
      refine WE.then_ret ?_
      refine WE.ret1 (P := Tryd.prog) (.inl rfl) Tryd.results79 rfl ?_
      exact fun w' h => ⟨by unfold cmpI; rw [if_neg h16, if_pos h19], h.frm⟩
    · -- 19F
      refine WL.nil ?_
      refine WE.then_n ?_
      refine WC.cond_f rfl ?_
      refine WC.skip ?_
      refine WE.then_n ?_
      refine WC.seq ?_
      refine WC.region ?_
      refine WL.val (v_assign rfl rfl) (.none rfl) rfl rfl ?_
      refine WL.nil ?_
      refine WE.then_n ?_
      refine WC.ret ?_
      refine WE.ret1 (P := Tryd.prog) (.inl rfl) Tryd.results79 rfl ?_
      exact fun w' h => ⟨by unfold cmpI; rw [if_neg h16, if_neg h19], h.frm⟩
/-- How two headers compare, by so many fields. -/
def hcmpK (A B : Hd) : Nat → Int | 0 => 0 | k + 1 => if hcmpK A B k ≠ 0 then hcmpK A B k else cmpI (getF A k) (getF B k)
theorem hcmpK_stays {A B : Hd} {k : Nat} (h : hcmpK A B k ≠ 0) : ∀ j, hcmpK A B (k + j) = hcmpK A B k
  | 0 => rfl
  | j + 1 => by
    have := hcmpK_stays h j
    show (if hcmpK A B (k + j) ≠ 0 then hcmpK A B (k + j) else _) = _
    rw [this, if_pos h]
theorem HCmp_c (w : World) (A B : Hd) (hA : A.In) (hB : B.In) (hG : GW w) :
    Calls Tryd.prog 58 #[.agg (hdCells A), .agg (hdCells B)] w fun e w' => e = .returned (.int .i64 (hcmpK A B 9)) ∧ Frm (fun _ => False) w w' := by
  refine enter Tryd.func58 rfl Tryd.ntmps58 rfl (St.start (fun _ => False) w) ?_
  refine WC.seq ?_
  refine WC.region ?_
  refine WL.box rfl rfl rfl (.none rfl) rfl rfl ?_
  intro g2 hg2
  refine WL.box rfl rfl rfl (.none rfl) rfl rfl ?_
  intro g3 hg3
  refine WL.val (v_assign rfl rfl) (.none rfl) rfl rfl ?_
  refine WL.nil ?_
  refine WE.then_n ?_
  refine WC.seq ?_
  refine WC.seq ?_
  refine WC.region ?_
  refine WL.val (v_move rfl rfl) (.none rfl) rfl rfl ?_
  refine WL.nil ?_
  refine WE.then_n ?_
  refine WC.block ?_
  refine WC.loop (fun k : Nat => [(7, .int .i64 k), (3, .pointer (some ⟨g3, 0, none⟩)), (2, .pointer (some ⟨g2, 0, none⟩))]) (fun _ => [.row g3 (hdL B), .row g2 (hdL A)]) (fun k => k ≤ 9 ∧ hcmpK A B k = 0) (fun k => 9 - k) 0 ⟨Nat.zero_le _, rfl⟩ (.cons rfl (.cons rfl (.cons rfl .nil))) (.refl _) ?_
  rintro k ⟨hk, h0⟩
  refine WC.seq ?_
  refine WC.region ?_
  refine WL.test (v_lss rfl rfl rfl) (.none rfl) rfl rfl (fun h8 => ?_) (fun h8 => ?_)
  · -- 8T
    refine WL.nil ?_
    refine WE.then_n ?_
    refine WC.seq ?_
    refine WC.cond_t rfl ?_
    refine WC.skip ?_
    refine WE.then_n ?_
    refine WC.seq ?_
    refine WC.block ?_
    refine WC.seq ?_
    refine WC.region ?_
    refine WL.val (v_move rfl rfl) (.none rfl) rfl rfl ?_
    refine WL.val (v_assign rfl rfl) (.none rfl) rfl rfl ?_
    refine WL.nil ?_
    refine WE.then_n ?_
    refine WC.seq ?_
    refine WC.quiet mixed (by kernel_rfl) ?_
    refine WQ.val (v_loadN rfl rfl many_31 rfl allAt) (.none rfl) rfl rfl ?_
    refine WQ.val (v_move rfl rfl) (.none rfl) rfl rfl ?_
    refine WQ.call _ rfl rfl ck_16 (.none rfl) rfl rfl (fun w hS => Calls.still (Get_c w A k (by omega) hA (hG.keep (fun h => h) hS)) hS) ?_
    refine WQ.val (v_loadN rfl rfl many_31 rfl allAt) (.none rfl) rfl rfl ?_
    refine WQ.val (v_move rfl rfl) (.none rfl) rfl rfl ?_
    refine WQ.call _ rfl rfl ck_16 (.none rfl) rfl rfl (fun w hS => Calls.still (Get_c w B k (by omega) hB (hG.keep (fun h => h) hS)) hS) ?_
    refine WQ.call _ rfl rfl ck_79 (.none rfl) rfl rfl (fun w hS => Calls.still (CmpU_c w (getF A k) (getF B k)) hS) ?_
    refine WQ.val (v_assign rfl rfl) (.none rfl) rfl rfl ?_
    refine WQ.nil ?_
    refine WE.then_n ?_
    refine WC.seq ?_
    refine WC.region ?_
    refine WL.val (v_move rfl rfl) (.none rfl) rfl rfl ?_
    refine WL.test (v_neq rfl rfl rfl) (.none rfl) rfl rfl (fun h18 => ?_) (fun h18 => ?_)
    · -- 18T
      refine WL.nil ?_
      refine WE.then_n ?_
      refine WC.cond_t rfl ?_
      refine WC.seq ?_
      refine WC.region ?_
      refine WL.val (v_move rfl rfl) (.none rfl) rfl rfl ?_
      refine WL.val (v_assign rfl rfl) (.none rfl) rfl rfl ?_
      refine WL.nil ?_
      refine WE.then_n ?_
      refine WC.ret ?_
      refine WE.block_ret ?_
      refine WE.then_ret ?_
      refine WE.then_ret ?_
      refine WE.block_ret ?_
      refine WE.then_ret ?_
      refine WE.ret1 (P := Tryd.prog) (.inl rfl) Tryd.results58 rfl ?_
      have e1 : hcmpK A B (k + 1) = cmpI (getF A k) (getF B k) := (by show (if _ then _ else _) = _; rw [if_neg (by omega)])
      have e2 := hcmpK_stays (A := A) (B := B) (k := k + 1) (by rw [e1]; exact h18) (8 - k)
      rw [show k + 1 + (8 - k) = 9 by omega] at e2
      exact fun w' h => ⟨by rw [e2, e1], h.frm⟩
    · -- 18F
      refine WL.nil ?_
      refine WE.then_n ?_
      refine WC.cond_f rfl ?_
      refine WC.skip ?_
      refine WE.block_n ?_
      refine WE.then_n ?_
      refine WC.region ?_
      refine WL.val (v_add rfl rfl rfl (w_i64 (by omega) (by omega))) (.none rfl) rfl rfl ?_
      refine WL.val (v_move rfl rfl) (.none rfl) rfl rfl ?_
      refine WL.nil ?_
      exact WE.next (k + 1) (by omega) ⟨by omega, by show (if _ then _ else _) = _; rw [if_neg (by omega)]; exact Classical.not_not.1 h18⟩ (.int rfl (by omega) (.cons rfl (.cons rfl .nil))) (.refl _)
  · -- 8F
    refine WL.nil ?_
    refine WE.then_n ?_
    refine WC.seq ?_
    refine WC.cond_f rfl ?_
    refine WC.exit ?_
    refine WE.then_exit ?_
    refine WE.then_exit ?_
    refine WE.block_hit ?_
    refine WE.then_n ?_
    refine WC.seq ?_
    refine WC.region ?_
    refine WL.val (v_assign rfl rfl) (.none rfl) rfl rfl ?_
    refine WL.nil ?_
    refine WE.then_n ?_
    refine WC.ret ?_
    refine WE.ret1 (P := Tryd.prog) (.inl rfl) Tryd.results58 rfl ?_
    obtain rfl : k = 9 := (by omega)
    exact fun w' h => ⟨by rw [h0], h.frm⟩
end Go.Proofs.YtodaanhhnjkncaaDoor
