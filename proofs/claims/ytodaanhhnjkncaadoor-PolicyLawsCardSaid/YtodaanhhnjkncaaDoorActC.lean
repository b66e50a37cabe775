/- match: a match as two lists of numbers; right, On, Exact, Hits. rules.On; carrefourlaw17.right. -/
import Derived.Test.YtodaanhhnjkncaaDoorActB
namespace Go.Proofs.YtodaanhhnjkncaaDoor
open Go.RowKit

theorem nat_u64 {a : Nat} : (a : Int) ≤ 18446744073709551615 ↔ a < 2 ^ 64 := by omega
theorem xorN_le {x y : Int} (hx' : x ≤ 18446744073709551615) (hy' : y ≤ 18446744073709551615) : 0 ≤ xorN x y ∧ xorN x y ≤ 18446744073709551615 := by
  unfold xorN
  have h := Nat.xor_lt_two_pow (x := x.toNat) (y := y.toNat) (n := 64) (by omega) (by omega)
  omega
structure Mt where
  val : Nat → Int
  mask : Nat → Int
def mtL (m : Mt) : List Value := ucs m.val 9 ++ ucs m.mask 9
def mtV (m : Mt) : Value := .agg (mtL m).toArray
structure Mt.In (m : Mt) : Prop where
  val : ∀ k, 0 ≤ m.val k ∧ m.val k ≤ 18446744073709551615
  mask : ∀ k, 0 ≤ m.mask k ∧ m.mask k ≤ 18446744073709551615
theorem mtL_val (m : Mt) {k : Nat} (h : k < 9) : (mtL m)[0 + k * 1]? = some (.int .u64 (m.val k)) := by
  unfold mtL
  rw [show 0 + k * 1 = k by omega, List.getElem?_append_left (by rw [ucs_len]; exact h), ucs_get _ h]
theorem mtL_mask (m : Mt) {k : Nat} (h : k < 9) : (mtL m)[9 + k * 1]? = some (.int .u64 (m.mask k)) := by
  unfold mtL
  rw [show 9 + k * 1 = 9 + k by omega, List.getElem?_append_right (by rw [ucs_len]; omega), ucs_len, show 9 + k - 9 = k by omega, ucs_get _ h]
theorem mtL_setVal {m : Mt} {k : Nat} {x : Int} (h : k < 9) : (mtL m).set (0 + k * 1) (.int .u64 x) = mtL ⟨fun i => if i = k then x else m.val i, m.mask⟩ := by
  unfold mtL
  rw [show 0 + k * 1 = k by omega, List.set_append_left _ _ (by rw [ucs_len]; exact h), ucs_set h]
theorem mtL_setMask {m : Mt} {k : Nat} {x : Int} (h : k < 9) : (mtL m).set (9 + k * 1) (.int .u64 x) = mtL ⟨m.val, fun i => if i = k then x else m.mask i⟩ := by
  unfold mtL
  rw [show 9 + k * 1 = 9 + k by omega, List.set_append_right _ _ (by rw [ucs_len]; omega), ucs_len, show 9 + k - 9 = k by omega, ucs_set h]
theorem mtL_len (m : Mt) : (mtL m).length = 18 := by simp [mtL, ucs_len]
def mtOk (k : Nat) (val mask : Int) : Prop := andNotN mask (fullI k) = 0 ∧ andNotN val mask = 0
instance (k : Nat) (v m : Int) : Decidable (mtOk k v m) := by unfold mtOk; infer_instance
theorem fullI_u64 (k : Nat) : 0 ≤ fullI k ∧ fullI k ≤ 18446744073709551615 := by have := pow_wd k; unfold fullI; omega
theorem MRight_c (w : World) (k : Nat) (hk : k < 9) (val mask : Int) (hv : 0 ≤ val ∧ val ≤ 18446744073709551615) (hm : 0 ≤ mask ∧ mask ≤ 18446744073709551615) (hG : GW w) :
    Calls Tryd.prog 104 #[.int .i64 k, .int .u64 val, .int .u64 mask] w fun e w' => e = .returned (.bool (decide (mtOk k val mask))) ∧ Frm (fun _ => False) w w' := by
  have hf := fullI_u64 k
  refine enter Tryd.func104 rfl Tryd.ntmps104 rfl (St.start (fun _ => False) w) ?_
  refine WC.seq ?_
  refine WC.region ?_
  refine WL.val (v_assign rfl rfl) (.none rfl) rfl rfl ?_
  refine WL.nil ?_
  refine WE.then_n ?_
  refine WC.seq ?_
  refine WC.region ?_
  refine WL.val (v_move rfl rfl) (.none rfl) rfl rfl ?_
  refine WL.val (v_move rfl rfl) (.none rfl) rfl rfl ?_
  refine WL.call rfl rfl ck_30 (.none rfl) rfl rfl ?_
  intro w hS
  refine Calls.then (Full_n w k hk (hG.keep (fun h => h) hS)) hS ?_
  refine WL.val (v_andNot rfl rfl rfl (bits_andNot_u64 hm.1 hm.2 hf.1 hf.2)) (.none rfl) rfl rfl ?_
  refine WL.test (v_eql rfl rfl rfl) (.none rfl) rfl rfl (fun h11 => ?_) (fun h11 => ?_)
  · -- 11T
    refine WL.val (v_move rfl rfl) (.none rfl) rfl rfl ?_
    refine WL.val (v_move rfl rfl) (.some rfl rfl rfl) rfl rfl ?_
    refine WL.val (v_move rfl rfl) (.some rfl rfl rfl) rfl rfl ?_
    refine WL.val (v_andNot rfl rfl rfl (bits_andNot_u64 hv.1 hv.2 hm.1 hm.2)) (.some rfl rfl rfl) rfl rfl ?_
    refine WL.test (v_eql rfl rfl rfl) (.some rfl rfl rfl) rfl rfl (fun h16 => ?_) (fun h16 => ?_)
    · -- 16T
      refine WL.val (v_pick_t rfl rfl rfl) (.none rfl) rfl rfl ?_
      refine WL.val (v_assign rfl rfl) (.none rfl) rfl rfl ?_
      refine WL.nil ?_
      refine WE.then_n ?_
      refine WC.ret ?_
      refine WE.ret1 (P := Tryd.prog) (.inl rfl) Tryd.results104 rfl ?_
      exact fun w' h => ⟨by rw [decide_eq_true ⟨h11, h16⟩], h.frm⟩
    · -- 16F
      refine WL.val (v_pick_t rfl rfl rfl) (.none rfl) rfl rfl ?_
      refine WL.val (v_assign rfl rfl) (.none rfl) rfl rfl ?_
      refine WL.nil ?_
      refine WE.then_n ?_
      refine WC.ret ?_
      refine WE.ret1 (P := Tryd.prog) (.inl rfl) Tryd.results104 rfl ?_
      exact fun w' h => ⟨by rw [decide_eq_false (fun q => h16 q.2)], h.frm⟩
  · -- 11F
    refine WL.val (v_move rfl rfl) (.none rfl) rfl rfl ?_
    refine WL.skip rfl rfl rfl rfl rfl rfl ?_
    refine WL.skip rfl rfl rfl rfl rfl rfl ?_
    refine WL.skip rfl rfl rfl rfl rfl rfl ?_
    refine WL.skip rfl rfl rfl rfl rfl rfl ?_
    refine WL.val (v_pick_f rfl rfl rfl) (.none rfl) rfl rfl ?_
    refine WL.val (v_assign rfl rfl) (.none rfl) rfl rfl ?_
    refine WL.nil ?_
    refine WE.then_n ?_
    refine WC.ret ?_
    refine WE.ret1 (P := Tryd.prog) (.inl rfl) Tryd.results104 rfl ?_
    exact fun w' h => ⟨by rw [decide_eq_false (fun q => h11 q.1)], h.frm⟩
theorem MField_c (w : World) (k : Nat) (hk : k < 9) :
    Calls Tryd.prog 103 #[.int .i64 k] w fun e w' => e = .returned (.bool true) ∧ Frm (fun _ => False) w w' := by
  refine enter Tryd.func103 rfl Tryd.ntmps103 rfl (St.start (fun _ => False) w) ?_
  refine WC.seq ?_
  refine WC.region ?_
  refine WL.val (v_assign rfl rfl) (.none rfl) rfl rfl ?_
  refine WL.nil ?_
  refine WE.then_n ?_
  refine WC.seq ?_
  refine WC.region ?_
  refine WL.val (v_move rfl rfl) (.none rfl) rfl rfl ?_
  refine WL.val ((v_geq rfl rfl rfl).t (by omega)) (.none rfl) rfl rfl ?_
  refine WL.val (v_move rfl rfl) (.none rfl) rfl rfl ?_
  refine WL.val (v_move rfl rfl) (.some rfl rfl rfl) rfl rfl ?_
  refine WL.val ((v_lss rfl rfl rfl).t (by omega)) (.some rfl rfl rfl) rfl rfl ?_
  refine WL.val (v_pick_t rfl rfl rfl) (.none rfl) rfl rfl ?_
  refine WL.val (v_assign rfl rfl) (.none rfl) rfl rfl ?_
  refine WL.nil ?_
  refine WE.then_n ?_
  refine WC.ret ?_
  refine WE.ret1 (P := Tryd.prog) (.inl rfl) Tryd.results103 rfl ?_
  exact fun w' h => ⟨rfl, h.frm⟩
def Mt.one (k : Nat) (val mask : Int) : Mt := ⟨fun i => if i = k then val else 0, fun i => if i = k then mask else 0⟩
theorem MOn_c (w : World) (k : Nat) (hk : k < 9) (val mask : Int) (hv : 0 ≤ val ∧ val ≤ 18446744073709551615) (hm : 0 ≤ mask ∧ mask ≤ 18446744073709551615) (hok : mtOk k val mask) (hG : GW w) :
    Calls Tryd.prog 75 #[.int .i64 k, .int .u64 val, .int .u64 mask] w fun e w' => e = .returned (.tuple #[mtV (Mt.one k val mask), .int .i64 0]) ∧ Frm (fun _ => False) w w' := by
  refine enter Tryd.func75 rfl Tryd.ntmps75 rfl (St.start (fun _ => False) w) ?_
  refine WC.seq ?_
  refine WC.region ?_
  refine WL.alloc rfl zero_86 (.none rfl) rfl rfl ?_
  intro g6 hg6
  refine WL.val (v_assign rfl rfl) (.none rfl) rfl rfl ?_
  refine WL.nil ?_
  refine WE.then_n ?_
  refine WC.seq ?_
  refine WC.seq ?_
  refine WC.region ?_
  refine WL.val (v_move rfl rfl) (.none rfl) rfl rfl ?_
  refine WL.call rfl rfl ck_103 (.none rfl) rfl rfl ?_
  intro w hS
  refine Calls.then (MField_c w k hk) hS ?_
  refine WL.val (v_not rfl rfl rfl) (.none rfl) rfl rfl ?_
  refine WL.val (v_move rfl rfl) (.none rfl) rfl rfl ?_
  refine WL.val (v_move rfl rfl) (.some rfl rfl rfl) rfl rfl ?_
  refine WL.val (v_move rfl rfl) (.some rfl rfl rfl) rfl rfl ?_
  refine WL.val (v_move rfl rfl) (.some rfl rfl rfl) rfl rfl ?_
  refine WL.call rfl rfl ck_104 (.some rfl rfl rfl) rfl rfl ?_
  intro w hS
  refine Calls.then ((MRight_c w k hk val mask hv hm (hG.keep (fun h => h) hS)).mono fun _ _ h => ⟨by rw [h.1, decide_eq_true hok], h.2⟩) hS ?_
  refine WL.val (v_not rfl rfl rfl) (.some rfl rfl rfl) rfl rfl ?_
  refine WL.val (v_pick_f rfl rfl rfl) (.none rfl) rfl rfl ?_
  refine WL.nil ?_
  refine WE.then_n ?_
  refine WC.cond_f rfl ?_
  refine WC.skip ?_
  refine WE.then_n ?_
  refine WC.seq ?_
  refine WC.region ?_
  refine WL.alloc rfl zero_86 (.none rfl) rfl rfl ?_
  intro g8 hg8
  refine WL.nil ?_
  refine WE.then_n ?_
  refine WC.seq ?_
  refine WC.region ?_
  refine WL.val (v_move rfl rfl) (.none rfl) rfl rfl ?_
  refine WL.val (v_move rfl rfl) (.none rfl) rfl rfl ?_
  refine WL.val (v_fieldAddr0 rfl rfl fld_86_0) (.none rfl) rfl rfl ?_
  refine WL.val (v_indexAddrA (lo := k) rfl rfl rfl Tryd.underlying23 sz_22 (by omega) (by omega)) (.none rfl) rfl rfl ?_
  refine WL.store1 rfl rfl rfl rfl one_22 (by show 0 + k * 1 < 18; omega) (.none rfl) rfl ?_
  refine WL.as (L' := [.row g8 (mtL ⟨fun i => if i = k then val else 0, fun _ => 0⟩), .row g6 (mtL ⟨fun _ => 0, fun _ => 0⟩)]) (by
  have e := mtL_setVal (m := ⟨fun _ => 0, fun _ => 0⟩) (x := val) hk
  exact congrArg (fun z => [Ent.row g8 z, Ent.row g6 (mtL ⟨fun _ => 0, fun _ => 0⟩)]) e) ?_
  refine WL.nil ?_
  refine WE.then_n ?_
  refine WC.seq ?_
  refine WC.region ?_
  refine WL.val (v_move rfl rfl) (.none rfl) rfl rfl ?_
  refine WL.val (v_move rfl rfl) (.none rfl) rfl rfl ?_
  refine WL.val (v_fieldAddr0 rfl rfl fld_86_1) (.none rfl) rfl rfl ?_
  refine WL.val (v_indexAddrA (lo := k) rfl rfl rfl Tryd.underlying23 sz_22 (by omega) (by omega)) (.none rfl) rfl rfl ?_
  refine WL.store1 rfl rfl rfl rfl one_22 (by rw [mtL_len]; omega) (.none rfl) rfl ?_
  refine WL.as (L' := [.row g8 (mtL (Mt.one k val mask)), .row g6 (mtL ⟨fun _ => 0, fun _ => 0⟩)]) (by rw [mtL_setMask hk]; rfl) ?_
  refine WL.nil ?_
  refine WE.then_n ?_
  refine WC.seq ?_
  refine WC.region ?_
  refine WL.val (v_loadN rfl rfl many_86 rfl allAt) (.none rfl) rfl rfl ?_
  refine WL.storeW rfl rfl rfl rfl many_86 rfl rfl (.none rfl) rfl ?_
  refine WL.val (v_assign rfl rfl) (.none rfl) rfl rfl ?_
  refine WL.nil ?_
  refine WE.then_n ?_
  refine WC.ret ?_
  refine WE.ret2 (P := Tryd.prog) (.inl rfl) Tryd.results75 (resRow rfl many_86 rfl) rfl ?_
  exact fun w' h => ⟨rfl, h.frm⟩
theorem MExact_c (w : World) (k : Nat) (hk : k < 9) (val : Int) (hv : 0 ≤ val ∧ val ≤ 18446744073709551615) (hok : mtOk k val (fullI k)) (hG : GW w) :
    Calls Tryd.prog 47 #[.int .i64 k, .int .u64 val] w fun e w' => e = .returned (.tuple #[mtV (Mt.one k val (fullI k)), .int .i64 0]) ∧ Frm (fun _ => False) w w' := by
  refine enter Tryd.func47 rfl Tryd.ntmps47 rfl (St.start (fun _ => False) w) ?_
  refine WC.seq ?_
  refine WC.region ?_
  refine WL.alloc rfl zero_86 (.none rfl) rfl rfl ?_
  intro g4 hg4
  refine WL.val (v_assign rfl rfl) (.none rfl) rfl rfl ?_
  refine WL.nil ?_
  refine WE.then_n ?_
  refine WC.seq ?_
  refine WC.region ?_
  refine WL.val (v_move rfl rfl) (.none rfl) rfl rfl ?_
  refine WL.val (v_move rfl rfl) (.none rfl) rfl rfl ?_
  refine WL.val (v_move rfl rfl) (.none rfl) rfl rfl ?_
  refine WL.call rfl rfl ck_30 (.none rfl) rfl rfl ?_
  intro w hS
  refine Calls.then (Full_n w k hk (hG.keep (fun h => h) hS)) hS ?_
  refine WL.call rfl rfl ck_75 (.none rfl) rfl rfl ?_
  intro w hS
  refine Calls.then (MOn_c w k hk val (fullI k) hv (fullI_u64 k) hok (hG.keep (fun h => h) hS)) hS ?_
  refine WL.val (v_extract rfl rfl rfl) (.none rfl) rfl rfl ?_
  refine WL.val (v_extract rfl rfl rfl) (.none rfl) rfl rfl ?_
  refine WL.storeW rfl rfl rfl rfl many_86 rfl rfl (.none rfl) rfl ?_
  refine WL.val (v_assign rfl rfl) (.none rfl) rfl rfl ?_
  refine WL.nil ?_
  refine WE.then_n ?_
  refine WC.ret ?_
  refine WE.ret2 (P := Tryd.prog) (.inl rfl) Tryd.results47 (resRow rfl many_86 rfl) rfl ?_
  exact fun w' h => ⟨rfl, h.frm⟩
def Mt.hits (m : Mt) (H : Hd) : Prop := ∀ k, k < 9 → andN (xorN (getF H k) (m.val k)) (m.mask k) = 0
instance (m : Mt) (H : Hd) : Decidable (m.hits H) := by unfold Mt.hits; infer_instance
set_option maxHeartbeats 1000000 in
theorem Hits_c (w : World) (m : Mt) (H : Hd) (hm : m.In) (hH : H.In) (hG : GW w) :
    Calls Tryd.prog 101 #[mtV m, .agg (hdCells H)] w fun e w' => e = .returned (.bool (decide (m.hits H))) ∧ Frm (fun _ => False) w w' := by
  refine enter Tryd.func101 rfl Tryd.ntmps101 rfl (St.start (fun _ => False) w) ?_
  refine WC.seq ?_
  refine WC.region ?_
  refine WL.box rfl rfl rfl (.none rfl) rfl rfl ?_
  intro g2 hg2
  refine WL.box rfl rfl rfl (.none rfl) rfl rfl ?_
  intro g3 hg3
  refine WL.val (v_assign rfl rfl) (.none rfl) rfl rfl ?_
  refine WL.nil ?_
  refine WE.then_n ?_
  refine WC.seq ?_
  refine WC.seq ?_
  refine WC.region ?_
  refine WL.val (v_move rfl rfl) (.none rfl) rfl rfl ?_
  refine WL.nil ?_
  refine WE.then_n ?_
  refine WC.block ?_
  refine WC.loop (fun k : Nat => [(6, .int .i64 k), (3, .pointer (some ⟨g3, 0, none⟩)), (2, .pointer (some ⟨g2, 0, none⟩))]) (fun _ => [.row g3 (hdL H), .row g2 (mtL m)]) (fun k => k ≤ 9 ∧ ∀ j, j < k → andN (xorN (getF H j) (m.val j)) (m.mask j) = 0) (fun k => 9 - k) 0 ⟨Nat.zero_le _, fun j h => absurd h (by omega)⟩ (.cons rfl (.cons rfl (.cons rfl .nil))) (.refl _) ?_
  rintro k ⟨hk, hok⟩
  have hg := getF_le H k
  have hf := fullI_u64 k
  have hv := hm.val k
  have hmk := hm.mask k
  have hx := xorN_le (x := getF H k) (y := m.val k) (by omega) hv.2
  refine WC.seq ?_
  refine WC.region ?_
  refine WL.test (v_lss rfl rfl rfl) (.none rfl) rfl rfl (fun h7 => ?_) (fun h7 => ?_)
  · -- 7T
    refine WL.nil ?_
    refine WE.then_n ?_
    refine WC.seq ?_
    refine WC.cond_t rfl ?_
    refine WC.skip ?_
    refine WE.then_n ?_
    refine WC.seq ?_
    refine WC.block ?_
    refine WC.seq ?_
    refine WC.region ?_
    refine WL.val (v_move rfl rfl) (.none rfl) rfl rfl ?_
    refine WL.val (v_assign rfl rfl) (.none rfl) rfl rfl ?_
    refine WL.nil ?_
    refine WE.then_n ?_
    refine WC.seq ?_
    refine WC.quiet mixed (by kernel_rfl) ?_
    refine WQ.val (v_loadN rfl rfl many_31 rfl allAt) (.none rfl) rfl rfl ?_
    refine WQ.val (v_move rfl rfl) (.none rfl) rfl rfl ?_
    refine WQ.call _ rfl rfl ck_16 (.none rfl) rfl rfl (fun w hS => Calls.still (Get_c w H k (by omega) hH (hG.keep (fun h => h) hS)) hS) ?_
    refine WQ.val (v_move rfl rfl) (.none rfl) rfl rfl ?_
    refine WQ.val (v_fieldAddr0 rfl rfl fld_86_0) (.none rfl) rfl rfl ?_
    refine WQ.val (v_indexAddrA (lo := k) rfl rfl rfl Tryd.underlying23 sz_22 (by omega) (by omega)) (.none rfl) rfl rfl ?_
    refine WQ.val (v_load1 rfl rfl one_22 (cellAt (mtL_val m (by omega)))) (.none rfl) rfl rfl ?_
    refine WQ.val (v_xor rfl rfl rfl (bits_xor_u64 hg.1 (by omega) hv.1 hv.2)) (.none rfl) rfl rfl ?_
    refine WQ.val (v_move rfl rfl) (.none rfl) rfl rfl ?_
    refine WQ.val (v_fieldAddr0 rfl rfl fld_86_1) (.none rfl) rfl rfl ?_
    refine WQ.val (v_indexAddrA (lo := k) rfl rfl rfl Tryd.underlying23 sz_22 (by omega) (by omega)) (.none rfl) rfl rfl ?_
    refine WQ.val (v_load1 rfl rfl one_22 (cellAt (mtL_mask m (by omega)))) (.none rfl) rfl rfl ?_
    refine WQ.val (v_and rfl rfl rfl (bits_and_u64 hx.1 hx.2 hmk.1 hmk.2)) (.none rfl) rfl rfl ?_
    refine WQ.test (v_neq rfl rfl rfl) (.none rfl) rfl rfl (fun h22 => ?_) (fun h22 => ?_)
    · -- 22T
      refine WQ.nil ?_
      refine WE.then_n ?_
      refine WC.cond_t rfl ?_
      refine WC.seq ?_
      refine WC.region ?_
      refine WL.val (v_assign rfl rfl) (.none rfl) rfl rfl ?_
      refine WL.nil ?_
      refine WE.then_n ?_
      refine WC.ret ?_
      refine WE.block_ret ?_
      refine WE.then_ret ?_
      refine WE.then_ret ?_
      refine WE.block_ret ?_
      refine WE.then_ret ?_
      refine WE.ret1 (P := Tryd.prog) (.inl rfl) Tryd.results101 rfl ?_
      exact fun w' h => ⟨by rw [decide_eq_false (fun q => h22 (q k (by omega)))], h.frm⟩
    · -- 22F
      refine WQ.nil ?_
      refine WE.then_n ?_
      refine WC.cond_f rfl ?_
      refine WC.skip ?_
      refine WE.block_n ?_
      refine WE.then_n ?_
      refine WC.region ?_
      refine WL.val (v_add rfl rfl rfl (w_i64 (by omega) (by omega))) (.none rfl) rfl rfl ?_
      refine WL.val (v_move rfl rfl) (.none rfl) rfl rfl ?_
      refine WL.nil ?_
      exact WE.next (k + 1) (by omega) ⟨by omega, fun j hj => by
      by_cases e : j = k
      · subst e; exact Classical.not_not.1 h22
      · exact hok j (by omega)⟩ (.int rfl (by omega) (.cons rfl (.cons rfl .nil))) (.refl _)
  · -- 7F
    refine WL.nil ?_
    refine WE.then_n ?_
    refine WC.seq ?_
    refine WC.cond_f rfl ?_
    refine WC.exit ?_
    refine WE.then_exit ?_
    refine WE.then_exit ?_
    refine WE.block_hit ?_
    refine WE.then_n ?_
    refine WC.seq ?_
    refine WC.region ?_
    refine WL.val (v_assign rfl rfl) (.none rfl) rfl rfl ?_
    refine WL.nil ?_
    refine WE.then_n ?_
    refine WC.ret ?_
    refine WE.ret1 (P := Tryd.prog) (.inl rfl) Tryd.results101 rfl ?_
    obtain rfl : k = 9 := (by omega)
    exact fun w' h => ⟨by rw [decide_eq_true (p := m.hits H) hok], h.frm⟩
/-- The law's own test of an act. -/
theorem LRight_c (w : World) (a : Ac) (_hv : a.In) (hG : GW w) :
    Calls Tryd.prog 14 #[acV a] w fun e w' => e = .returned (.bool (decide a.Ok)) ∧ Frm (fun _ => False) w w' := by
  refine enter Tryd.func14 rfl Tryd.ntmps14 rfl (St.start (fun _ => False) w) ?_
  refine WC.seq ?_
  refine WC.region ?_
  refine WL.box rfl rfl rfl (.none rfl) rfl rfl ?_
  intro g1 hg1
  refine WL.val (v_assign rfl rfl) (.none rfl) rfl rfl ?_
  refine WL.nil ?_
  refine WE.then_n ?_
  refine WC.seq ?_
  refine WC.seq ?_
  refine WC.region ?_
  refine WL.val (v_fieldAddr0 rfl rfl fld_25_0) (.none rfl) rfl rfl ?_
  refine WL.val (v_load1 rfl rfl one_3 (cellAt rfl)) (.none rfl) rfl rfl ?_
  refine WL.test (v_lss rfl rfl rfl) (.none rfl) rfl rfl (fun h6 => ?_) (fun h6 => ?_)
  · -- 6T
    refine WL.val (v_move rfl rfl) (.none rfl) rfl rfl ?_
    refine WL.skip rfl rfl rfl rfl rfl rfl ?_
    refine WL.skip rfl rfl rfl rfl rfl rfl ?_
    refine WL.skip rfl rfl rfl rfl rfl rfl ?_
    refine WL.val (v_pick_t rfl rfl rfl) (.none rfl) rfl rfl ?_
    refine WL.nil ?_
    refine WE.then_n ?_
    refine WC.cond_t rfl ?_
    refine WC.seq ?_
    refine WC.region ?_
    refine WL.val (v_assign rfl rfl) (.none rfl) rfl rfl ?_
    refine WL.nil ?_
    refine WE.then_n ?_
    refine WC.ret ?_
    refine WE.then_ret ?_
    refine WE.ret1 (P := Tryd.prog) (.inl rfl) Tryd.results14 rfl ?_
    exact fun w' h => ⟨by rw [decide_eq_false (fun k => by have := k.1; omega)], h.frm⟩
  · -- 6F
    refine WL.val (v_move rfl rfl) (.none rfl) rfl rfl ?_
    refine WL.val (v_fieldAddr0 rfl rfl fld_25_0) (.some rfl rfl rfl) rfl rfl ?_
    refine WL.val (v_load1 rfl rfl one_3 (cellAt rfl)) (.some rfl rfl rfl) rfl rfl ?_
    refine WL.test (v_gtr rfl rfl rfl) (.some rfl rfl rfl) rfl rfl (fun h10 => ?_) (fun h10 => ?_)
    · -- 10T
      refine WL.val (v_pick_f rfl rfl rfl) (.none rfl) rfl rfl ?_
      refine WL.nil ?_
      refine WE.then_n ?_
      refine WC.cond_t rfl ?_
      refine WC.seq ?_
      refine WC.region ?_
      refine WL.val (v_assign rfl rfl) (.none rfl) rfl rfl ?_
      refine WL.nil ?_
      refine WE.then_n ?_
      refine WC.ret ?_
      refine WE.then_ret ?_
      refine WE.ret1 (P := Tryd.prog) (.inl rfl) Tryd.results14 rfl ?_
      exact fun w' h => ⟨by rw [decide_eq_false (fun k => by have := k.1; omega)], h.frm⟩
    · -- 10F
      refine WL.val (v_pick_f rfl rfl rfl) (.none rfl) rfl rfl ?_
      refine WL.nil ?_
      refine WE.then_n ?_
      refine WC.cond_f rfl ?_
      refine WC.skip ?_
      refine WE.then_n ?_
      refine WC.seq ?_
      refine WC.seq ?_
      refine WC.region ?_
      refine WL.val (v_assign rfl rfl) (.none rfl) rfl rfl ?_
      refine WL.nil ?_
      refine WE.then_n ?_
      refine WC.block ?_
      refine WC.loop (fun k : Nat => [(3, .int .i64 k), (1, .pointer (some ⟨g1, 0, none⟩))]) (fun _ => [.row g1 (acL a)]) (fun k => k ≤ 9 ∧ ∀ j, j < k → a.val j ≤ fullI j ∧ (a.val j ≠ 0 → a.sets j)) (fun k => 9 - k) 0 ⟨Nat.zero_le _, fun j h => absurd h (by omega)⟩ (.cons rfl (.cons rfl .nil)) (.refl _) ?_
      rintro k ⟨hk, hok⟩
      refine WC.seq ?_
      refine WC.seq ?_
      refine WC.region ?_
      refine WL.val (v_move rfl rfl) (.none rfl) rfl rfl ?_
      refine WL.test (v_lss rfl rfl rfl) (.none rfl) rfl rfl (fun h13 => ?_) (fun h13 => ?_)
      · -- 13T
        refine WL.nil ?_
        refine WE.then_n ?_
        refine WC.cond_t rfl ?_
        refine WC.skip ?_
        refine WE.then_n ?_
        refine WC.seq ?_
        refine WC.block ?_
        refine WC.seq ?_
        refine WC.quiet mixed (by kernel_rfl) ?_
        refine WQ.val (v_fieldAddr0 rfl rfl fld_25_0) (.none rfl) rfl rfl ?_
        refine WQ.val (v_load1 rfl rfl one_3 (cellAt rfl)) (.none rfl) rfl rfl ?_
        refine WQ.val (v_move rfl rfl) (.none rfl) rfl rfl ?_
        refine WQ.val (v_conv rfl rfl Tryd.underlying39 Tryd.underlying3 (by first | exact w_u64 (by omega) (by omega) | exact w_u64m _)) (.none rfl) rfl rfl ?_
        refine WQ.val (v_shr (m := k) (c := (2 : Int) ^ k) rfl rfl rfl rfl (by show k ≤ 64; omega) rfl) (.none rfl) rfl rfl ?_
        refine WQ.val (v_and rfl rfl rfl (mask_i64' (i := 1) (m := 2) (by decide) (by decide) (by decide))) (.none rfl) rfl rfl ?_
        refine WQ.test (v_eql rfl rfl rfl) (.none rfl) rfl rfl (fun h22 => ?_) (fun h22 => ?_)
        · -- 22T
          refine WQ.val (v_move rfl rfl) (.none rfl) rfl rfl ?_
          refine WQ.val (v_move rfl rfl) (.some rfl rfl rfl) rfl rfl ?_
          refine WQ.val (v_fieldAddr0 rfl rfl fld_25_1) (.some rfl rfl rfl) rfl rfl ?_
          refine WQ.val (v_indexAddrA (lo := k) rfl rfl rfl Tryd.underlying23 sz_22 (by omega) (by omega)) (.some rfl rfl rfl) rfl rfl ?_
          refine WQ.val (v_load1 rfl rfl one_22 (cellAt (acL_get a (by omega)))) (.some rfl rfl rfl) rfl rfl ?_
          refine WQ.test (v_neq rfl rfl rfl) (.some rfl rfl rfl) rfl rfl (fun h28 => ?_) (fun h28 => ?_)
          · -- 28T
            refine WQ.val (v_pick_t rfl rfl rfl) (.none rfl) rfl rfl ?_
            refine WQ.val (v_move rfl rfl) (.none rfl) rfl rfl ?_
            refine WQ.skip rfl rfl rfl rfl rfl rfl ?_
            refine WQ.skip rfl rfl rfl rfl rfl rfl ?_
            refine WQ.skip rfl rfl rfl rfl rfl rfl ?_
            refine WQ.skip rfl rfl rfl rfl rfl rfl ?_
            refine WQ.skip rfl rfl rfl rfl rfl rfl ?_
            refine WQ.skip rfl rfl rfl rfl rfl rfl ?_
            refine WQ.skip rfl rfl rfl rfl rfl rfl ?_
            refine WQ.val (v_pick_t rfl rfl rfl) (.none rfl) rfl rfl ?_
            refine WQ.nil ?_
            refine WE.then_n ?_
            refine WC.cond_t rfl ?_
            refine WC.seq ?_
            refine WC.region ?_
            refine WL.val (v_assign rfl rfl) (.none rfl) rfl rfl ?_
            refine WL.nil ?_
            refine WE.then_n ?_
            refine WC.ret ?_
            refine WE.block_ret ?_
            refine WE.then_ret ?_
            refine WE.then_ret ?_
            refine WE.block_ret ?_
            refine WE.then_ret ?_
            refine WE.ret1 (P := Tryd.prog) (.inl rfl) Tryd.results14 rfl ?_
            exact fun w' h => ⟨by rw [decide_eq_false (fun q => by have := (q.2 k (by omega)).2 h28; unfold Ac.sets at this; omega)], h.frm⟩
          · -- 28F
            refine WQ.val (v_pick_t rfl rfl rfl) (.none rfl) rfl rfl ?_
            refine WQ.val (v_move rfl rfl) (.none rfl) rfl rfl ?_
            refine WQ.val (v_move rfl rfl) (.some rfl rfl rfl) rfl rfl ?_
            refine WQ.val (v_fieldAddr0 rfl rfl fld_25_1) (.some rfl rfl rfl) rfl rfl ?_
            refine WQ.val (v_indexAddrA (lo := k) rfl rfl rfl Tryd.underlying23 sz_22 (by omega) (by omega)) (.some rfl rfl rfl) rfl rfl ?_
            refine WQ.val (v_load1 rfl rfl one_22 (cellAt (acL_get a (by omega)))) (.some rfl rfl rfl) rfl rfl ?_
            refine WQ.val (v_move rfl rfl) (.some rfl rfl rfl) rfl rfl ?_
            refine WQ.call _ rfl rfl ck_30 (.some rfl rfl rfl) rfl rfl (fun w hS => Calls.still (Full_n w k (by omega) (hG.keep (fun h => h) hS)) hS) ?_
            refine WQ.test (v_gtr rfl rfl rfl) (.some rfl rfl rfl) rfl rfl (fun h37 => ?_) (fun h37 => ?_)
            · -- 37T
              refine WQ.val (v_pick_f rfl rfl rfl) (.none rfl) rfl rfl ?_
              refine WQ.nil ?_
              refine WE.then_n ?_
              refine WC.cond_t rfl ?_
              refine WC.seq ?_
              refine WC.region ?_
              refine WL.val (v_assign rfl rfl) (.none rfl) rfl rfl ?_
              refine WL.nil ?_
              refine WE.then_n ?_
              refine WC.ret ?_
              refine WE.block_ret ?_
              refine WE.then_ret ?_
              refine WE.then_ret ?_
              refine WE.block_ret ?_
              refine WE.then_ret ?_
              refine WE.ret1 (P := Tryd.prog) (.inl rfl) Tryd.results14 rfl ?_
              exact fun w' h => ⟨by rw [decide_eq_false (fun q => by have := (q.2 k (by omega)).1; omega)], h.frm⟩
            · -- 37F
              refine WQ.val (v_pick_f rfl rfl rfl) (.none rfl) rfl rfl ?_
              refine WQ.nil ?_
              refine WE.then_n ?_
              refine WC.cond_f rfl ?_
              refine WC.skip ?_
              refine WE.block_n ?_
              refine WE.then_n ?_
              refine WC.region ?_
              refine WL.val (v_move rfl rfl) (.none rfl) rfl rfl ?_
              refine WL.val (v_add rfl rfl rfl (w_i64 (by omega) (by omega))) (.none rfl) rfl rfl ?_
              refine WL.val (v_assign rfl rfl) (.none rfl) rfl rfl ?_
              refine WL.nil ?_
              exact WE.next (k + 1) (by omega) ⟨by omega, fun j hj => by
              by_cases e : j = k
              · subst e; exact ⟨by omega, fun h => by unfold Ac.sets; omega⟩
              · exact hok j (by omega)⟩ (.int rfl (by omega) (.cons rfl .nil)) (.refl _)
        · -- 22F
          refine WQ.val (v_move rfl rfl) (.none rfl) rfl rfl ?_
          refine WQ.skip rfl rfl rfl rfl rfl rfl ?_
          refine WQ.skip rfl rfl rfl rfl rfl rfl ?_
          refine WQ.skip rfl rfl rfl rfl rfl rfl ?_
          refine WQ.skip rfl rfl rfl rfl rfl rfl ?_
          refine WQ.skip rfl rfl rfl rfl rfl rfl ?_
          refine WQ.val (v_pick_f rfl rfl rfl) (.none rfl) rfl rfl ?_
          refine WQ.val (v_move rfl rfl) (.none rfl) rfl rfl ?_
          refine WQ.val (v_move rfl rfl) (.some rfl rfl rfl) rfl rfl ?_
          refine WQ.val (v_fieldAddr0 rfl rfl fld_25_1) (.some rfl rfl rfl) rfl rfl ?_
          refine WQ.val (v_indexAddrA (lo := k) rfl rfl rfl Tryd.underlying23 sz_22 (by omega) (by omega)) (.some rfl rfl rfl) rfl rfl ?_
          refine WQ.val (v_load1 rfl rfl one_22 (cellAt (acL_get a (by omega)))) (.some rfl rfl rfl) rfl rfl ?_
          refine WQ.val (v_move rfl rfl) (.some rfl rfl rfl) rfl rfl ?_
          refine WQ.call _ rfl rfl ck_30 (.some rfl rfl rfl) rfl rfl (fun w hS => Calls.still (Full_n w k (by omega) (hG.keep (fun h => h) hS)) hS) ?_
          refine WQ.test (v_gtr rfl rfl rfl) (.some rfl rfl rfl) rfl rfl (fun h37 => ?_) (fun h37 => ?_)
          · -- 37T
            refine WQ.val (v_pick_f rfl rfl rfl) (.none rfl) rfl rfl ?_
            refine WQ.nil ?_
            refine WE.then_n ?_
            refine WC.cond_t rfl ?_
            refine WC.seq ?_
            refine WC.region ?_
            refine WL.val (v_assign rfl rfl) (.none rfl) rfl rfl ?_
            refine WL.nil ?_
            refine WE.then_n ?_
            refine WC.ret ?_
            refine WE.block_ret ?_
            refine WE.then_ret ?_
            refine WE.then_ret ?_
            refine WE.block_ret ?_
            refine WE.then_ret ?_
            refine WE.ret1 (P := Tryd.prog) (.inl rfl) Tryd.results14 rfl ?_
            exact fun w' h => ⟨by rw [decide_eq_false (fun q => by have := (q.2 k (by omega)).1; omega)], h.frm⟩
          · -- 37F
            refine WQ.val (v_pick_f rfl rfl rfl) (.none rfl) rfl rfl ?_
            refine WQ.nil ?_
            refine WE.then_n ?_
            refine WC.cond_f rfl ?_
            refine WC.skip ?_
            refine WE.block_n ?_
            refine WE.then_n ?_
            refine WC.region ?_
            refine WL.val (v_move rfl rfl) (.none rfl) rfl rfl ?_
            refine WL.val (v_add rfl rfl rfl (w_i64 (by omega) (by omega))) (.none rfl) rfl rfl ?_
            refine WL.val (v_assign rfl rfl) (.none rfl) rfl rfl ?_
            refine WL.nil ?_
            exact WE.next (k + 1) (by omega) ⟨by omega, fun j hj => by
            by_cases e : j = k
            · subst e; exact ⟨by omega, fun h => by unfold Ac.sets; omega⟩
            · exact hok j (by omega)⟩ (.int rfl (by omega) (.cons rfl .nil)) (.refl _)
      · -- 13F
        refine WL.nil ?_
        refine WE.then_n ?_
        refine WC.cond_f rfl ?_
        refine WC.exit ?_
        refine WE.then_exit ?_
        refine WE.then_exit ?_
        refine WE.block_hit ?_
        refine WE.then_n ?_
        refine WC.seq ?_
        refine WC.region ?_
        refine WL.val (v_assign rfl rfl) (.none rfl) rfl rfl ?_
        refine WL.nil ?_
        refine WE.then_n ?_
        refine WC.ret ?_
        refine WE.ret1 (P := Tryd.prog) (.inl rfl) Tryd.results14 rfl ?_
        obtain rfl : k = 9 := (by omega)
        exact fun w' h => ⟨by rw [decide_eq_true ⟨by omega, hok⟩], h.frm⟩
def Ac.one (k : Nat) (val : Int) : Ac := ⟨(2 : Int) ^ k, fun i => if i = k then val else 0⟩
theorem AOn_c (w : World) (k : Nat) (hk : k < 9) (val : Int) (_h0 : 0 ≤ val) (h1 : val ≤ fullI k) (hG : GW w) :
    Calls Tryd.prog 48 #[.int .i64 k, .int .u64 val] w fun e w' => e = .returned (.tuple #[acV (Ac.one k val), .int .i64 0]) ∧ Frm (fun _ => False) w w' := by
  have hp : (1 : Int) ≤ 2 ^ k ∧ (2 : Int) ^ k ≤ 256 := by
    match k, hk with
    | 0, _ | 1, _ | 2, _ | 3, _ | 4, _ | 5, _ | 6, _ | 7, _ | 8, _ => decide
  refine enter Tryd.func48 rfl Tryd.ntmps48 rfl (St.start (fun _ => False) w) ?_
  refine WC.seq ?_
  refine WC.region ?_
  refine WL.alloc rfl zero_25 (.none rfl) rfl rfl ?_
  intro g4 hg4
  refine WL.val (v_assign rfl rfl) (.none rfl) rfl rfl ?_
  refine WL.nil ?_
  refine WE.then_n ?_
  refine WC.seq ?_
  refine WC.seq ?_
  refine WC.region ?_
  refine WL.val (v_move rfl rfl) (.none rfl) rfl rfl ?_
  refine WL.val ((v_lss rfl rfl rfl).f (by omega)) (.none rfl) rfl rfl ?_
  refine WL.val (v_move rfl rfl) (.none rfl) rfl rfl ?_
  refine WL.val (v_move rfl rfl) (.some rfl rfl rfl) rfl rfl ?_
  refine WL.val ((v_geq rfl rfl rfl).f (by omega)) (.some rfl rfl rfl) rfl rfl ?_
  refine WL.val (v_pick_f rfl rfl rfl) (.none rfl) rfl rfl ?_
  refine WL.val (v_move rfl rfl) (.none rfl) rfl rfl ?_
  refine WL.val (v_move rfl rfl) (.some rfl rfl rfl) rfl rfl ?_
  refine WL.val (v_move rfl rfl) (.some rfl rfl rfl) rfl rfl ?_
  refine WL.call rfl rfl ck_30 (.some rfl rfl rfl) rfl rfl ?_
  intro w hS
  refine Calls.then (Full_n w k hk (hG.keep (fun h => h) hS)) hS ?_
  refine WL.val ((v_gtr rfl rfl rfl).f (by omega)) (.some rfl rfl rfl) rfl rfl ?_
  refine WL.val (v_pick_f rfl rfl rfl) (.none rfl) rfl rfl ?_
  refine WL.nil ?_
  refine WE.then_n ?_
  refine WC.cond_f rfl ?_
  refine WC.skip ?_
  refine WE.then_n ?_
  refine WC.seq ?_
  refine WC.region ?_
  refine WL.val (v_move rfl rfl) (.none rfl) rfl rfl ?_
  refine WL.val (v_shl (m := k) (c := (2 : Int) ^ k) rfl rfl rfl rfl (by show k ≤ 64; omega) rfl ((congrArg _ (Int.one_mul _)).trans (w_i64 (by omega) (by omega)))) (.none rfl) rfl rfl ?_
  refine WL.val (v_build rfl rfl zero_25 plc_25 rfl) (.none rfl) rfl rfl ?_
  refine WL.alloc rfl zero_25 (.none rfl) rfl rfl ?_
  intro g6 hg6
  refine WL.storeW rfl rfl rfl rfl many_25 rfl rfl (.none rfl) rfl ?_
  refine WL.as (L' := [.row g6 (acL ⟨(2 : Int) ^ k, fun _ => 0⟩), .row g4 (acL ⟨0, fun _ => 0⟩)]) rfl ?_
  refine WL.nil ?_
  refine WE.then_n ?_
  refine WC.seq ?_
  refine WC.region ?_
  refine WL.val (v_move rfl rfl) (.none rfl) rfl rfl ?_
  refine WL.val (v_move rfl rfl) (.none rfl) rfl rfl ?_
  refine WL.val (v_fieldAddr0 rfl rfl fld_25_1) (.none rfl) rfl rfl ?_
  refine WL.val (v_indexAddrA (lo := k) rfl rfl rfl Tryd.underlying23 sz_22 (by omega) (by omega)) (.none rfl) rfl rfl ?_
  refine WL.store1 rfl rfl rfl rfl one_22 (by show 1 + k * 1 < (acL _).length; unfold acL; rw [List.length_cons, ucs_len]; omega) (.none rfl) rfl ?_
  refine WL.as (L' := [.row g6 (acL (Ac.one k val)), .row g4 (acL ⟨0, fun _ => 0⟩)]) (by
  rw [show 1 + k * 1 = k + 1 by omega]
  unfold acL
  rw [List.set_cons_succ, ucs_set hk]
  rfl) ?_
  refine WL.nil ?_
  refine WE.then_n ?_
  refine WC.seq ?_
  refine WC.region ?_
  refine WL.val (v_loadN rfl rfl many_25 rfl allAt) (.none rfl) rfl rfl ?_
  refine WL.storeW rfl rfl rfl rfl many_25 rfl rfl (.none rfl) rfl ?_
  refine WL.val (v_assign rfl rfl) (.none rfl) rfl rfl ?_
  refine WL.nil ?_
  refine WE.then_n ?_
  refine WC.ret ?_
  refine WE.ret2 (P := Tryd.prog) (.inl rfl) Tryd.results48 (resRow rfl many_25 rfl) rfl ?_
  exact fun w' h => ⟨rfl, h.frm⟩
end Go.Proofs.YtodaanhhnjkncaaDoor
