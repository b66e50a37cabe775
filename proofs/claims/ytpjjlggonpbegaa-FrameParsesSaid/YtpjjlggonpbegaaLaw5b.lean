/- carrefourlaw05: headOk, FrameParses. -/
import Derived.Test.YtpjjlggonpbegaaLaw5
import Derived.Test.YtpjjlggonpbegaaPar
namespace Go.Proofs.Ytpjjlggonpbegaa
open Go.RowKit

theorem bcsAt {cs : List Value} {n : Nat} {f : Nat → Int} (h : cs = bcs f n) : ∀ i, i < n → cs[0 + i]? = some (.int .u8 (f i)) := fun i hi => by rw [Nat.zero_add, h, bcs_get f n i hi]
theorem rdoAt {p : Nat → Prop} {w0 w : World} {L : List Ent} {g n : Nat} {cs : List Value} {f : Nat → Int} [At L g cs] (hS : St p w0 w L) (h : cs = bcs f n) : RdO w (some ⟨g, 0, none⟩) n f := fun _ => ⟨g, 0, rfl, rdAt (bcsAt h) w hS⟩
/-- Fourteen bytes of which the last two are told. -/
def hk (x y : Int) (i : Nat) : Int := if i = 12 then x else if i = 13 then y else 0
theorem hk_byt (x y : Int) (hx : 0 ≤ x ∧ x ≤ 255) (hy : 0 ≤ y ∧ y ≤ 255) : Byt (hk x y) := fun i => by
  unfold hk
  split
  · exact hx
  · split
    · exact hy
    · omega

set_option maxHeartbeats 1000000 in
theorem headOk_c (w : World) :
    Calls Try.prog 10 #[] w fun e w' => e = .returned (.bool true) ∧ Frm (fun _ => False) w w' := by
  have e1 : prErr 3 (hk 18 52) 14 = 0 := by simp [prErr, two, hk]
  have e2 : prErr 3 (hk 8 0) 14 = 10 := by simp [prErr, two, hk, pkErr]
  have t1 : (prHd 3 (hk 18 52)).ty = 4660 := by simp [prHd, two, hk, ethHd]
  have p1 : (prHd 3 (hk 18 52)).port = 3 := by simp [prHd, two, hk, ethHd]
  refine enter (vs := []) Try.func10 rfl Try.ntmps10 rfl (St.start (fun _ => False) w) ?_
  refine WC.seq ?_
  refine WC.region ?_
  refine WL.val (v_assign rfl rfl) (.none rfl) rfl rfl ?_
  refine WL.nil ?_
  refine WE.then_n ?_
  refine WC.seq ?_
  refine WC.region ?_
  refine WL.make1 (m := 14) (c := 14) rfl rfl rfl rfl rfl (by omega) Try.underlying22 by_5 (by omega) (by omega) one_5 zero_5 (.none rfl) rfl rfl ?_
  intro g6 hg6
  refine WL.val (v_assign rfl rfl) (.none rfl) rfl rfl ?_
  refine WL.nil ?_
  refine WE.then_n ?_
  refine WC.seq ?_
  refine WC.region ?_
  refine WL.val (v_move rfl rfl) (.none rfl) rfl rfl ?_
  refine WL.val (v_indexAddr (lo := 12) rfl rfl rfl Try.underlying22 sz_5 rfl (by omega)) (.none rfl) rfl rfl ?_
  refine WL.store1 rfl rfl rfl rfl one_5 (Nat.le_of_ble_eq_true rfl) (.none rfl) rfl ?_
  refine WL.nil ?_
  refine WE.then_n ?_
  refine WC.seq ?_
  refine WC.region ?_
  refine WL.val (v_move rfl rfl) (.none rfl) rfl rfl ?_
  refine WL.val (v_indexAddr (lo := 13) rfl rfl rfl Try.underlying22 sz_5 rfl (by omega)) (.none rfl) rfl rfl ?_
  refine WL.store1 rfl rfl rfl rfl one_5 (Nat.le_of_ble_eq_true rfl) (.none rfl) rfl ?_
  refine WL.nil ?_
  refine WE.then_n ?_
  refine WC.seq ?_
  refine WC.region ?_
  refine WL.val (v_move rfl rfl) (.none rfl) rfl rfl ?_
  refine WL.call rfl rfl ck_12 (.none rfl) rfl rfl ?_
  intro w hS
  refine Calls.then (Parse_k w 3 _ 14 14 (hk 18 52) (rdoAt hS rfl) (hk_byt 18 52 (by omega) (by omega)) (by omega) e1) hS ?_
  refine WL.val (v_move rfl rfl) (.none rfl) rfl rfl ?_
  refine WL.val (v_extract rfl rfl rfl) (.none rfl) rfl rfl ?_
  refine WL.val (v_extract rfl rfl rfl) (.none rfl) rfl rfl ?_
  refine WL.alloc rfl zero_32 (.none rfl) rfl rfl ?_
  intro g2 hg2
  refine WL.storeW rfl rfl rfl rfl many_32 rfl rfl (.none rfl) rfl ?_
  refine WL.val (v_assign rfl rfl) (.none rfl) rfl rfl ?_
  refine WL.nil ?_
  refine WE.then_n ?_
  refine WC.seq ?_
  refine WC.region ?_
  refine WL.val (v_move rfl rfl) (.none rfl) rfl rfl ?_
  refine WL.val (v_indexAddr (lo := 12) rfl rfl rfl Try.underlying22 sz_5 rfl (by omega)) (.none rfl) rfl rfl ?_
  refine WL.store1 rfl rfl rfl rfl one_5 (Nat.le_of_ble_eq_true rfl) (.none rfl) rfl ?_
  refine WL.nil ?_
  refine WE.then_n ?_
  refine WC.seq ?_
  refine WC.region ?_
  refine WL.val (v_move rfl rfl) (.none rfl) rfl rfl ?_
  refine WL.val (v_indexAddr (lo := 13) rfl rfl rfl Try.underlying22 sz_5 rfl (by omega)) (.none rfl) rfl rfl ?_
  refine WL.store1 rfl rfl rfl rfl one_5 (Nat.le_of_ble_eq_true rfl) (.none rfl) rfl ?_
  refine WL.nil ?_
  refine WE.then_n ?_
  refine WC.seq ?_
  refine WC.region ?_
  refine WL.val (v_move rfl rfl) (.none rfl) rfl rfl ?_
  refine WL.call rfl rfl ck_12 (.none rfl) rfl rfl ?_
  intro w hS
  refine Calls.then (Parse_e w 3 _ 14 14 (hk 8 0) (rdoAt hS rfl) (hk_byt 8 0 (by omega) (by omega)) (by omega) (by rw [e2]; decide)) hS ?_
  refine WL.val (v_move rfl rfl) (.none rfl) rfl rfl ?_
  refine WL.val (v_extract rfl rfl rfl) (.none rfl) rfl rfl ?_
  refine WL.val (v_extract rfl rfl rfl) (.none rfl) rfl rfl ?_
  refine WL.alloc rfl zero_32 (.none rfl) rfl rfl ?_
  intro g4 hg4
  refine WL.storeW rfl rfl rfl rfl many_32 rfl rfl (.none rfl) rfl ?_
  refine WL.val (v_assign rfl rfl) (.none rfl) rfl rfl ?_
  refine WL.nil ?_
  refine WE.then_n ?_
  refine WC.seq ?_
  refine WC.region ?_
  refine WL.val (v_move rfl rfl) (.none rfl) rfl rfl ?_
  refine WL.val ((v_eql rfl rfl rfl).t (by omega)) (.none rfl) rfl rfl ?_
  refine WL.val (v_move rfl rfl) (.none rfl) rfl rfl ?_
  refine WL.val (v_fieldAddr0 rfl rfl fld_32_0) (.some rfl rfl rfl) rfl rfl ?_
  refine WL.val (v_fieldAddr0 rfl rfl fld_30_3) (.some rfl rfl rfl) rfl rfl ?_
  refine WL.val (v_load1 rfl rfl one_3 (cellAt rfl)) (.some rfl rfl rfl) rfl rfl ?_
  refine WL.val ((v_eql rfl rfl rfl).t (t1)) (.some rfl rfl rfl) rfl rfl ?_
  refine WL.val (v_pick_t rfl rfl rfl) (.none rfl) rfl rfl ?_
  refine WL.val (v_move rfl rfl) (.none rfl) rfl rfl ?_
  refine WL.val (v_fieldAddr0 rfl rfl fld_32_0) (.some rfl rfl rfl) rfl rfl ?_
  refine WL.val (v_fieldAddr0 rfl rfl fld_30_0) (.some rfl rfl rfl) rfl rfl ?_
  refine WL.val (v_load1 rfl rfl one_3 (cellAt rfl)) (.some rfl rfl rfl) rfl rfl ?_
  refine WL.val ((v_eql rfl rfl rfl).t (p1)) (.some rfl rfl rfl) rfl rfl ?_
  refine WL.val (v_pick_t rfl rfl rfl) (.none rfl) rfl rfl ?_
  refine WL.val (v_move rfl rfl) (.none rfl) rfl rfl ?_
  refine WL.val (v_move rfl rfl) (.some rfl rfl rfl) rfl rfl ?_
  refine WL.val ((v_eql rfl rfl rfl).t (e2)) (.some rfl rfl rfl) rfl rfl ?_
  refine WL.val (v_pick_t rfl rfl rfl) (.none rfl) rfl rfl ?_
  refine WL.val (v_assign rfl rfl) (.none rfl) rfl rfl ?_
  refine WL.nil ?_
  refine WE.then_n ?_
  refine WC.ret ?_
  refine WE.ret1 (P := Try.prog) (.inl rfl) Try.results10 rfl ?_
  exact fun w' h => ⟨rfl, h.frm⟩

theorem Vec.rdo {p : Nat → Prop} {w0 w : World} {L E : List Ent} {a : Option Addr} {n c : Nat} {f : Nat → Int} (hV : Vec 1 a n c (bcs f n) E) (hS : St p w0 w L) (hm : ∀ e ∈ E, e ∈ L) : RdO w a n f := fun hn => by
  rcases hV with ⟨_, h, _⟩ | ⟨g, cs, rfl, rfl, hx, hl, hk⟩
  · omega
  · refine ⟨g, 0, rfl, fun i hi => ?_⟩
    have hR : Row w g cs := hS.holds (.row g cs) (hm _ (by simp))
    refine hR.cell ?_
    rw [Nat.zero_add, ← bcs_get f n i hi, ← hx, List.getElem?_take, if_pos (by omega)]

set_option maxHeartbeats 1000000 in
theorem FrameParses_e (w : World) (port : Int) (a : Option Addr) (n cap : Nat) (f : Nat → Int) (hr : RdO w a n f) (hf : Byt f) (hc : n ≤ cap) (hn : n ≤ 9223372036854775807) (he : prErr port f n ≠ 0) :
    Calls Try.prog 3 #[.int .i64 port, .slice a n cap] w fun e w' => e = .returned (.bool true) ∧ Frm (fun _ => False) w w' := by
  refine enter Try.func3 rfl Try.ntmps3 rfl (St.start (fun _ => False) w) ?_
  refine WC.seq ?_
  refine WC.region ?_
  refine WL.val (v_assign rfl rfl) (.none rfl) rfl rfl ?_
  refine WL.nil ?_
  refine WE.then_n ?_
  refine WC.seq ?_
  refine WC.seq ?_
  refine WC.region ?_
  refine WL.call rfl rfl ck_10 (.none rfl) rfl rfl ?_
  intro w hS
  refine Calls.then (headOk_c w) hS ?_
  refine WL.val (v_not rfl rfl rfl) (.none rfl) rfl rfl ?_
  refine WL.nil ?_
  refine WE.then_n ?_
  refine WC.cond_f rfl ?_
  refine WC.skip ?_
  refine WE.then_n ?_
  refine WC.seq ?_
  refine WC.seq ?_
  refine WC.region ?_
  refine WL.val (v_move rfl rfl) (.none rfl) rfl rfl ?_
  refine WL.val (v_len_slice rfl rfl Try.underlying22) (.none rfl) rfl rfl ?_
  refine WL.val (v_gtr rfl rfl rfl) (.none rfl) rfl rfl ?_
  refine WL.nil ?_
  refine WE.then_n ?_
  refine WC.cond_d rfl (fun h16 => ?_) (fun h16 => ?_)
  · -- 16T
    refine WC.seq ?_
    refine WC.region ?_
    refine WL.val (v_assign rfl rfl) (.none rfl) rfl rfl ?_
    refine WL.nil ?_
    refine WE.then_n ?_
    refine WC.ret ?_
    refine WE.then_ret ?_
    refine WE.ret1 (P := Try.prog) (.inl rfl) Try.results3 rfl ?_
    exact fun w' h => ⟨rfl, h.frm⟩
  · -- 16F
    refine WC.skip ?_
    refine WE.then_n ?_
    refine WC.seq ?_
    refine WC.region ?_
    refine WL.val (v_move rfl rfl) (.none rfl) rfl rfl ?_
    refine WL.call rfl rfl ck_11 (.none rfl) rfl rfl ?_
    intro w1 hS
    refine (Copy_c _ _ w1 [] a n cap f hS (rdOOld (fun _ h => h) hr) (by omega)).mono ?_
    rintro e w' ⟨a', c', E, rfl, hac, hV, hS'⟩
    refine ⟨_, _, rfl, hS', ?_⟩
    refine WL.val (v_assign rfl rfl) (.none rfl) rfl rfl ?_
    refine WL.nil ?_
    refine WE.then_n ?_
    refine WC.seq ?_
    refine WC.region ?_
    refine WL.val (v_move rfl rfl) (.none rfl) rfl rfl ?_
    refine WL.val (v_move rfl rfl) (.none rfl) rfl rfl ?_
    refine WL.call rfl rfl ck_12 (.none rfl) rfl rfl ?_
    intro w hS
    refine Calls.then (Parse_e w port a' n c' f (hV.rdo hS (by intro e he; simp [he])) hf hac he) hS ?_
    refine WL.val (v_move rfl rfl) (.none rfl) rfl rfl ?_
    refine WL.val (v_extract rfl rfl rfl) (.none rfl) rfl rfl ?_
    refine WL.val (v_extract rfl rfl rfl) (.none rfl) rfl rfl ?_
    refine WL.alloc rfl zero_32 (.none rfl) rfl rfl ?_
    intro g6 hg6
    refine WL.storeW rfl rfl rfl rfl many_32 rfl rfl (.none rfl) rfl ?_
    refine WL.val (v_assign rfl rfl) (.none rfl) rfl rfl ?_
    refine WL.nil ?_
    refine WE.then_n ?_
    refine WC.seq ?_
    refine WC.region ?_
    refine WL.val (v_move rfl rfl) (.none rfl) rfl rfl ?_
    refine WL.val (v_move rfl rfl) (.none rfl) rfl rfl ?_
    refine WL.call rfl rfl ck_13 (.none rfl) rfl rfl ?_
    intro w hS
    refine Calls.then (RParse_e w port a n cap f (rdOOld (fun _ h => h) hr w hS) hf hc he) hS ?_
    refine WL.val (v_move rfl rfl) (.none rfl) rfl rfl ?_
    refine WL.val (v_extract rfl rfl rfl) (.none rfl) rfl rfl ?_
    refine WL.val (v_extract rfl rfl rfl) (.none rfl) rfl rfl ?_
    refine WL.val (v_extract rfl rfl rfl) (.none rfl) rfl rfl ?_
    refine WL.val (v_extract rfl rfl rfl) (.none rfl) rfl rfl ?_
    refine WL.alloc rfl zero_37 (.none rfl) rfl rfl ?_
    intro g8 hg8
    refine WL.storeW rfl rfl rfl rfl many_37 rfl rfl (.none rfl) rfl ?_
    refine WL.val (v_assign rfl rfl) (.none rfl) rfl rfl ?_
    refine WL.val (v_assign rfl rfl) (.none rfl) rfl rfl ?_
    refine WL.val (v_assign rfl rfl) (.none rfl) rfl rfl ?_
    refine WL.nil ?_
    refine WE.then_n ?_
    refine WC.seq ?_
    refine WC.quiet mixed (by kernel_rfl) ?_
    refine WQ.val (v_move rfl rfl) (.none rfl) rfl rfl ?_
    refine WQ.val (v_move rfl rfl) (.none rfl) rfl rfl ?_
    refine WQ.val ((v_eql rfl rfl rfl).t (rfl)) (.none rfl) rfl rfl ?_
    refine WQ.val (v_move rfl rfl) (.none rfl) rfl rfl ?_
    refine WQ.val (v_fieldAddr0 rfl rfl fld_32_0) (.some rfl rfl rfl) rfl rfl ?_
    refine WQ.val (v_loadN rfl rfl many_30 rfl (segAt (m := 19) rfl)) (.some rfl rfl rfl) rfl rfl ?_
    refine WQ.call _ rfl rfl ck_14 (.some rfl rfl rfl) rfl rfl (fun w hS => Calls.still (plain_c w Hd.zero) hS) ?_
    refine WQ.val (v_loadN rfl rfl many_37 rfl allAt) (.some rfl rfl rfl) rfl rfl ?_
    refine WQ.val (v_eql_aggT rfl rfl rfl eqk_37 eqg_37 rfl rfl (by rfl)) (.some rfl rfl rfl) rfl rfl ?_
    refine WQ.val (v_pick_t rfl rfl rfl) (.none rfl) rfl rfl ?_
    refine WQ.val (v_move rfl rfl) (.none rfl) rfl rfl ?_
    refine WQ.val (v_move rfl rfl) (.some rfl rfl rfl) rfl rfl ?_
    refine WQ.val (v_move rfl rfl) (.some rfl rfl rfl) rfl rfl ?_
    refine WQ.call _ rfl rfl ck_15 (.some rfl rfl rfl) rfl rfl (fun w hS => Calls.still (Same_c w _ _ _ _ _ _ f f (hV.rdo hS (by intro e he; simp [he])) (rdOOld (fun _ h => h) hr w hS) true (by simp)) hS) ?_
    refine WQ.val (v_pick_t rfl rfl rfl) (.none rfl) rfl rfl ?_
    refine WQ.val (v_assign rfl rfl) (.none rfl) rfl rfl ?_
    refine WQ.nil ?_
    refine WE.then_n ?_
    refine WC.ret ?_
    refine WE.ret1 (P := Try.prog) (.inl rfl) Try.results3 rfl ?_
    exact fun w' h => ⟨rfl, h.frm⟩

set_option maxHeartbeats 1000000 in
theorem FrameParses_k (w : World) (port : Int) (a : Option Addr) (n cap : Nat) (f : Nat → Int) (hr : RdO w a n f) (hf : Byt f) (hc : n ≤ cap) (hn : n ≤ 9223372036854775807) (he : prErr port f n = 0) :
    Calls Try.prog 3 #[.int .i64 port, .slice a n cap] w fun e w' => e = .returned (.bool true) ∧ Frm (fun _ => False) w w' := by
  refine enter Try.func3 rfl Try.ntmps3 rfl (St.start (fun _ => False) w) ?_
  refine WC.seq ?_
  refine WC.region ?_
  refine WL.val (v_assign rfl rfl) (.none rfl) rfl rfl ?_
  refine WL.nil ?_
  refine WE.then_n ?_
  refine WC.seq ?_
  refine WC.seq ?_
  refine WC.region ?_
  refine WL.call rfl rfl ck_10 (.none rfl) rfl rfl ?_
  intro w hS
  refine Calls.then (headOk_c w) hS ?_
  refine WL.val (v_not rfl rfl rfl) (.none rfl) rfl rfl ?_
  refine WL.nil ?_
  refine WE.then_n ?_
  refine WC.cond_f rfl ?_
  refine WC.skip ?_
  refine WE.then_n ?_
  refine WC.seq ?_
  refine WC.seq ?_
  refine WC.region ?_
  refine WL.val (v_move rfl rfl) (.none rfl) rfl rfl ?_
  refine WL.val (v_len_slice rfl rfl Try.underlying22) (.none rfl) rfl rfl ?_
  refine WL.val (v_gtr rfl rfl rfl) (.none rfl) rfl rfl ?_
  refine WL.nil ?_
  refine WE.then_n ?_
  refine WC.cond_d rfl (fun h16 => ?_) (fun h16 => ?_)
  · -- 16T
    refine WC.seq ?_
    refine WC.region ?_
    refine WL.val (v_assign rfl rfl) (.none rfl) rfl rfl ?_
    refine WL.nil ?_
    refine WE.then_n ?_
    refine WC.ret ?_
    refine WE.then_ret ?_
    refine WE.ret1 (P := Try.prog) (.inl rfl) Try.results3 rfl ?_
    exact fun w' h => ⟨rfl, h.frm⟩
  · -- 16F
    refine WC.skip ?_
    refine WE.then_n ?_
    refine WC.seq ?_
    refine WC.region ?_
    refine WL.val (v_move rfl rfl) (.none rfl) rfl rfl ?_
    refine WL.call rfl rfl ck_11 (.none rfl) rfl rfl ?_
    intro w1 hS
    refine (Copy_c _ _ w1 [] a n cap f hS (rdOOld (fun _ h => h) hr) (by omega)).mono ?_
    rintro e w' ⟨a', c', E, rfl, hac, hV, hS'⟩
    refine ⟨_, _, rfl, hS', ?_⟩
    refine WL.val (v_assign rfl rfl) (.none rfl) rfl rfl ?_
    refine WL.nil ?_
    refine WE.then_n ?_
    refine WC.seq ?_
    refine WC.region ?_
    refine WL.val (v_move rfl rfl) (.none rfl) rfl rfl ?_
    refine WL.val (v_move rfl rfl) (.none rfl) rfl rfl ?_
    refine WL.call rfl rfl ck_12 (.none rfl) rfl rfl ?_
    intro w hS
    refine Calls.then (Parse_k w port a' n c' f (hV.rdo hS (by intro e he; simp [he])) hf hac he) hS ?_
    refine WL.val (v_move rfl rfl) (.none rfl) rfl rfl ?_
    refine WL.val (v_extract rfl rfl rfl) (.none rfl) rfl rfl ?_
    refine WL.val (v_extract rfl rfl rfl) (.none rfl) rfl rfl ?_
    refine WL.alloc rfl zero_32 (.none rfl) rfl rfl ?_
    intro g6 hg6
    refine WL.storeW rfl rfl rfl rfl many_32 rfl rfl (.none rfl) rfl ?_
    refine WL.val (v_assign rfl rfl) (.none rfl) rfl rfl ?_
    refine WL.nil ?_
    refine WE.then_n ?_
    refine WC.seq ?_
    refine WC.region ?_
    refine WL.val (v_move rfl rfl) (.none rfl) rfl rfl ?_
    refine WL.val (v_move rfl rfl) (.none rfl) rfl rfl ?_
    refine WL.call rfl rfl ck_13 (.none rfl) rfl rfl ?_
    intro w hS
    refine Calls.then (RParse_k w port a n cap f (rdOOld (fun _ h => h) hr w hS) hf hc he) hS ?_
    refine WL.val (v_move rfl rfl) (.none rfl) rfl rfl ?_
    refine WL.val (v_extract rfl rfl rfl) (.none rfl) rfl rfl ?_
    refine WL.val (v_extract rfl rfl rfl) (.none rfl) rfl rfl ?_
    refine WL.val (v_extract rfl rfl rfl) (.none rfl) rfl rfl ?_
    refine WL.val (v_extract rfl rfl rfl) (.none rfl) rfl rfl ?_
    refine WL.alloc rfl zero_37 (.none rfl) rfl rfl ?_
    intro g8 hg8
    refine WL.storeW rfl rfl rfl rfl many_37 rfl rfl (.none rfl) rfl ?_
    refine WL.val (v_assign rfl rfl) (.none rfl) rfl rfl ?_
    refine WL.val (v_assign rfl rfl) (.none rfl) rfl rfl ?_
    refine WL.val (v_assign rfl rfl) (.none rfl) rfl rfl ?_
    refine WL.nil ?_
    refine WE.then_n ?_
    refine WC.seq ?_
    refine WC.quiet mixed (by kernel_rfl) ?_
    refine WQ.val (v_move rfl rfl) (.none rfl) rfl rfl ?_
    refine WQ.val (v_move rfl rfl) (.none rfl) rfl rfl ?_
    refine WQ.val ((v_eql rfl rfl rfl).t (rfl)) (.none rfl) rfl rfl ?_
    refine WQ.val (v_move rfl rfl) (.none rfl) rfl rfl ?_
    refine WQ.val (v_fieldAddr0 rfl rfl fld_32_0) (.some rfl rfl rfl) rfl rfl ?_
    refine WQ.val (v_loadN rfl rfl many_30 rfl (segAt (m := 19) rfl)) (.some rfl rfl rfl) rfl rfl ?_
    refine WQ.call _ rfl rfl ck_14 (.some rfl rfl rfl) rfl rfl (fun w hS => Calls.still (plain_c w (prHd port f)) hS) ?_
    refine WQ.val (v_loadN rfl rfl many_37 rfl allAt) (.some rfl rfl rfl) rfl rfl ?_
    refine WQ.val (v_eql_aggT rfl rfl rfl eqk_37 eqg_37 rfl rfl (by rfl)) (.some rfl rfl rfl) rfl rfl ?_
    refine WQ.val (v_pick_t rfl rfl rfl) (.none rfl) rfl rfl ?_
    refine WQ.val (v_move rfl rfl) (.none rfl) rfl rfl ?_
    refine WQ.val (v_move rfl rfl) (.some rfl rfl rfl) rfl rfl ?_
    refine WQ.val (v_move rfl rfl) (.some rfl rfl rfl) rfl rfl ?_
    refine WQ.call _ rfl rfl ck_15 (.some rfl rfl rfl) rfl rfl (fun w hS => Calls.still (Same_c w _ _ _ _ _ _ f f (hV.rdo hS (by intro e he; simp [he])) (rdOOld (fun _ h => h) hr w hS) true (by simp)) hS) ?_
    refine WQ.val (v_pick_t rfl rfl rfl) (.none rfl) rfl rfl ?_
    refine WQ.val (v_assign rfl rfl) (.none rfl) rfl rfl ?_
    refine WQ.nil ?_
    refine WE.then_n ?_
    refine WC.ret ?_
    refine WE.ret1 (P := Try.prog) (.inl rfl) Try.results3 rfl ?_
    exact fun w' h => ⟨rfl, h.frm⟩
end Go.Proofs.Ytpjjlggonpbegaa
