/- rules.List: Find; Run where one act at most is to be done; the document's example of layer 17. -/
import Derived.Test.YtodaanhhnjkncaaDoorActC
namespace Go.Proofs.YtodaanhhnjkncaaDoor
open Go.RowKit

theorem rangeIn {p : Nat → Prop} {w0 : World} {L : List Ent} {b off : Nat} {cs : List Value} (hp : ¬ p b) (h : w0.rangeAt b off cs) : ∀ w, St p w0 w L → w.rangeAt b off cs := fun _ hS j v hj => hS.old hp (h j v hj)
structure Ru where
  m : Mt
  ad : Option Addr
  n : Nat
  c : Nat
def ruL (r : Ru) : List Value := mtL r.m ++ [.slice r.ad r.n r.c]
theorem ruL_acts (r : Ru) : (ruL r)[18]? = some (.slice r.ad r.n r.c) := by
  unfold ruL
  rw [List.getElem?_append_right (by rw [mtL_len]; omega), mtL_len]; rfl
theorem ruL_match (r : Ru) : seg (ruL r) 0 18 = mtL r.m := by
  unfold seg ruL
  rw [List.drop_zero, List.take_left' (mtL_len _)]
theorem ruL_len (r : Ru) : (ruL r).length = 19 := by simp [ruL, mtL_len]
/-- The first of so many, or -1. -/
def findI (t : Nat → Bool) (n : Nat) : Int := match (List.range n).find? t with | some k => (k : Int) | none => -1
theorem findI_some {t : Nat → Bool} {n k : Nat} (hk : k < n) (h : t k = true) (hb : ∀ j, j < k → t j = false) : findI t n = (k : Int) := by
  unfold findI
  rw [List.find?_range_eq_some.2 ⟨h, List.mem_range.2 hk, fun j hj => by rw [hb j hj]; rfl⟩]
theorem findI_none {t : Nat → Bool} {n : Nat} (hb : ∀ j, j < n → t j = false) : findI t n = -1 := by
  unfold findI
  rw [List.find?_eq_none.2 (fun x hx => by rw [hb x (List.mem_range.1 hx)]; decide)]
theorem Hit1_c (w : World) (gh : Nat) (r : Ru) (H : Hd) (hm : r.m.In) (hH : H.In) (hG : GW w) (hh : w.rangeAt gh 0 (hdL H)) :
    Calls Tryd.prog 106 #[.agg (ruL r).toArray, .pointer (some ⟨gh, 0, none⟩)] w fun e w' => e = .returned (.bool (decide (r.m.hits H))) ∧ Frm (fun _ => False) w w' := by
  refine enter Tryd.func106 rfl Tryd.ntmps106 rfl (St.start (fun _ => False) w) ?_
  refine WC.seq ?_
  refine WC.region ?_
  refine WL.box rfl rfl rfl (.none rfl) rfl rfl ?_
  intro g2 hg2
  refine WL.val (v_assign rfl rfl) (.none rfl) rfl rfl ?_
  refine WL.nil ?_
  refine WE.then_n ?_
  refine WC.seq ?_
  refine WC.region ?_
  refine WL.val (v_fieldAddr0 rfl rfl fld_89_0) (.none rfl) rfl rfl ?_
  refine WL.val (v_loadN rfl rfl many_86 rfl (segAt (m := 18) (ruL_match r))) (.none rfl) rfl rfl ?_
  refine WL.val (v_loadN (cs := hdL H) rfl rfl many_31 rfl (rangeIn (fun h => h) hh)) (.none rfl) rfl rfl ?_
  refine WL.call rfl rfl ck_101 (.none rfl) rfl rfl ?_
  intro w hS
  refine Calls.then (Hits_c w r.m H hm hH (hG.keep (fun h => h) hS)) hS ?_
  refine WL.val (v_assign rfl rfl) (.none rfl) rfl rfl ?_
  refine WL.nil ?_
  refine WE.then_n ?_
  refine WC.ret ?_
  refine WE.ret1 (P := Tryd.prog) (.inl rfl) Tryd.results106 rfl ?_
  exact fun w' h => ⟨rfl, h.frm⟩
theorem Idx_c (w : World) (b o n c gh : Nat) (R : Nat → Ru) (H : Hd) (hm : ∀ i, i < n → (R i).m.In) (hH : H.In) (hG : GW w) (hh : w.rangeAt gh 0 (hdL H)) (hn : n ≤ 1000000) (hl : ∀ i, i < n → w.rangeAt b (o + i * 19) (ruL (R i))) :
    Calls Tryd.prog 105 #[.slice (some ⟨b, o, none⟩) n c, .func (.func 106) #[] #[.pointer (some ⟨gh, 0, none⟩)]] w
      fun e w' => e = .returned (.int .i64 (findI (fun i => decide ((R i).m.hits H)) n)) ∧ Frm (fun _ => False) w w' := by
  refine enter Tryd.func105 rfl Tryd.ntmps105 rfl (St.start (fun _ => False) w) ?_
  refine WC.seq ?_
  refine WC.region ?_
  refine WL.val (v_assign rfl rfl) (.none rfl) rfl rfl ?_
  refine WL.nil ?_
  refine WE.then_n ?_
  refine WC.seq ?_
  refine WC.seq ?_
  refine WC.region ?_
  refine WL.val (v_move rfl rfl) (.none rfl) rfl rfl ?_
  refine WL.val (v_len_slice rfl rfl Tryd.underlying104) (.none rfl) rfl rfl ?_
  refine WL.val (v_move rfl rfl) (.none rfl) rfl rfl ?_
  refine WL.nil ?_
  refine WE.then_n ?_
  refine WC.block ?_
  refine WC.loop (fun k : Nat => [(8, .int .i64 k), (7, .int .i64 n), (6, .slice (some ⟨b, o, none⟩) n c), (0, .slice (some ⟨b, o, none⟩) n c), (1, .func (.func 106) #[] #[.pointer (some ⟨gh, 0, none⟩)])]) (fun _ => []) (fun k => k ≤ n ∧ ∀ j, j < k → decide ((R j).m.hits H) = false) (fun k => n - k) 0 ⟨Nat.zero_le _, fun j h => absurd h (by omega)⟩ (.cons rfl (.cons rfl (.cons rfl (.cons rfl (.cons rfl .nil))))) (.refl _) ?_
  rintro k ⟨hk, hno⟩
  refine WC.seq ?_
  refine WC.region ?_
  refine WL.test (v_lss rfl rfl rfl) (.none rfl) rfl rfl (fun h9 => ?_) (fun h9 => ?_)
  · -- 9T
    refine WL.nil ?_
    refine WE.then_n ?_
    refine WC.seq ?_
    refine WC.cond_t rfl ?_
    refine WC.skip ?_
    refine WE.then_n ?_
    refine WC.seq ?_
    refine WC.block ?_
    refine WC.seq ?_
    refine WC.region ?_
    refine WL.val (v_move rfl rfl) (.none rfl) rfl rfl ?_
    refine WL.val (v_assign rfl rfl) (.none rfl) rfl rfl ?_
    refine WL.nil ?_
    refine WE.then_n ?_
    refine WC.seq ?_
    refine WC.region ?_
    refine WL.val (v_move rfl rfl) (.none rfl) rfl rfl ?_
    refine WL.val (v_move rfl rfl) (.none rfl) rfl rfl ?_
    refine WL.val (v_move rfl rfl) (.none rfl) rfl rfl ?_
    refine WL.val (v_indexAddr (lo := k) rfl rfl rfl Tryd.underlying104 sz_89 (by omega) (by omega)) (.none rfl) rfl rfl ?_
    refine WL.val (v_loadN (cs := ruL (R k)) rfl rfl many_89 (ruL_len _) (rangeIn (fun h => h) (hl k (by omega)))) (.none rfl) rfl rfl ?_
    refine WL.callV rfl rfl rfl ck_106 (.none rfl) rfl rfl ?_
    intro w hS
    refine Calls.then (Hit1_c w gh (R k) H (hm k (by omega)) hH (hG.keep (fun h => h) hS) (rangeIn (fun h => h) hh w hS)) hS ?_
    refine WL.nil ?_
    refine WE.then_n ?_
    refine WC.cond_d rfl (fun h16 => ?_) (fun h16 => ?_)
    · -- 16T
      refine WC.seq ?_
      refine WC.region ?_
      refine WL.val (v_move rfl rfl) (.none rfl) rfl rfl ?_
      refine WL.val (v_assign rfl rfl) (.none rfl) rfl rfl ?_
      refine WL.nil ?_
      refine WE.then_n ?_
      refine WC.ret ?_
      refine WE.block_ret ?_
      refine WE.then_ret ?_
      refine WE.then_ret ?_
      refine WE.block_ret ?_
      refine WE.then_ret ?_
      refine WE.ret1 (P := Tryd.prog) (.inl rfl) Tryd.results105 rfl ?_
      exact fun w' h => ⟨by rw [findI_some (by omega) (decide_eq_true h16) hno], h.frm⟩
    · -- 16F
      refine WC.skip ?_
      refine WE.block_n ?_
      refine WE.then_n ?_
      refine WC.region ?_
      refine WL.val (v_add rfl rfl rfl (w_i64 (by omega) (by omega))) (.none rfl) rfl rfl ?_
      refine WL.val (v_move rfl rfl) (.none rfl) rfl rfl ?_
      refine WL.nil ?_
      exact WE.next (k + 1) (by omega) ⟨by omega, fun j hj => by
      by_cases e : j = k
      · subst e; exact decide_eq_false h16
      · exact hno j (by omega)⟩ (.int rfl (by omega) (.cons rfl (.cons rfl (.cons rfl (.cons rfl .nil))))) (.refl _)
  · -- 9F
    refine WL.nil ?_
    refine WE.then_n ?_
    refine WC.seq ?_
    refine WC.cond_f rfl ?_
    refine WC.exit ?_
    refine WE.then_exit ?_
    refine WE.then_exit ?_
    refine WE.block_hit ?_
    refine WE.then_n ?_
    refine WC.seq ?_
    refine WC.region ?_
    refine WL.val (v_assign rfl rfl) (.none rfl) rfl rfl ?_
    refine WL.nil ?_
    refine WE.then_n ?_
    refine WC.ret ?_
    refine WE.ret1 (P := Tryd.prog) (.inl rfl) Tryd.results105 rfl ?_
    obtain rfl : k = n := (by omega)
    exact fun w' h => ⟨by rw [findI_none hno], h.frm⟩
theorem Find_c (w : World) (b o n c : Nat) (R : Nat → Ru) (H : Hd) (hm : ∀ i, i < n → (R i).m.In) (hH : H.In) (hG : GW w) (hn : n ≤ 1000000) (hl : ∀ i, i < n → w.rangeAt b (o + i * 19) (ruL (R i))) :
    Calls Tryd.prog 76 #[.slice (some ⟨b, o, none⟩) n c, .agg (hdCells H)] w
      fun e w' => e = .returned (.int .i64 (findI (fun i => decide ((R i).m.hits H)) n)) ∧ Frm (fun _ => False) w w' := by
  refine enter Tryd.func76 rfl Tryd.ntmps76 rfl (St.start (fun _ => False) w) ?_
  refine WC.seq ?_
  refine WC.region ?_
  refine WL.box rfl rfl rfl (.none rfl) rfl rfl ?_
  intro g3 hg3
  refine WL.val (v_assign rfl rfl) (.none rfl) rfl rfl ?_
  refine WL.nil ?_
  refine WE.then_n ?_
  refine WC.seq ?_
  refine WC.region ?_
  refine WL.val (v_move rfl rfl) (.none rfl) rfl rfl ?_
  refine WL.val (v_makeFunc rfl rfl rfl) (.none rfl) rfl rfl ?_
  refine WL.call rfl rfl ck_105 (.none rfl) rfl rfl ?_
  intro w hS
  refine Calls.then (Idx_c w b o n c g3 R H hm hH (hG.keep (fun h => h) hS) (allAt (g := g3) w hS) hn (fun i hi => rangeIn (fun h => h) (hl i hi) w hS)) hS ?_
  refine WL.val (v_assign rfl rfl) (.none rfl) rfl rfl ?_
  refine WL.nil ?_
  refine WE.then_n ?_
  refine WC.ret ?_
  refine WE.ret1 (P := Tryd.prog) (.inl rfl) Tryd.results76 rfl ?_
  exact fun w' h => ⟨rfl, h.frm⟩
/-! ### A sort of one at most, and what stands beside it -/
set_option maxRecDepth 8000 in
theorem Len64_s (w : World) (n : Nat) (hn : n ≤ 1) : Calls Tryd.prog 118 #[.int .u64 n] w fun e w' => e = .returned (.int .i64 n) ∧ Frm (fun _ => False) w w' := by
  have hq : ((UInt8.ofNat n).toNat : Int) = n := (by match n, hn with | 0, _ => rfl | 1, _ => rfl)
  refine enter Tryd.func118 rfl Tryd.ntmps118 rfl (St.start (fun _ => False) w) ?_
  refine WC.seq ?_
  refine WC.region ?_
  refine WL.val (v_assign rfl rfl) (.none rfl) rfl rfl ?_
  refine WL.nil ?_
  refine WE.then_n ?_
  refine WC.seq ?_
  refine WC.seq ?_
  refine WC.region ?_
  refine WL.val (v_move rfl rfl) (.none rfl) rfl rfl ?_
  refine WL.val ((v_geq rfl rfl rfl).f (by omega)) (.none rfl) rfl rfl ?_
  refine WL.nil ?_
  refine WE.then_n ?_
  refine WC.cond_f rfl ?_
  refine WC.skip ?_
  refine WE.then_n ?_
  refine WC.seq ?_
  refine WC.seq ?_
  refine WC.region ?_
  refine WL.val (v_move rfl rfl) (.none rfl) rfl rfl ?_
  refine WL.val ((v_geq rfl rfl rfl).f (by omega)) (.none rfl) rfl rfl ?_
  refine WL.nil ?_
  refine WE.then_n ?_
  refine WC.cond_f rfl ?_
  refine WC.skip ?_
  refine WE.then_n ?_
  refine WC.seq ?_
  refine WC.seq ?_
  refine WC.region ?_
  refine WL.val (v_move rfl rfl) (.none rfl) rfl rfl ?_
  refine WL.val ((v_geq rfl rfl rfl).f (by omega)) (.none rfl) rfl rfl ?_
  refine WL.nil ?_
  refine WE.then_n ?_
  refine WC.cond_f rfl ?_
  refine WC.skip ?_
  refine WE.then_n ?_
  refine WC.seq ?_
  refine WC.region ?_
  refine WL.val (v_move rfl rfl) (.none rfl) rfl rfl ?_
  refine WL.val (v_move rfl rfl) (.none rfl) rfl rfl ?_
  refine WL.val (v_conv rfl rfl Tryd.underlying5 Tryd.underlying22 (by first | exact w_u8 (by omega) (by omega) | exact w_u8m _)) (.none rfl) rfl rfl ?_
  refine WL.val (v_indexS (lo := n) (v := UInt8.ofNat n) rfl rfl rfl Tryd.underlying9 (by omega) (by match n, hn with | 0, _ => exact rfl | 1, _ => exact rfl)) (.none rfl) rfl rfl ?_
  refine WL.val (v_conv rfl rfl Tryd.underlying3 Tryd.underlying5 (w_i64 (by omega) (by omega))) (.none rfl) rfl rfl ?_
  refine WL.val (v_add rfl rfl rfl (w_i64 (by omega) (by omega))) (.none rfl) rfl rfl ?_
  refine WL.val (v_assign rfl rfl) (.none rfl) rfl rfl ?_
  refine WL.nil ?_
  refine WE.then_n ?_
  refine WC.ret ?_
  refine WE.ret1 (P := Tryd.prog) (.inl rfl) Tryd.results118 rfl ?_
  exact fun w' h => ⟨by rw [← hq]; simp, h.frm⟩
theorem Len_s (w : World) (n : Nat) (hn : n ≤ 1) : Calls Tryd.prog 83 #[.int .u64 n] w fun e w' => e = .returned (.int .i64 n) ∧ Frm (fun _ => False) w w' := by
  refine enter Tryd.func83 rfl Tryd.ntmps83 rfl (St.start (fun _ => False) w) ?_
  refine WC.seq ?_
  refine WC.region ?_
  refine WL.val (v_assign rfl rfl) (.none rfl) rfl rfl ?_
  refine WL.nil ?_
  refine WE.then_n ?_
  refine WC.seq ?_
  refine WC.cond_f rfl ?_
  refine WC.skip ?_
  refine WE.then_n ?_
  refine WC.seq ?_
  refine WC.region ?_
  refine WL.val (v_move rfl rfl) (.none rfl) rfl rfl ?_
  refine WL.call rfl rfl ck_118 (.none rfl) rfl rfl ?_
  intro w hS
  refine Calls.then (Len64_s w n hn) hS ?_
  refine WL.val (v_assign rfl rfl) (.none rfl) rfl rfl ?_
  refine WL.nil ?_
  refine WE.then_n ?_
  refine WC.ret ?_
  refine WE.ret1 (P := Tryd.prog) (.inl rfl) Tryd.results83 rfl ?_
  exact fun w' h => ⟨rfl, h.frm⟩
theorem Insert_s (w : World) (ad : Option Addr) (n c : Nat) (f : Value) (hn : n ≤ 1) : Calls Tryd.prog 109 #[.slice ad n c, .int .i64 0, .int .i64 n, f] w fun e w' => e = .returned (.tuple #[]) ∧ Frm (fun _ => False) w w' := by
  refine enter Tryd.func109 rfl Tryd.ntmps109 rfl (St.start (fun _ => False) w) ?_
  refine WC.seq ?_
  refine WC.region ?_
  refine WL.val (v_move rfl rfl) (.none rfl) rfl rfl ?_
  refine WL.val (v_add rfl rfl rfl (w_i64 (by omega) (by omega))) (.none rfl) rfl rfl ?_
  refine WL.val (v_assign rfl rfl) (.none rfl) rfl rfl ?_
  refine WL.nil ?_
  refine WE.then_n ?_
  refine WC.block ?_
  refine WC.loop (fun _ : Unit => [(8, .int .i64 1), (2, .int .i64 n)]) (fun _ => []) (fun _ => True) (fun _ => 0) () trivial (.cons rfl (.cons rfl .nil)) (.refl _) ?_
  intro _ _
  refine WC.seq ?_
  refine WC.seq ?_
  refine WC.region ?_
  refine WL.val (v_move rfl rfl) (.none rfl) rfl rfl ?_
  refine WL.val (v_move rfl rfl) (.none rfl) rfl rfl ?_
  refine WL.val ((v_lss rfl rfl rfl).f (by omega)) (.none rfl) rfl rfl ?_
  refine WL.nil ?_
  refine WE.then_n ?_
  refine WC.cond_f rfl ?_
  refine WC.exit ?_
  refine WE.then_exit ?_
  refine WE.then_exit ?_
  refine WE.block_hit ?_
  refine WE.ret0 (P := Tryd.prog) (.inr rfl) Tryd.results109  ?_
  exact fun w' h => ⟨rfl, h.frm⟩
theorem Pdq_s (w : World) (ad : Option Addr) (n c : Nat) (f : Value) (m : Int) (hn : n ≤ 1) : Calls Tryd.prog 82 #[.slice ad n c, .int .i64 0, .int .i64 n, .int .i64 m, f] w fun e w' => e = .returned (.tuple #[]) ∧ Frm (fun _ => False) w w' := by
  refine enter Tryd.func82 rfl Tryd.ntmps82 rfl (St.start (fun _ => False) w) ?_
  refine WC.seq ?_
  refine WC.region ?_
  refine WL.val (v_assign rfl rfl) (.none rfl) rfl rfl ?_
  refine WL.nil ?_
  refine WE.then_n ?_
  refine WC.seq ?_
  refine WC.region ?_
  refine WL.val (v_assign rfl rfl) (.none rfl) rfl rfl ?_
  refine WL.nil ?_
  refine WE.then_n ?_
  refine WC.block ?_
  refine WC.loop (fun _ : Unit => [(0, .slice ad n c), (1, .int .i64 0), (2, .int .i64 n), (4, f)]) (fun _ => []) (fun _ => True) (fun _ => 0) () trivial (.cons rfl (.cons rfl (.cons rfl (.cons rfl .nil)))) (.refl _) ?_
  intro _ _
  refine WC.block ?_
  refine WC.seq ?_
  refine WC.region ?_
  refine WL.val (v_move rfl rfl) (.none rfl) rfl rfl ?_
  refine WL.val (v_move rfl rfl) (.none rfl) rfl rfl ?_
  refine WL.val (v_sub rfl rfl rfl (w_i64 (by omega) (by omega))) (.none rfl) rfl rfl ?_
  refine WL.val (v_assign rfl rfl) (.none rfl) rfl rfl ?_
  refine WL.nil ?_
  refine WE.then_n ?_
  refine WC.seq ?_
  refine WC.seq ?_
  refine WC.region ?_
  refine WL.val (v_move rfl rfl) (.none rfl) rfl rfl ?_
  refine WL.val ((v_leq rfl rfl rfl).t (by omega)) (.none rfl) rfl rfl ?_
  refine WL.nil ?_
  refine WE.then_n ?_
  refine WC.cond_t rfl ?_
  refine WC.seq ?_
  refine WC.region ?_
  refine WL.val (v_move rfl rfl) (.none rfl) rfl rfl ?_
  refine WL.val (v_move rfl rfl) (.none rfl) rfl rfl ?_
  refine WL.val (v_move rfl rfl) (.none rfl) rfl rfl ?_
  refine WL.val (v_move rfl rfl) (.none rfl) rfl rfl ?_
  refine WL.call rfl rfl ck_109 (.none rfl) rfl rfl ?_
  intro w hS
  refine Calls.then (Insert_s w ad n c f hn) hS ?_
  refine WL.nil ?_
  refine WE.then_n ?_
  refine WC.ret ?_
  refine WE.then_ret ?_
  refine WE.block_ret ?_
  refine WE.then_ret ?_
  refine WE.block_ret ?_
  refine WE.ret0 (P := Tryd.prog) (.inl rfl) Tryd.results82  ?_
  exact fun w' h => ⟨rfl, h.frm⟩
theorem Sort_s (w : World) (ad : Option Addr) (n c : Nat) (f : Value) (hn : n ≤ 1) : Calls Tryd.prog 57 #[.slice ad n c, f] w fun e w' => e = .returned (.tuple #[]) ∧ Frm (fun _ => False) w w' := by
  refine enter Tryd.func57 rfl Tryd.ntmps57 rfl (St.start (fun _ => False) w) ?_
  refine WC.seq ?_
  refine WC.region ?_
  refine WL.val (v_move rfl rfl) (.none rfl) rfl rfl ?_
  refine WL.val (v_len_slice rfl rfl Tryd.underlying47) (.none rfl) rfl rfl ?_
  refine WL.val (v_assign rfl rfl) (.none rfl) rfl rfl ?_
  refine WL.nil ?_
  refine WE.then_n ?_
  refine WC.region ?_
  refine WL.val (v_move rfl rfl) (.none rfl) rfl rfl ?_
  refine WL.val (v_move rfl rfl) (.none rfl) rfl rfl ?_
  refine WL.val (v_move rfl rfl) (.none rfl) rfl rfl ?_
  refine WL.val (v_conv rfl rfl Tryd.underlying39 Tryd.underlying3 (by first | exact w_u64 (by omega) (by omega) | exact w_u64m _)) (.none rfl) rfl rfl ?_
  refine WL.call rfl rfl ck_83 (.none rfl) rfl rfl ?_
  intro w hS
  refine Calls.then (Len_s w n hn) hS ?_
  refine WL.val (v_move rfl rfl) (.none rfl) rfl rfl ?_
  refine WL.call rfl rfl ck_82 (.none rfl) rfl rfl ?_
  intro w hS
  refine Calls.then (Pdq_s w ad n c f n hn) hS ?_
  refine WL.nil ?_
  refine WE.ret0 (P := Tryd.prog) (.inr rfl) Tryd.results57  ?_
  exact fun w' h => ⟨rfl, h.frm⟩
theorem Compact_s (w : World) (ad : Option Addr) (n c : Nat) (hn : n ≤ 1) : Calls Tryd.prog 77 #[.slice ad n c] w fun e w' => e = .returned (.slice ad n c) ∧ Frm (fun _ => False) w w' := by
  refine enter Tryd.func77 rfl Tryd.ntmps77 rfl (St.start (fun _ => False) w) ?_
  refine WC.seq ?_
  refine WC.region ?_
  refine WL.val (v_assign rfl rfl) (.none rfl) rfl rfl ?_
  refine WL.nil ?_
  refine WE.then_n ?_
  refine WC.seq ?_
  refine WC.seq ?_
  refine WC.region ?_
  refine WL.val (v_move rfl rfl) (.none rfl) rfl rfl ?_
  refine WL.val (v_len_slice rfl rfl Tryd.underlying47) (.none rfl) rfl rfl ?_
  refine WL.val ((v_lss rfl rfl rfl).t (by omega)) (.none rfl) rfl rfl ?_
  refine WL.nil ?_
  refine WE.then_n ?_
  refine WC.cond_t rfl ?_
  refine WC.seq ?_
  refine WC.region ?_
  refine WL.val (v_move rfl rfl) (.none rfl) rfl rfl ?_
  refine WL.val (v_assign rfl rfl) (.none rfl) rfl rfl ?_
  refine WL.nil ?_
  refine WE.then_n ?_
  refine WC.ret ?_
  refine WE.then_ret ?_
  refine WE.ret1 (P := Tryd.prog) (.inl rfl) Tryd.results77 rfl ?_
  exact fun w' h => ⟨rfl, h.frm⟩
end Go.Proofs.YtodaanhhnjkncaaDoor
