/- container/heap over the clock's line: Push, Pop, Fix, Remove. -/
import Derived.Test.YtaoipmdddagngaaClkC
namespace Go.Proofs.Ytaoipmdddagngaa
open Go.RowKit

theorem Vec.cells {ad : Option Addr} {k c : Nat} {xs : List Value} {E : List Ent} (h : Vec 1 ad k c xs E) (hk : 0 < k) : ∃ g r, ad = some ⟨g, 0, none⟩ ∧ E = [.row g (xs ++ r)] ∧ k + r.length = c := by
  rcases h with ⟨_, h0, _⟩ | ⟨g, cs, rfl, rfl, h1, h2, h3⟩
  · omega
  · refine ⟨g, cs.drop k, rfl, ?_, by rw [List.length_drop]; omega⟩
    have : cs = xs ++ cs.drop k := by rw [← h1, Nat.mul_one, List.take_append_drop]
    rw [← this]
theorem el_app {hs : List En} {e : En} {k : Nat} (h : k < hs.length) : el (hs ++ [e]) k = el hs k := by
  simp [el, List.getD, List.getElem?_append_left h]
theorem el_last {hs : List En} {e : En} : el (hs ++ [e]) hs.length = e := by simp [el]
theorem el_take {hs : List En} {n k : Nat} (h : k < n) : el (hs.take n) k = el hs k := by
  simp [el, List.getD, List.getElem?_take, h]
theorem take_last {hs : List En} {n : Nat} (h : hs.length = n + 1) : hs = hs.take n ++ [el hs n] := by
  have e := List.drop_eq_getElem_cons (show n < hs.length by omega)
  have h1 : hs[n] = el hs n := by simp [el, show n < hs.length by omega]
  rw [← h1, show [hs[n]] = hs.drop n by rw [e, List.drop_eq_nil_iff.2 (by omega)], List.take_append_drop]
theorem HeapB.take {n : Nat} {hs : List En} (h : HeapB n hs) : HeapB n (hs.take n) := fun k h0 h1 => by
  rw [el_take h1, el_take (by omega)]; exact h k h0 h1
theorem ents_last (hs : List En) (e : En) (L : List Ent) : ents 0 (hs ++ [e]) ++ L = ents 0 hs ++ (enR e hs.length :: L) := by
  rw [ents_append]; simp [ents]
theorem ptrs_last (hs : List En) (e : En) (r : List Value) : ptrs (hs ++ [e]) ++ r = ptrs hs ++ (ptr e :: r) := by simp [ptrs]
/-- The clock's blocks, the line wherever it lies. -/
def clkL (gC : Nat) (now : Int) (ad : Option Addr) (c : Nat) (rm : Option Nat) (hs : List En) (E R : List Ent) : List Ent :=
  E ++ (ents 0 hs ++ (.row gC [.int .i64 now, .slice ad hs.length c, .map rm] :: R))
abbrev enT : Nat := 47
section
variable {p : Nat → Prop} {w0 w : World} {gC gL : Nat} {now : Int} {rm : Option Nat} {c : Nat} {hs : List En} {r : List Value} {R E : List Ent} {ad : Option Addr}
set_option maxHeartbeats 1000000 in
theorem LPop_c {x : En} (hS : St p w0 w (hsL gC gL now rm c (hs ++ [x]) r R)) (hl : hs.length ≤ 300) (hc : hs.length ≤ c) :
    Calls Try.prog 40 #[.pointer (some ⟨gC, 1, none⟩)] w fun e w' => e = .returned (.iface enT (ptr x)) ∧ St p w0 w' (hsL gC gL now rm c hs (.pointer none :: r) (enR x hs.length :: R)) := by
  have hP : (ptrs hs).length = hs.length := by simp [ptrs]
  unfold hsL at hS ⊢
  rw [ents_last, ptrs_last, List.length_append, List.length_singleton] at hS
  refine enter Try.func40 rfl Try.ntmps40 rfl hS ?_
  refine WC.seq ?_
  refine WC.region ?_
  refine WL.val (v_assign rfl rfl) (.none rfl) rfl rfl ?_
  refine WL.nil ?_
  refine WE.then_n ?_
  refine WC.seq ?_
  refine WC.region ?_
  refine WL.val (v_move rfl rfl) (.none rfl) rfl rfl ?_
  refine WL.val (v_nilCheck rfl rfl) (.none rfl) rfl rfl ?_
  refine WL.val (v_load1 rfl rfl one_44 (cellAt rfl)) (.none rfl) rfl rfl ?_
  refine WL.val (v_len_slice rfl rfl Try.underlying44) (.none rfl) rfl rfl ?_
  refine WL.val (v_sub rfl rfl rfl (w_i64 (by omega) (by omega))) (.none rfl) rfl rfl ?_
  refine WL.val (v_assign rfl rfl) (.none rfl) rfl rfl ?_
  refine WL.nil ?_
  refine WE.then_n ?_
  refine WC.seq ?_
  refine WC.region ?_
  refine WL.val (v_move rfl rfl) (.none rfl) rfl rfl ?_
  refine WL.val (v_nilCheck rfl rfl) (.none rfl) rfl rfl ?_
  refine WL.val (v_load1 rfl rfl one_44 (cellAt rfl)) (.none rfl) rfl rfl ?_
  refine WL.val (v_move rfl rfl) (.none rfl) rfl rfl ?_
  refine WL.val (v_indexAddr (lo := hs.length) rfl rfl rfl Try.underlying44 sz_47 (by omega) (by omega)) (.none rfl) rfl rfl ?_
  refine WL.val (v_load1 rfl rfl one_47 (cellAt (get_mid1 _ _ _ (by omega)))) (.none rfl) rfl rfl ?_
  refine WL.val (v_assign rfl rfl) (.none rfl) rfl rfl ?_
  refine WL.nil ?_
  refine WE.then_n ?_
  refine WC.seq ?_
  refine WC.region ?_
  refine WL.val (v_move rfl rfl) (.none rfl) rfl rfl ?_
  refine WL.val (v_nilCheck rfl rfl) (.none rfl) rfl rfl ?_
  refine WL.val (v_load1 rfl rfl one_44 (cellAt rfl)) (.none rfl) rfl rfl ?_
  refine WL.val (v_move rfl rfl) (.none rfl) rfl rfl ?_
  refine WL.val (v_indexAddr (lo := hs.length) rfl rfl rfl Try.underlying44 sz_47 (by omega) (by omega)) (.none rfl) rfl rfl ?_
  refine WL.store1 rfl rfl rfl rfl one_47 (by simp [hP]) (.none rfl) rfl ?_
  refine WL.as (L' := .row gL (ptrs hs ++ (.pointer none :: r)) :: (ents 0 hs ++ (enR x hs.length :: (.row gC [.int .i64 now, .slice (some ⟨gL, 0, none⟩) (hs.length + 1) c, .map rm] :: R)))) (by rw [Nat.zero_add, Nat.mul_one, List.set_append_right _ _ (by omega), hP, Nat.sub_self, List.set_cons_zero]) ?_
  refine WL.nil ?_
  refine WE.then_n ?_
  refine WC.seq ?_
  refine WC.region ?_
  refine WL.val (v_move rfl rfl) (.none rfl) rfl rfl ?_
  refine WL.val (v_move rfl rfl) (.none rfl) rfl rfl ?_
  refine WL.val (v_nilCheck rfl rfl) (.none rfl) rfl rfl ?_
  refine WL.val (v_load1 rfl rfl one_44 (cellAt rfl)) (.none rfl) rfl rfl ?_
  refine WL.val (v_move rfl rfl) (.none rfl) rfl rfl ?_
  refine WL.val (v_slice_hi (hi := hs.length) rfl rfl rfl Try.underlying44 sz_47 (by omega) (by omega)) (.none rfl) rfl rfl ?_
  refine WL.val (v_nilCheck rfl rfl) (.none rfl) rfl rfl ?_
  refine WL.store1 rfl rfl rfl rfl one_44 (Nat.le_of_ble_eq_true rfl) (.none rfl) rfl ?_
  refine WL.nil ?_
  refine WE.then_n ?_
  refine WC.seq ?_
  refine WC.region ?_
  refine WL.val (v_move rfl rfl) (.none rfl) rfl rfl ?_
  refine WL.val (v_makeInterface rfl rfl Try.underlying47 rfl) (.none rfl) rfl rfl ?_
  refine WL.val (v_assign rfl rfl) (.none rfl) rfl rfl ?_
  refine WL.nil ?_
  refine WE.then_n ?_
  refine WC.ret ?_
  refine WE.ret1 (P := Try.prog) (.inl rfl) Try.results40 rfl ?_
  refine fun w' h => ⟨rfl, h.perm ?_⟩
  refine List.Perm.cons _ (List.Perm.append_left _ ?_)
  exact List.Perm.swap _ _ _
set_option maxHeartbeats 1000000 in
theorem LPush_c {e : En} {z : Value} (hS : St p w0 w (clkL gC now ad c rm hs E (.row e.g [.int .i64 e.name, .int .i64 e.time, z] :: R))) (hV : Vec 1 ad hs.length c (ptrs hs) E) (hl : hs.length ≤ 300) :
    Calls Try.prog 41 #[.pointer (some ⟨gC, 1, none⟩), .iface enT (ptr e)] w fun e' w' => ∃ gL r c', e' = .returned (.tuple #[]) ∧ hs.length + 1 + r.length = c' ∧ St p w0 w' (hsL gC gL now rm c' (hs ++ [e]) r R) := by
  unfold clkL at hS
  refine enter Try.func41 rfl Try.ntmps41 rfl hS ?_
  refine WC.seq ?_
  refine WC.region ?_
  refine WL.val (v_move rfl rfl) (.none rfl) rfl rfl ?_
  refine WL.val (v_typeAssert rfl rfl Try.underlying47 rfl) (.none rfl) rfl rfl ?_
  refine WL.val (v_assign rfl rfl) (.none rfl) rfl rfl ?_
  refine WL.nil ?_
  refine WE.then_n ?_
  refine WC.seq ?_
  refine WC.region ?_
  refine WL.val (v_move rfl rfl) (.none rfl) rfl rfl ?_
  refine WL.val (v_move rfl rfl) (.none rfl) rfl rfl ?_
  refine WL.val (v_nilCheck rfl rfl) (.none rfl) rfl rfl ?_
  refine WL.val (v_load1 rfl rfl one_44 (cellAt rfl)) (.none rfl) rfl rfl ?_
  refine WL.val (v_len_slice rfl rfl Try.underlying44) (.none rfl) rfl rfl ?_
  refine WL.val (v_nilCheck rfl rfl) (.none rfl) rfl rfl ?_
  refine WL.val (v_fieldAddr0 rfl rfl fld_50_2) (.none rfl) rfl rfl ?_
  refine WL.store1 rfl rfl rfl rfl one_3 (Nat.le_of_ble_eq_true rfl) (.none rfl) rfl ?_
  refine WL.as (L' := E ++ (ents 0 hs ++ (.row gC [.int .i64 now, .slice ad hs.length c, .map rm] :: (enR e hs.length :: R)))) rfl ?_
  refine WL.nil ?_
  refine WE.then_n ?_
  refine WC.region ?_
  refine WL.val (v_move rfl rfl) (.none rfl) rfl rfl ?_
  refine WL.val (v_move rfl rfl) (.none rfl) rfl rfl ?_
  refine WL.val (v_nilCheck rfl rfl) (.none rfl) rfl rfl ?_
  refine WL.val (v_load1 rfl rfl one_44 (cellAt rfl)) (.none rfl) rfl rfl ?_
  refine WL.val (v_move rfl rfl) (.none rfl) rfl rfl ?_
  refine WL.buildSlice rfl rfl Try.underlying44 sz_47 zero_47 rfl (by decide) rfl (.none rfl) rfl rfl ?_
  intro g19 hg19
  refine WL.to (L' := E ++ (.row g19 [ptr e] :: (ents 0 hs ++ (.row gC [.int .i64 now, .slice ad hs.length c, .map rm] :: (enR e hs.length :: R))))) (fun w hS => hS.front [_]) ?_
  refine WL.appendL rfl rfl rfl Try.underlying44 Try.underlying44 sz_47 by_47 zero_47 rfl rfl hV (new := [ptr e]) (fun _ => ⟨g19, 0, rfl, fun w hS => allAt (g := g19) w hS⟩) rfl rfl (by omega) (.none rfl) rfl rfl ?_
  intro ad20 c20 E20 hV20 hr20
  obtain ⟨gL, r, rfl, rfl, hcr⟩ := hV20.cells (by omega)
  refine WL.as (L' := .row gL (ptrs hs ++ [ptr e] ++ r) :: .row g19 [ptr e] :: (ents 0 hs ++ (.row gC [.int .i64 now, .slice ad hs.length c, .map rm] :: (enR e hs.length :: R)))) rfl ?_
  refine WL.val (v_nilCheck rfl rfl) (.none rfl) rfl rfl ?_
  refine WL.store1 rfl rfl rfl rfl one_44 (Nat.le_of_ble_eq_true rfl) (.none rfl) rfl ?_
  refine WL.nil ?_
  refine WE.ret0 (P := Try.prog) (.inr rfl) Try.results41  ?_
  refine fun w' h => ⟨gL, r, c20, rfl, hcr, ?_⟩
  unfold hsL
  rw [ents_last, List.length_append, List.length_singleton, show ptrs (hs ++ [e]) = ptrs hs ++ [ptr e] by simp [ptrs]]
  refine (h.sub (.cons_cons _ (.cons _ (.refl _)))).perm ?_
  refine List.Perm.cons _ (List.Perm.append_left _ ?_)
  exact List.Perm.swap _ _ _
theorem Swap1_c (n c' : Nat) (x : En) (hS : St p w0 w (.row gL (ptr x :: r) :: (enR x 0 :: R))) (hn : 0 < n) :
    Calls Try.prog 39 #[.slice (some ⟨gL, 0, none⟩) n c', .int .i64 0, .int .i64 0] w fun e w' => e = .returned (.tuple #[]) ∧ St p w0 w' (.row gL (ptr x :: r) :: (enR x 0 :: R)) := by
  refine enter Try.func39 rfl Try.ntmps39 rfl hS ?_
  refine WC.seq ?_
  refine WC.orders mixed ?_
  refine WR.first (g := 6) [0, 1, 2, 3, 4, 5, 6, 8, 9, 10] (by kernel_rfl) (by kernel_rfl) ?_
  refine WP.val (v_move rfl rfl) (.none rfl) rfl rfl ?_
  refine WP.val (v_move rfl rfl) (.none rfl) rfl rfl ?_
  refine WP.val (v_move rfl rfl) (.none rfl) rfl rfl ?_
  refine WP.val (v_move rfl rfl) (.none rfl) rfl rfl ?_
  refine WP.val (v_move rfl rfl) (.none rfl) rfl rfl ?_
  refine WP.val (v_move rfl rfl) (.none rfl) rfl rfl ?_
  refine WP.val (v_indexAddr (lo := 0) rfl rfl rfl Try.underlying44 sz_47 (by omega) (by omega)) (.none rfl) rfl rfl ?_
  refine WP.val (v_move rfl rfl) (.none rfl) rfl rfl ?_
  refine WP.val (v_move rfl rfl) (.none rfl) rfl rfl ?_
  refine WP.val (v_indexAddr (lo := 0) rfl rfl rfl Try.underlying44 sz_47 (by omega) (by omega)) (.none rfl) rfl rfl ?_
  refine WP.nil ?_
  refine WR.read (g := 3) [7, 11, 12] (by kernel_rfl) (by kernel_rfl) (by kernel_rfl) (by kernel_rfl) rfl ?_
  refine WQ.val (v_load1 rfl rfl one_47 (cellAt rfl)) (.none rfl) rfl rfl ?_
  refine WQ.val (v_load1 rfl rfl one_47 (cellAt rfl)) (.none rfl) rfl rfl ?_
  refine WQ.val (v_indexAddr (lo := 0) rfl rfl rfl Try.underlying44 sz_47 (by omega) (by omega)) (.none rfl) rfl rfl ?_
  refine WQ.nilR ?_
  refine WR.ones (g := 2) [13] (by kernel_rfl) ?_
  refine WL.store1 rfl rfl rfl rfl one_47 (by simp) (.none rfl) rfl ?_
  refine WL.nilR ?_
  refine WR.first (g := 1) [14] (by kernel_rfl) (by kernel_rfl) ?_
  refine WP.val (v_indexAddr (lo := 0) rfl rfl rfl Try.underlying44 sz_47 (by omega) (by omega)) (.none rfl) rfl rfl ?_
  refine WP.nil ?_
  refine WR.ones (g := 0) [15] (by kernel_rfl) ?_
  refine WL.store1 rfl rfl rfl rfl one_47 (by simp) (.none rfl) rfl ?_
  refine WL.nilR ?_
  refine WR.done (by kernel_rfl) ?_
  refine WE.then_n ?_
  refine WC.seq ?_
  refine WC.region ?_
  refine WL.val (v_move rfl rfl) (.none rfl) rfl rfl ?_
  refine WL.val (v_move rfl rfl) (.none rfl) rfl rfl ?_
  refine WL.val (v_indexAddr (lo := 0) rfl rfl rfl Try.underlying44 sz_47 (by omega) (by omega)) (.none rfl) rfl rfl ?_
  refine WL.val (v_load1 rfl rfl one_47 (cellAt rfl)) (.none rfl) rfl rfl ?_
  refine WL.val (v_move rfl rfl) (.none rfl) rfl rfl ?_
  refine WL.val (v_nilCheck rfl rfl) (.none rfl) rfl rfl ?_
  refine WL.val (v_fieldAddr0 rfl rfl fld_50_2) (.none rfl) rfl rfl ?_
  refine WL.store1 rfl rfl rfl rfl one_3 (Nat.le_of_ble_eq_true rfl) (.none rfl) rfl ?_
  refine WL.nil ?_
  refine WE.then_n ?_
  refine WC.region ?_
  refine WL.val (v_move rfl rfl) (.none rfl) rfl rfl ?_
  refine WL.val (v_move rfl rfl) (.none rfl) rfl rfl ?_
  refine WL.val (v_indexAddr (lo := 0) rfl rfl rfl Try.underlying44 sz_47 (by omega) (by omega)) (.none rfl) rfl rfl ?_
  refine WL.val (v_load1 rfl rfl one_47 (cellAt rfl)) (.none rfl) rfl rfl ?_
  refine WL.val (v_move rfl rfl) (.none rfl) rfl rfl ?_
  refine WL.val (v_nilCheck rfl rfl) (.none rfl) rfl rfl ?_
  refine WL.val (v_fieldAddr0 rfl rfl fld_50_2) (.none rfl) rfl rfl ?_
  refine WL.store1 rfl rfl rfl rfl one_3 (Nat.le_of_ble_eq_true rfl) (.none rfl) rfl ?_
  refine WL.nil ?_
  refine WE.ret0 (P := Try.prog) (.inr rfl) Try.results39  ?_
  exact fun w' h => ⟨rfl, h⟩
theorem UPre.push {hs : List En} {e : En} (h : HeapB hs.length hs) : UPre (hs.length + 1) (hs ++ [e]) hs.length := by
  constructor
  · intro k h0 h1 h2
    rw [el_app (by omega), el_app (by omega)]
    exact h k h0 (by omega)
  · intro k h0 h1 h2 h3
    omega
set_option maxHeartbeats 1000000 in
theorem HPush_c {e : En} {z : Value} (hS : St p w0 w (clkL gC now ad c rm hs E (.row e.g [.int .i64 e.name, .int .i64 e.time, z] :: R))) (hV : Vec 1 ad hs.length c (ptrs hs) E) (hl : hs.length ≤ 290) (hH : HeapB hs.length hs) :
    Calls Try.prog 16 #[lnI gC, .iface enT (ptr e)] w fun e' w' => ∃ gL r c' hs', e' = .returned (.tuple #[]) ∧ hs'.length = hs.length + 1 ∧ hs'.Perm (hs ++ [e]) ∧ HeapB hs'.length hs' ∧ hs'.length + r.length = c' ∧ St p w0 w' (hsL gC gL now rm c' hs' r R) := by
  refine enter Try.func16 rfl Try.ntmps16 rfl hS ?_
  refine WC.seq ?_
  refine WC.region ?_
  refine WL.val (v_move rfl rfl) (.none rfl) rfl rfl ?_
  refine WL.val (v_move rfl rfl) (.none rfl) rfl rfl ?_
  refine WL.invoke rfl rfl rfl (m_Push) ck_41 (.none rfl) rfl rfl ?_
  intro w1 hS
  refine (LPush_c hS hV (by omega)).mono ?_
  rintro e' w' ⟨gL, r, c', rfl, hcr, hS'⟩
  refine ⟨_, _, rfl, hS', ?_⟩
  have hlen : (hs ++ [e]).length = hs.length + 1 := by simp
  refine WL.nil ?_
  refine WE.then_n ?_
  refine WC.region ?_
  refine WL.val (v_move rfl rfl) (.none rfl) rfl rfl ?_
  refine WL.val (v_move rfl rfl) (.none rfl) rfl rfl ?_
  refine WL.invoke rfl rfl rfl (m_Len (g := gC) rfl) ck_37 (.none rfl) rfl rfl ?_
  intro w hS
  refine Calls.then (Len_c w _ _ _) hS ?_
  refine WL.val (v_sub rfl rfl rfl (w_i64 (by omega) (by omega))) (.none rfl) rfl rfl ?_
  refine WL.call rfl rfl ck_20 (.none rfl) rfl rfl ?_
  intro w1 hS
  rw [show (((hs ++ [e]).length : Nat) : Int) - 1 = ((hs.length : Nat) : Int) by omega]
  refine (up_c hS (m := hs.length + 1) (by omega) (by omega) (by omega) (UPre.push hH)).mono ?_
  rintro e' w' ⟨hs', rfl, k1, k2, k3, k4, hS'⟩
  refine ⟨_, _, rfl, hS', ?_⟩
  refine WL.nil ?_
  refine WE.ret0 (P := Try.prog) (.inr rfl) Try.results16  ?_
  exact fun w' h => ⟨gL, r, c', hs', rfl, by omega, k2, by rw [k1, hlen]; exact k4, by omega, h⟩
theorem DPre.of_heap {n i : Nat} {hs : List En} (h : HeapB n hs) : DPre n hs i := by
  constructor
  · intro k h0 h1 h2 h3; exact h k h0 h1
  · intro k h0 h1 h2 h3
    have a := h k h0 h1
    have b := h i h3 (by omega)
    rw [h2] at a
    exact nlt_trans a b
/-- One entry's time is another. -/
theorem DPre.set {n i : Nat} {hs hs' : List En} (h : HeapB n hs) (he : ∀ k, k ≠ i → el hs' k = el hs k) : DPre n hs' i := by
  have h' := DPre.of_heap (i := i) h
  constructor
  · intro k h0 h1 h2 h3
    rw [he k h3, he _ h2]; exact h k h0 h1
  · intro k h0 h1 h2 h3
    rw [he k (by omega), he _ (by omega)]
    exact h'.kid k h0 h1 h2 h3
theorem HeapB.swap {n i : Nat} {hs : List En} (h : HeapB (n + 1) hs) (hl : hs.length = n + 1) (hi : i < n) : DPre n (swp hs i n) i := by
  have e : ∀ k, k < n → k ≠ i → el (swp hs i n) k = el hs k := fun k h1 h2 => by rw [el_swp (by omega) (by omega), if_neg (by omega), if_neg h2]
  have h' := DPre.of_heap (i := i) h
  constructor
  · intro k h0 h1 h2 h3
    rw [e k h1 h3, e _ (by omega) h2]; exact h k h0 (by omega)
  · intro k h0 h1 h2 h3
    rw [e k h1 (by omega), e _ (by omega) (by omega)]
    exact h'.kid k h0 (by omega) h2 h3
set_option maxHeartbeats 1000000 in
theorem HFix_c {i : Nat} (hS : St p w0 w (hsL gC gL now rm c hs r R)) (hi : i < hs.length) (hl : hs.length ≤ 300) (hD : DPre hs.length hs i) :
    Calls Try.prog 15 #[lnI gC, .int .i64 i] w fun e' w' => ∃ hs', e' = .returned (.tuple #[]) ∧ hs'.length = hs.length ∧ hs'.Perm hs ∧ HeapB hs'.length hs' ∧ St p w0 w' (hsL gC gL now rm c hs' r R) := by
  refine enter Try.func15 rfl Try.ntmps15 rfl hS ?_
  refine WC.seq ?_
  refine WC.region ?_
  refine WL.val (v_move rfl rfl) (.none rfl) rfl rfl ?_
  refine WL.val (v_move rfl rfl) (.none rfl) rfl rfl ?_
  refine WL.val (v_move rfl rfl) (.none rfl) rfl rfl ?_
  refine WL.invoke rfl rfl rfl (m_Len (g := gC) rfl) ck_37 (.none rfl) rfl rfl ?_
  intro w hS
  refine Calls.then (Len_c w _ _ _) hS ?_
  refine WL.call rfl rfl ck_19 (.none rfl) rfl rfl ?_
  intro w1 hS
  refine (down_c hS (m := hs.length) (by omega) (by omega) (by omega) hD).mono ?_
  rintro e' w' ⟨h2, b, rfl, k1, k2, k3, k4, k5, hS'⟩
  refine ⟨_, _, rfl, hS', ?_⟩
  cases b
  · -- 8F
    refine WL.val (v_not rfl rfl rfl) (.none rfl) rfl rfl ?_
    refine WL.nil ?_
    refine WE.then_n ?_
    refine WC.cond_t rfl ?_
    refine WC.region ?_
    refine WL.val (v_move rfl rfl) (.none rfl) rfl rfl ?_
    refine WL.val (v_move rfl rfl) (.none rfl) rfl rfl ?_
    refine WL.call rfl rfl ck_20 (.none rfl) rfl rfl ?_
    intro w1 hS
    obtain ⟨e2, hU⟩ := k5 rfl
    rw [e2] at hS
    refine (up_c hS (m := hs.length) (by omega) (by omega) (by omega) hU).mono ?_
    rintro e' w' ⟨h3, rfl, q1, q2, q3, q4, hS'⟩
    refine ⟨_, _, rfl, hS', ?_⟩
    refine WL.nil ?_
    refine WE.ret0 (P := Try.prog) (.inr rfl) Try.results15  ?_
    exact fun w' h => ⟨h3, rfl, q1, q2, by rw [q1]; exact q4, h⟩
  · -- 8T
    refine WL.val (v_not rfl rfl rfl) (.none rfl) rfl rfl ?_
    refine WL.nil ?_
    refine WE.then_n ?_
    refine WC.cond_f rfl ?_
    refine WC.skip ?_
    refine WE.ret0 (P := Try.prog) (.inr rfl) Try.results15  ?_
    exact fun w' h => ⟨h2, rfl, k1, k2, by rw [k1]; exact k4 rfl, h⟩
set_option maxHeartbeats 1000000 in
theorem HPop_c {n : Nat} (hS : St p w0 w (hsL gC gL now rm c hs r R)) (hn : hs.length = n + 1) (hl : hs.length ≤ 300) (hc : hs.length ≤ c) (hH : HeapB hs.length hs) :
    Calls Try.prog 17 #[lnI gC] w fun e' w' => ∃ hs', e' = .returned (.iface enT (ptr (el hs 0))) ∧ hs'.length = n ∧ (hs' ++ [el hs 0]).Perm hs ∧ HeapB hs'.length hs' ∧ St p w0 w' (hsL gC gL now rm c hs' (.pointer none :: r) (enR (el hs 0) n :: R)) := by
  cases n with
  | zero =>
    obtain ⟨x, rfl⟩ : ∃ x, hs = [x] := by
      match hs, hn with
      | [x], _ => exact ⟨x, rfl⟩
    have e0 : el [x] 0 = x := rfl
    refine enter Try.func17 rfl Try.ntmps17 rfl hS ?_
    refine WC.seq ?_
    refine WC.region ?_
    refine WL.val (v_assign rfl rfl) (.none rfl) rfl rfl ?_
    refine WL.nil ?_
    refine WE.then_n ?_
    refine WC.seq ?_
    refine WC.region ?_
    refine WL.val (v_move rfl rfl) (.none rfl) rfl rfl ?_
    refine WL.invoke rfl rfl rfl (m_Len (g := gC) rfl) ck_37 (.none rfl) rfl rfl ?_
    intro w hS
    refine Calls.then (Len_c w _ _ _) hS ?_
    refine WL.val (v_sub rfl rfl rfl (w_i64 (by omega) (by omega))) (.none rfl) rfl rfl ?_
    refine WL.val (v_assign rfl rfl) (.none rfl) rfl rfl ?_
    refine WL.nil ?_
    refine WE.then_n ?_
    refine WC.seq ?_
    refine WC.region ?_
    refine WL.val (v_move rfl rfl) (.none rfl) rfl rfl ?_
    refine WL.val (v_move rfl rfl) (.none rfl) rfl rfl ?_
    refine WL.invoke rfl rfl rfl (m_Swap (g := gC) rfl) ck_39 (.none rfl) rfl rfl ?_
    intro w hS
    refine Calls.thenS (Swap1_c _ _ x hS (by simp)) ?_
    refine WL.as (L' := hsL gC gL now rm c [x] r R) rfl ?_
    refine WL.nil ?_
    refine WE.then_n ?_
    refine WC.seq ?_
    refine WC.region ?_
    refine WL.val (v_move rfl rfl) (.none rfl) rfl rfl ?_
    refine WL.val (v_move rfl rfl) (.none rfl) rfl rfl ?_
    refine WL.call rfl rfl ck_19 (.none rfl) rfl rfl ?_
    intro w1 hS
    refine (down_c hS (i0 := 0) (m := 0) (by omega) (by omega) (by omega) ⟨fun k h0 h1 => absurd h1 (by omega), fun k h0 h1 => absurd h1 (by omega)⟩).mono ?_
    rintro e' w' ⟨h2, b, rfl, k1, k2, k3, k4, k5, hS'⟩
    refine ⟨_, _, rfl, hS', ?_⟩
    refine WL.nil ?_
    refine WE.then_n ?_
    refine WC.seq ?_
    refine WC.region ?_
    refine WL.val (v_move rfl rfl) (.none rfl) rfl rfl ?_
    refine WL.invoke rfl rfl rfl (m_Pop) ck_40 (.none rfl) rfl rfl ?_
    intro w1 hS
    obtain ⟨y, rfl⟩ : ∃ y, h2 = [y] := (by
      match h2, k1 with
      | [y], _ => exact ⟨y, rfl⟩)
    have hy : y = x := by simpa using k2
    rw [hy] at hS
    refine (LPop_c (hs := []) (x := x) hS (by simp) (by simp)).mono ?_
    rintro e' w' ⟨rfl, hS'⟩
    refine ⟨_, _, rfl, hS', ?_⟩
    refine WL.val (v_assign rfl rfl) (.none rfl) rfl rfl ?_
    refine WL.nil ?_
    refine WE.then_n ?_
    refine WC.ret ?_
    refine WE.ret1 (P := Try.prog) (.inl rfl) Try.results17 rfl ?_
    exact fun w' h => ⟨[], rfl, rfl, by simp [e0], fun k h0 h1 => absurd h1 (by simp), h⟩
  | succ n =>
    refine enter Try.func17 rfl Try.ntmps17 rfl hS ?_
    have hls := swp_len hs 0 (n + 1)
    refine WC.seq ?_
    refine WC.region ?_
    refine WL.val (v_assign rfl rfl) (.none rfl) rfl rfl ?_
    refine WL.nil ?_
    refine WE.then_n ?_
    refine WC.seq ?_
    refine WC.region ?_
    refine WL.val (v_move rfl rfl) (.none rfl) rfl rfl ?_
    refine WL.invoke rfl rfl rfl (m_Len (g := gC) rfl) ck_37 (.none rfl) rfl rfl ?_
    intro w hS
    refine Calls.then (Len_c w _ _ _) hS ?_
    refine WL.val (v_sub rfl rfl rfl ((by rw [hn, show ((n + 1 + 1 : Nat) : Int) - 1 = ((n + 1 : Nat) : Int) by omega]; exact w_i64 (by omega) (by omega) : _ = ((n + 1 : Nat) : Int)))) (.none rfl) rfl rfl ?_
    refine WL.val (v_assign rfl rfl) (.none rfl) rfl rfl ?_
    refine WL.nil ?_
    refine WE.then_n ?_
    refine WC.seq ?_
    refine WC.region ?_
    refine WL.val (v_move rfl rfl) (.none rfl) rfl rfl ?_
    refine WL.val (v_move rfl rfl) (.none rfl) rfl rfl ?_
    refine WL.invoke rfl rfl rfl (m_Swap (g := gC) rfl) ck_39 (.none rfl) rfl rfl ?_
    intro w hS
    refine Calls.thenS (Swap_h (i := 0) (j := n + 1) (by omega) (by omega) hS) ?_
    refine WL.nil ?_
    refine WE.then_n ?_
    refine WC.seq ?_
    refine WC.region ?_
    refine WL.val (v_move rfl rfl) (.none rfl) rfl rfl ?_
    refine WL.val (v_move rfl rfl) (.none rfl) rfl rfl ?_
    refine WL.call rfl rfl ck_19 (.none rfl) rfl rfl ?_
    intro w1 hS
    refine (down_c hS (i0 := 0) (m := n + 1) (by omega) (by omega) (by omega) (HeapB.swap (by rw [← hn]; exact hH) hn (by omega))).mono ?_
    rintro e' w' ⟨h2, b, rfl, k1, k2, k3, k4, k5, hS'⟩
    refine ⟨_, _, rfl, hS', ?_⟩
    refine WL.nil ?_
    refine WE.then_n ?_
    refine WC.seq ?_
    refine WC.region ?_
    refine WL.val (v_move rfl rfl) (.none rfl) rfl rfl ?_
    refine WL.invoke rfl rfl rfl (m_Pop) ck_40 (.none rfl) rfl rfl ?_
    intro w1 hS
    have hl2 : h2.length = n + 1 + 1 := by omega
    have hx : el h2 (n + 1) = el hs 0 := by rw [k3 _ (Nat.le_refl _), el_swp (by omega) (by omega), if_pos rfl]
    have ht : (h2.take (n + 1)).length = n + 1 := by rw [List.length_take]; omega
    have hh := take_last hl2
    rw [hx] at hh
    have hB : HeapB (n + 1) h2 := by
      cases b with
      | true => exact k4 rfl
      | false =>
        obtain ⟨e2, hU⟩ := k5 rfl
        rw [e2]; exact hU.fin (.inl rfl)
    rw [hh] at hS
    refine (LPop_c hS (by omega) (by omega)).mono ?_
    rintro e' w' ⟨rfl, hS'⟩
    refine ⟨_, _, rfl, hS', ?_⟩
    refine WL.val (v_assign rfl rfl) (.none rfl) rfl rfl ?_
    refine WL.nil ?_
    refine WE.then_n ?_
    refine WC.ret ?_
    refine WE.ret1 (P := Try.prog) (.inl rfl) Try.results17 rfl ?_
    refine fun w' h => ⟨h2.take (n + 1), rfl, ht, ?_, by rw [ht]; exact hB.take, by rw [ht] at h; exact h⟩
    rw [← hh]; exact k2.trans (swp_perm (by omega) (by omega))
set_option maxHeartbeats 1000000 in
theorem HRemove_c {n i : Nat} (hS : St p w0 w (hsL gC gL now rm c hs r R)) (hn : hs.length = n + 1) (hi : i ≤ n) (hl : hs.length ≤ 300) (hc : hs.length ≤ c) (hH : HeapB hs.length hs) :
    Calls Try.prog 18 #[lnI gC, .int .i64 i] w fun e' w' => ∃ hs', e' = .returned (.iface enT (ptr (el hs i))) ∧ hs'.length = n ∧ (hs' ++ [el hs i]).Perm hs ∧ HeapB hs'.length hs' ∧ St p w0 w' (hsL gC gL now rm c hs' (.pointer none :: r) (enR (el hs i) n :: R)) := by
  refine enter Try.func18 rfl Try.ntmps18 rfl hS ?_
  have hls := swp_len hs i n
  have hH' : HeapB (n + 1) hs := by rw [← hn]; exact hH
  refine WC.seq ?_
  refine WC.region ?_
  refine WL.val (v_assign rfl rfl) (.none rfl) rfl rfl ?_
  refine WL.nil ?_
  refine WE.then_n ?_
  refine WC.seq ?_
  refine WC.region ?_
  refine WL.val (v_move rfl rfl) (.none rfl) rfl rfl ?_
  refine WL.invoke rfl rfl rfl (m_Len (g := gC) rfl) ck_37 (.none rfl) rfl rfl ?_
  intro w hS
  refine Calls.then (Len_c w _ _ _) hS ?_
  refine WL.val (v_sub rfl rfl rfl ((by rw [hn, show ((n + 1 : Nat) : Int) - 1 = (n : Int) by omega]; exact w_i64 (by omega) (by omega) : _ = (n : Int)))) (.none rfl) rfl rfl ?_
  refine WL.val (v_assign rfl rfl) (.none rfl) rfl rfl ?_
  refine WL.nil ?_
  refine WE.then_n ?_
  refine WC.seq ?_
  refine WC.seq ?_
  refine WC.region ?_
  refine WL.val (v_move rfl rfl) (.none rfl) rfl rfl ?_
  refine WL.val (v_move rfl rfl) (.none rfl) rfl rfl ?_
  refine WL.test (v_neq rfl rfl rfl) (.none rfl) rfl rfl (fun h11 => ?_) (fun h11 => ?_)
  · -- 11T
    refine WL.nil ?_
    refine WE.then_n ?_
    refine WC.cond_t rfl ?_
    refine WC.seq ?_
    refine WC.region ?_
    refine WL.val (v_move rfl rfl) (.none rfl) rfl rfl ?_
    refine WL.val (v_move rfl rfl) (.none rfl) rfl rfl ?_
    refine WL.val (v_move rfl rfl) (.none rfl) rfl rfl ?_
    refine WL.invoke rfl rfl rfl (m_Swap (g := gC) rfl) ck_39 (.none rfl) rfl rfl ?_
    intro w hS
    refine Calls.thenS (Swap_h (i := i) (j := n) (by omega) (by omega) hS) ?_
    refine WL.nil ?_
    refine WE.then_n ?_
    refine WC.seq ?_
    refine WC.region ?_
    refine WL.val (v_move rfl rfl) (.none rfl) rfl rfl ?_
    refine WL.val (v_move rfl rfl) (.none rfl) rfl rfl ?_
    refine WL.val (v_move rfl rfl) (.none rfl) rfl rfl ?_
    refine WL.call rfl rfl ck_19 (.none rfl) rfl rfl ?_
    intro w1 hS
    refine (down_c hS (i0 := i) (m := n) (by omega) (by omega) (by omega) (HeapB.swap hH' hn (by omega))).mono ?_
    rintro e' w' ⟨h2, b, rfl, k1, k2, k3, k4, k5, hS'⟩
    refine ⟨_, _, rfl, hS', ?_⟩
    cases b
    · -- 19F
      refine WL.val (v_not rfl rfl rfl) (.none rfl) rfl rfl ?_
      refine WL.nil ?_
      refine WE.then_n ?_
      refine WC.cond_t rfl ?_
      refine WC.region ?_
      refine WL.val (v_move rfl rfl) (.none rfl) rfl rfl ?_
      refine WL.val (v_move rfl rfl) (.none rfl) rfl rfl ?_
      refine WL.call rfl rfl ck_20 (.none rfl) rfl rfl ?_
      intro w1 hS
      obtain ⟨e2, hU⟩ := k5 rfl
      refine (up_c hS (m := n) (by omega) (by omega) (by omega) (by rw [e2]; exact hU)).mono ?_
      rintro e' w' ⟨h3, rfl, q1, q2, q3, q4, hS'⟩
      refine ⟨_, _, rfl, hS', ?_⟩
      refine WL.nil ?_
      refine WE.then_n ?_
      refine WC.seq ?_
      refine WC.region ?_
      refine WL.val (v_move rfl rfl) (.none rfl) rfl rfl ?_
      refine WL.invoke rfl rfl rfl (m_Pop) ck_40 (.none rfl) rfl rfl ?_
      intro w1 hS
      have hl2 : h3.length = n + 1 := (by omega)
      have ht : (h3.take n).length = n := (by rw [List.length_take]; omega)
      have hx : el h3 n = el hs i := (by rw [q3 _ (Nat.le_refl _), k3 _ (Nat.le_refl _), el_swp (by omega) (by omega), if_pos rfl])
      have hh := take_last hl2
      rw [hx] at hh
      rw [hh] at hS
      refine (LPop_c hS (by omega) (by omega)).mono ?_
      rintro e' w' ⟨rfl, hS'⟩
      refine ⟨_, _, rfl, hS', ?_⟩
      refine WL.val (v_assign rfl rfl) (.none rfl) rfl rfl ?_
      refine WL.nil ?_
      refine WE.then_n ?_
      refine WC.ret ?_
      refine WE.ret1 (P := Try.prog) (.inl rfl) Try.results18 rfl ?_
      refine fun w' h => ⟨h3.take n, rfl, ht, ?_, by rw [ht]; exact q4.take, by rw [ht] at h; exact h⟩
      rw [← hh]; exact q2.trans (k2.trans (swp_perm (by omega) (by omega)))
    · -- 19T
      refine WL.val (v_not rfl rfl rfl) (.none rfl) rfl rfl ?_
      refine WL.nil ?_
      refine WE.then_n ?_
      refine WC.cond_f rfl ?_
      refine WC.skip ?_
      refine WE.then_n ?_
      refine WC.seq ?_
      refine WC.region ?_
      refine WL.val (v_move rfl rfl) (.none rfl) rfl rfl ?_
      refine WL.invoke rfl rfl rfl (m_Pop) ck_40 (.none rfl) rfl rfl ?_
      intro w1 hS
      have hl2 : h2.length = n + 1 := (by omega)
      have ht : (h2.take n).length = n := (by rw [List.length_take]; omega)
      have hx : el h2 n = el hs i := (by rw [k3 _ (Nat.le_refl _), el_swp (by omega) (by omega), if_pos rfl])
      have hh := take_last hl2
      rw [hx] at hh
      rw [hh] at hS
      refine (LPop_c hS (by omega) (by omega)).mono ?_
      rintro e' w' ⟨rfl, hS'⟩
      refine ⟨_, _, rfl, hS', ?_⟩
      refine WL.val (v_assign rfl rfl) (.none rfl) rfl rfl ?_
      refine WL.nil ?_
      refine WE.then_n ?_
      refine WC.ret ?_
      refine WE.ret1 (P := Try.prog) (.inl rfl) Try.results18 rfl ?_
      refine fun w' h => ⟨h2.take n, rfl, ht, ?_, by rw [ht]; exact (k4 rfl).take, by rw [ht] at h; exact h⟩
      rw [← hh]; exact k2.trans (swp_perm (by omega) (by omega))
  · -- 11F
    refine WL.nil ?_
    refine WE.then_n ?_
    refine WC.cond_f rfl ?_
    refine WC.skip ?_
    refine WE.then_n ?_
    refine WC.seq ?_
    refine WC.region ?_
    refine WL.val (v_move rfl rfl) (.none rfl) rfl rfl ?_
    refine WL.invoke rfl rfl rfl (m_Pop) ck_40 (.none rfl) rfl rfl ?_
    intro w1 hS
    have ht : (hs.take n).length = n := (by rw [List.length_take]; omega)
    have hh := take_last hn
    have hin : i = n := (by omega)
    rw [hh] at hS
    refine (LPop_c hS (by omega) (by omega)).mono ?_
    rintro e' w' ⟨rfl, hS'⟩
    refine ⟨_, _, rfl, hS', ?_⟩
    refine WL.val (v_assign rfl rfl) (.none rfl) rfl rfl ?_
    refine WL.nil ?_
    refine WE.then_n ?_
    refine WC.ret ?_
    refine WE.ret1 (P := Try.prog) (.inl rfl) Try.results18 rfl ?_
    refine fun w' h => ⟨hs.take n, by rw [hin], ht, by rw [hin, ← hh], by rw [ht]; exact HeapB.take (fun k h0 h1 => hH' k h0 (by omega)), by rw [ht] at h; rw [hin]; exact h⟩
end
end Go.Proofs.Ytaoipmdddagngaa
