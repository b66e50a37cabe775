/- The clock's line: entries in memory, order, swaps; the methods of line. -/
import Derived.Test.YtaoipmdddagngaaInv
namespace Go.Proofs.Ytaoipmdddagngaa
open Go.RowKit

/-- An entry: its block, its name, its time. -/
structure En where
  g : Nat
  name : Int
  time : Int
instance : Inhabited En := ⟨⟨0, 0, 0⟩⟩
def enL (e : En) (i : Nat) : List Value := [.int .i64 e.name, .int .i64 e.time, .int .i64 i]
abbrev enR (e : En) (i : Nat) : Ent := .row e.g (enL e i)
def ents : Nat → List En → List Ent
  | _, [] => []
  | k, e :: es => enR e k :: ents (k + 1) es
def ptr (e : En) : Value := .pointer (some ⟨e.g, 0, none⟩)
def ptrs (hs : List En) : List Value := hs.map ptr
theorem ents_append : ∀ (A B : List En) (k : Nat), ents k (A ++ B) = ents k A ++ ents (k + A.length) B
  | [], B, k => by simp [ents]
  | a :: A, B, k => by
    simp only [List.cons_append, ents, List.length_cons]
    rw [ents_append A B (k + 1), show k + 1 + A.length = k + (A.length + 1) by omega]
theorem ents_get : ∀ (hs : List En) (k i : Nat) (e : En), hs[i]? = some e → enR e (k + i) ∈ ents k hs
  | [], k, i, e, h => by simp at h
  | a :: hs, k, 0, e, h => by
    have : a = e := by simpa using h
    subst this; exact List.mem_cons_self ..
  | a :: hs, k, i + 1, e, h => by
    have := ents_get hs (k + 1) i e (by simpa using h)
    rw [show k + 1 + i = k + (i + 1) by omega] at this
    exact List.mem_cons_of_mem _ this
def el (hs : List En) (i : Nat) : En := hs.getD i default
theorem el_get {hs : List En} {i : Nat} (h : i < hs.length) : hs[i]? = some (el hs i) := by simp [el, h]
theorem ptrs_get {hs : List En} {i : Nat} (h : i < hs.length) {r : List Value} : (ptrs hs ++ r)[i]? = some (ptr (el hs i)) := by
  rw [List.getElem?_append_left (by simpa [ptrs] using h)]
  unfold ptrs
  rw [List.getElem?_map, el_get h]; rfl
/-- What comes first. -/
def lt (a b : En) : Prop := a.time < b.time ∨ (a.time = b.time ∧ a.name < b.name)
instance (a b : En) : Decidable (lt a b) := by unfold lt; infer_instance

theorem Less_c (w : World) (gL n c i j : Nat) (cs : List Value) (a b : En) (pa pb : Nat) (hL : Row w gL cs) (hi : i < n) (hj : j < n) (ci : cs[i]? = some (ptr a)) (cj : cs[j]? = some (ptr b)) (ha : Row w a.g (enL a pa)) (hb : Row w b.g (enL b pb)) :
    Calls Try.prog 38 #[.slice (some ⟨gL, 0, none⟩) n c, .int .i64 i, .int .i64 j] w fun e w' => e = .returned (.bool (decide (lt a b))) ∧ Frm (fun _ => False) w w' := by
  have a0 : w.cell? ⟨a.g, 0, none⟩ = some (.int .i64 a.name) := ha.cell rfl
  have a1 : w.cell? ⟨a.g, 1, none⟩ = some (.int .i64 a.time) := ha.cell rfl
  have b0 : w.cell? ⟨b.g, 0, none⟩ = some (.int .i64 b.name) := hb.cell rfl
  have b1 : w.cell? ⟨b.g, 1, none⟩ = some (.int .i64 b.time) := hb.cell rfl
  have li : w.cell? ⟨gL, 0 + i * 1, none⟩ = some (ptr a) := by rw [Nat.zero_add, Nat.mul_one]; exact hL.cell ci
  have lj : w.cell? ⟨gL, 0 + j * 1, none⟩ = some (ptr b) := by rw [Nat.zero_add, Nat.mul_one]; exact hL.cell cj
  refine enter Try.func38 rfl Try.ntmps38 rfl (St.start (fun _ => False) w) ?_
  refine WC.seq ?_
  refine WC.region ?_
  refine WL.val (v_assign rfl rfl) (.none rfl) rfl rfl ?_
  refine WL.nil ?_
  refine WE.then_n ?_
  refine WC.seq ?_
  refine WC.seq ?_
  refine WC.quiet mixed (by kernel_rfl) ?_
  refine WQ.val (v_move rfl rfl) (.none rfl) rfl rfl ?_
  refine WQ.val (v_move rfl rfl) (.none rfl) rfl rfl ?_
  refine WQ.val (v_indexAddr (lo := i) rfl rfl rfl Try.underlying44 sz_47 (by omega) (by omega)) (.none rfl) rfl rfl ?_
  refine WQ.val (v_load1 rfl rfl one_47 (cellOld (fun h => h) li)) (.none rfl) rfl rfl ?_
  refine WQ.val (v_nilCheck rfl rfl) (.none rfl) rfl rfl ?_
  refine WQ.val (v_fieldAddr0 rfl rfl fld_50_1) (.none rfl) rfl rfl ?_
  refine WQ.val (v_load1 rfl rfl one_3 (cellOld (fun h => h) a1)) (.none rfl) rfl rfl ?_
  refine WQ.val (v_move rfl rfl) (.none rfl) rfl rfl ?_
  refine WQ.val (v_move rfl rfl) (.none rfl) rfl rfl ?_
  refine WQ.val (v_indexAddr (lo := j) rfl rfl rfl Try.underlying44 sz_47 (by omega) (by omega)) (.none rfl) rfl rfl ?_
  refine WQ.val (v_load1 rfl rfl one_47 (cellOld (fun h => h) lj)) (.none rfl) rfl rfl ?_
  refine WQ.val (v_nilCheck rfl rfl) (.none rfl) rfl rfl ?_
  refine WQ.val (v_fieldAddr0 rfl rfl fld_50_1) (.none rfl) rfl rfl ?_
  refine WQ.val (v_load1 rfl rfl one_3 (cellOld (fun h => h) b1)) (.none rfl) rfl rfl ?_
  refine WQ.test (v_neq rfl rfl rfl) (.none rfl) rfl rfl (fun h21 => ?_) (fun h21 => ?_)
  · -- 21T
    refine WQ.nil ?_
    refine WE.then_n ?_
    refine WC.cond_t rfl ?_
    refine WC.seq ?_
    refine WC.quiet mixed (by kernel_rfl) ?_
    refine WQ.val (v_move rfl rfl) (.none rfl) rfl rfl ?_
    refine WQ.val (v_move rfl rfl) (.none rfl) rfl rfl ?_
    refine WQ.val (v_indexAddr (lo := i) rfl rfl rfl Try.underlying44 sz_47 (by omega) (by omega)) (.none rfl) rfl rfl ?_
    refine WQ.val (v_load1 rfl rfl one_47 (cellOld (fun h => h) li)) (.none rfl) rfl rfl ?_
    refine WQ.val (v_nilCheck rfl rfl) (.none rfl) rfl rfl ?_
    refine WQ.val (v_fieldAddr0 rfl rfl fld_50_1) (.none rfl) rfl rfl ?_
    refine WQ.val (v_load1 rfl rfl one_3 (cellOld (fun h => h) a1)) (.none rfl) rfl rfl ?_
    refine WQ.val (v_move rfl rfl) (.none rfl) rfl rfl ?_
    refine WQ.val (v_move rfl rfl) (.none rfl) rfl rfl ?_
    refine WQ.val (v_indexAddr (lo := j) rfl rfl rfl Try.underlying44 sz_47 (by omega) (by omega)) (.none rfl) rfl rfl ?_
    refine WQ.val (v_load1 rfl rfl one_47 (cellOld (fun h => h) lj)) (.none rfl) rfl rfl ?_
    refine WQ.val (v_nilCheck rfl rfl) (.none rfl) rfl rfl ?_
    refine WQ.val (v_fieldAddr0 rfl rfl fld_50_1) (.none rfl) rfl rfl ?_
    refine WQ.val (v_load1 rfl rfl one_3 (cellOld (fun h => h) b1)) (.none rfl) rfl rfl ?_
    refine WQ.val (v_lss rfl rfl rfl) (.none rfl) rfl rfl ?_
    refine WQ.val (v_assign rfl rfl) (.none rfl) rfl rfl ?_
    refine WQ.nil ?_
    refine WE.then_n ?_
    refine WC.ret ?_
    refine WE.then_ret ?_
    refine WE.ret1 (P := Try.prog) (.inl rfl) Try.results38 rfl ?_
    refine fun w' h => ⟨?_, h.frm⟩
    have e : decide (a.time < b.time) = decide (lt a b) := by congr 1; unfold lt; simp; omega
    rw [e]
  · -- 21F
    refine WQ.nil ?_
    refine WE.then_n ?_
    refine WC.cond_f rfl ?_
    refine WC.skip ?_
    refine WE.then_n ?_
    refine WC.seq ?_
    refine WC.quiet mixed (by kernel_rfl) ?_
    refine WQ.val (v_move rfl rfl) (.none rfl) rfl rfl ?_
    refine WQ.val (v_move rfl rfl) (.none rfl) rfl rfl ?_
    refine WQ.val (v_indexAddr (lo := i) rfl rfl rfl Try.underlying44 sz_47 (by omega) (by omega)) (.none rfl) rfl rfl ?_
    refine WQ.val (v_load1 rfl rfl one_47 (cellOld (fun h => h) li)) (.none rfl) rfl rfl ?_
    refine WQ.val (v_nilCheck rfl rfl) (.none rfl) rfl rfl ?_
    refine WQ.val (v_fieldAddr0 rfl rfl fld_50_0) (.none rfl) rfl rfl ?_
    refine WQ.val (v_load1 rfl rfl one_3 (cellOld (fun h => h) a0)) (.none rfl) rfl rfl ?_
    refine WQ.val (v_move rfl rfl) (.none rfl) rfl rfl ?_
    refine WQ.val (v_move rfl rfl) (.none rfl) rfl rfl ?_
    refine WQ.val (v_indexAddr (lo := j) rfl rfl rfl Try.underlying44 sz_47 (by omega) (by omega)) (.none rfl) rfl rfl ?_
    refine WQ.val (v_load1 rfl rfl one_47 (cellOld (fun h => h) lj)) (.none rfl) rfl rfl ?_
    refine WQ.val (v_nilCheck rfl rfl) (.none rfl) rfl rfl ?_
    refine WQ.val (v_fieldAddr0 rfl rfl fld_50_0) (.none rfl) rfl rfl ?_
    refine WQ.val (v_load1 rfl rfl one_3 (cellOld (fun h => h) b0)) (.none rfl) rfl rfl ?_
    refine WQ.val (v_lss rfl rfl rfl) (.none rfl) rfl rfl ?_
    refine WQ.val (v_assign rfl rfl) (.none rfl) rfl rfl ?_
    refine WQ.nil ?_
    refine WE.then_n ?_
    refine WC.ret ?_
    refine WE.ret1 (P := Try.prog) (.inl rfl) Try.results38 rfl ?_
    refine fun w' h => ⟨?_, h.frm⟩
    have e : decide (a.name < b.name) = decide (lt a b) := by congr 1; unfold lt; simp; omega
    rw [e]
theorem perm_mid {α : Type} (t : α) (A : List α) (a : α) (B : List α) (b : α) (R : List α) : (t :: (A ++ (a :: (B ++ (b :: R))))).Perm (t :: (A ++ (b :: (B ++ (a :: R))))) := by
  refine List.Perm.cons _ (List.Perm.append_left _ ?_)
  refine (List.Perm.cons a List.perm_middle).trans ?_
  refine (List.Perm.swap b a _).trans ?_
  exact List.Perm.cons b List.perm_middle.symm
theorem set_mid {α : Type} (A : List α) (a : α) (B : List α) (b : α) (R : List α) (u v : α) {i j : Nat} (hi : i = A.length) (hj : j = A.length + 1 + B.length) : ((A ++ (a :: (B ++ (b :: R)))).set i u).set j v = A ++ (u :: (B ++ (v :: R))) := by
  subst hi hj
  rw [List.set_append_right _ _ (Nat.le_refl _), Nat.sub_self, List.set_cons_zero, List.set_append_right _ _ (by omega), show A.length + 1 + B.length - A.length = B.length + 1 by omega, List.set_cons_succ, List.set_append_right _ _ (Nat.le_refl _), Nat.sub_self, List.set_cons_zero]
theorem get_mid1 {α : Type} (A : List α) (a : α) (R : List α) {i : Nat} (hi : i = A.length) : (A ++ (a :: R))[i]? = some a := by
  subst hi; rw [List.getElem?_append_right (Nat.le_refl _), Nat.sub_self]; rfl
theorem get_mid2 {α : Type} (A : List α) (a : α) (B : List α) (b : α) (R : List α) {j : Nat} (hj : j = A.length + 1 + B.length) : (A ++ (a :: (B ++ (b :: R))))[j]? = some b := by
  subst hj; rw [List.getElem?_append_right (by omega), show A.length + 1 + B.length - A.length = B.length + 1 by omega, List.getElem?_cons_succ, List.getElem?_append_right (Nat.le_refl _), Nat.sub_self]; rfl
theorem ptrs_mid (A : List En) (x : En) (B : List En) (y : En) (C : List En) (r : List Value) : ptrs (A ++ (x :: (B ++ (y :: C)))) ++ r = ptrs A ++ (ptr x :: (ptrs B ++ (ptr y :: (ptrs C ++ r)))) := by
  unfold ptrs; simp
theorem ents_mid (A : List En) (x : En) (B : List En) (y : En) (C : List En) (L : List Ent) : ents 0 (A ++ (x :: (B ++ (y :: C)))) ++ L = ents 0 A ++ (enR x A.length :: (ents (A.length + 1) B ++ (enR y (A.length + 1 + B.length) :: (ents (A.length + 1 + B.length + 1) C ++ L)))) := by
  rw [ents_append]
  simp only [ents, ents_append, Nat.zero_add, List.append_assoc, List.cons_append]
set_option maxHeartbeats 1000000 in
theorem Swap_f (p : Nat → Prop) (w0 w : World) (R : List Ent) (gL n c : Nat) (A : List En) (x : En) (B : List En) (y : En) (C : List En) (r : List Value) (hn : n = A.length + 1 + B.length + 1 + C.length)
    (hS : St p w0 w (.row gL (ptrs A ++ (ptr x :: (ptrs B ++ (ptr y :: (ptrs C ++ r))))) :: (ents 0 A ++ (enR x A.length :: (ents (A.length + 1) B ++ (enR y (A.length + 1 + B.length) :: R)))))) :
    Calls Try.prog 39 #[.slice (some ⟨gL, 0, none⟩) n c, .int .i64 A.length, .int .i64 ((A.length + 1 + B.length : Nat) : Int)] w fun e w' => e = .returned (.tuple #[]) ∧
      St p w0 w' (.row gL (ptrs A ++ (ptr y :: (ptrs B ++ (ptr x :: (ptrs C ++ r))))) :: (ents 0 A ++ (enR y A.length :: (ents (A.length + 1) B ++ (enR x (A.length + 1 + B.length) :: R))))) := by
  have hA : (ptrs A).length = A.length := by simp [ptrs]
  have hB : (ptrs B).length = B.length := by simp [ptrs]
  have hC : (ptrs C).length = C.length := by simp [ptrs]
  refine enter Try.func39 rfl Try.ntmps39 rfl hS ?_
  refine WC.seq ?_
  refine WC.orders mixed ?_
  refine WR.first (g := 6) [0, 1, 2, 3, 4, 5, 6, 8, 9, 10] (by kernel_rfl) (by kernel_rfl) ?_
  refine WP.val (v_move rfl rfl) (.none rfl) rfl rfl ?_
  refine WP.val (v_move rfl rfl) (.none rfl) rfl rfl ?_
  refine WP.val (v_move rfl rfl) (.none rfl) rfl rfl ?_
  refine WP.val (v_move rfl rfl) (.none rfl) rfl rfl ?_
  refine WP.val (v_move rfl rfl) (.none rfl) rfl rfl ?_
  refine WP.val (v_move rfl rfl) (.none rfl) rfl rfl ?_
  refine WP.val (v_indexAddr (lo := A.length + 1 + B.length) rfl rfl rfl Try.underlying44 sz_47 (by omega) (by omega)) (.none rfl) rfl rfl ?_
  refine WP.val (v_move rfl rfl) (.none rfl) rfl rfl ?_
  refine WP.val (v_move rfl rfl) (.none rfl) rfl rfl ?_
  refine WP.val (v_indexAddr (lo := A.length) rfl rfl rfl Try.underlying44 sz_47 (by omega) (by omega)) (.none rfl) rfl rfl ?_
  refine WP.nil ?_
  refine WR.read (g := 3) [7, 11, 12] (by kernel_rfl) (by kernel_rfl) (by kernel_rfl) (by kernel_rfl) rfl ?_
  refine WQ.val (v_load1 rfl rfl one_47 (cellAt (get_mid2 _ _ _ _ _ (by omega)))) (.none rfl) rfl rfl ?_
  refine WQ.val (v_load1 rfl rfl one_47 (cellAt (get_mid1 _ _ _ (by omega)))) (.none rfl) rfl rfl ?_
  refine WQ.val (v_indexAddr (lo := A.length) rfl rfl rfl Try.underlying44 sz_47 (by omega) (by omega)) (.none rfl) rfl rfl ?_
  refine WQ.nilR ?_
  refine WR.ones (g := 2) [13] (by kernel_rfl) ?_
  refine WL.store1 rfl rfl rfl rfl one_47 (by simp [hA, hB, hC] <;> omega) (.none rfl) rfl ?_
  refine WL.nilR ?_
  refine WR.first (g := 1) [14] (by kernel_rfl) (by kernel_rfl) ?_
  refine WP.val (v_indexAddr (lo := A.length + 1 + B.length) rfl rfl rfl Try.underlying44 sz_47 (by omega) (by omega)) (.none rfl) rfl rfl ?_
  refine WP.nil ?_
  refine WR.ones (g := 0) [15] (by kernel_rfl) ?_
  refine WL.store1 rfl rfl rfl rfl one_47 (by simp [hA, hB, hC] <;> omega) (.none rfl) rfl ?_
  refine WL.as (L' := .row gL (ptrs A ++ (ptr y :: (ptrs B ++ (ptr x :: (ptrs C ++ r))))) :: (ents 0 A ++ (enR x A.length :: (ents (A.length + 1) B ++ (enR y (A.length + 1 + B.length) :: R))))) (by rw [set_mid _ _ _ _ _ _ _ (by omega) (by omega)]) ?_
  refine WL.nilR ?_
  refine WR.done (by kernel_rfl) ?_
  refine WE.then_n ?_
  refine WC.seq ?_
  refine WC.region ?_
  refine WL.val (v_move rfl rfl) (.none rfl) rfl rfl ?_
  refine WL.val (v_move rfl rfl) (.none rfl) rfl rfl ?_
  refine WL.val (v_indexAddr (lo := A.length) rfl rfl rfl Try.underlying44 sz_47 (by omega) (by omega)) (.none rfl) rfl rfl ?_
  refine WL.val (v_load1 rfl rfl one_47 (cellAt (get_mid1 _ _ _ (by omega)))) (.none rfl) rfl rfl ?_
  refine WL.val (v_move rfl rfl) (.none rfl) rfl rfl ?_
  refine WL.val (v_nilCheck rfl rfl) (.none rfl) rfl rfl ?_
  refine WL.val (v_fieldAddr0 rfl rfl fld_50_2) (.none rfl) rfl rfl ?_
  refine WL.store1 rfl rfl rfl rfl one_3 (Nat.le_of_ble_eq_true rfl) (.none rfl) rfl ?_
  refine WL.nil ?_
  refine WE.then_n ?_
  refine WC.region ?_
  refine WL.val (v_move rfl rfl) (.none rfl) rfl rfl ?_
  refine WL.val (v_move rfl rfl) (.none rfl) rfl rfl ?_
  refine WL.val (v_indexAddr (lo := A.length + 1 + B.length) rfl rfl rfl Try.underlying44 sz_47 (by omega) (by omega)) (.none rfl) rfl rfl ?_
  refine WL.val (v_load1 rfl rfl one_47 (cellAt (get_mid2 _ _ _ _ _ (by omega)))) (.none rfl) rfl rfl ?_
  refine WL.val (v_move rfl rfl) (.none rfl) rfl rfl ?_
  refine WL.val (v_nilCheck rfl rfl) (.none rfl) rfl rfl ?_
  refine WL.val (v_fieldAddr0 rfl rfl fld_50_2) (.none rfl) rfl rfl ?_
  refine WL.store1 rfl rfl rfl rfl one_3 (Nat.le_of_ble_eq_true rfl) (.none rfl) rfl ?_
  refine WL.nil ?_
  refine WE.ret0 (P := Try.prog) (.inr rfl) Try.results39  ?_
  exact fun w' h => ⟨rfl, h.perm (perm_mid _ _ _ _ _ _).symm⟩
end Go.Proofs.Ytaoipmdddagngaa
