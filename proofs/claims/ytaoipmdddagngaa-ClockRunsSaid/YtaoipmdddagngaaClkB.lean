/- container/heap over the clock's line: down, up. -/
import Derived.Test.YtaoipmdddagngaaClkA
namespace Go.Proofs.Ytaoipmdddagngaa
open Go.RowKit

theorem lt_asymm {a b : En} (h : lt a b) : ¬ lt b a := by unfold lt at *; omega
theorem nlt_trans {a b c : En} (h1 : ¬ lt a b) (h2 : ¬ lt b c) : ¬ lt a c := by unfold lt at *; omega
theorem nlt_of {a b c : En} (h1 : ¬ lt a b) (h2 : lt c b) : ¬ lt a c := by unfold lt at *; omega

def swp (hs : List En) (i j : Nat) : List En := (hs.set i (el hs j)).set j (el hs i)
theorem swp_len (hs : List En) (i j : Nat) : (swp hs i j).length = hs.length := by simp [swp]
theorem el_swp {hs : List En} {i j k : Nat} (hi : i < hs.length) (hj : j < hs.length) : el (swp hs i j) k = if k = j then el hs i else if k = i then el hs j else el hs k := by
  unfold swp
  show ((hs.set i (el hs j)).set j (el hs i)).getD k default = _
  rw [List.getD_eq_getElem?_getD, List.getElem?_set]
  by_cases h1 : j = k
  · subst h1; simp [hj]
  · rw [if_neg h1, if_neg (fun e => h1 e.symm), List.getElem?_set]
    by_cases h2 : i = k
    · subst h2; simp [hi]
    · rw [if_neg h2, if_neg (fun e => h2 e.symm)]; simp [el]
theorem split2 {hs : List En} {i j : Nat} (h : i < j) (hj : j < hs.length) : ∃ A B C, hs = A ++ (el hs i :: (B ++ (el hs j :: C))) ∧ i = A.length ∧ j = A.length + 1 + B.length ∧ hs.length = A.length + 1 + B.length + 1 + C.length := by
  have e1 := List.drop_eq_getElem_cons (show i < hs.length by omega)
  have e2 := List.drop_eq_getElem_cons hj
  have h1 : hs[i] = el hs i := by simp [el, show i < hs.length by omega]
  have h2 : hs[j] = el hs j := by simp [el, hj]
  refine ⟨hs.take i, (hs.drop (i + 1)).take (j - (i + 1)), hs.drop (j + 1), ?_, by simp; omega, by simp; omega, by simp; omega⟩
  rw [← h2, ← e2]
  have : (hs.drop (i + 1)).take (j - (i + 1)) ++ hs.drop j = hs.drop (i + 1) := by
    have e3 : hs.drop j = (hs.drop (i + 1)).drop (j - (i + 1)) := by rw [List.drop_drop, show i + 1 + (j - (i + 1)) = j by omega]
    rw [e3, List.take_append_drop]
  rw [this, ← h1, ← e1, List.take_append_drop]
theorem swp_mid {hs : List En} {i j : Nat} {A B C : List En} (h : hs = A ++ (el hs i :: (B ++ (el hs j :: C)))) (hi : i = A.length) (hj : j = A.length + 1 + B.length) : swp hs i j = A ++ (el hs j :: (B ++ (el hs i :: C))) := by
  have key : ∀ (x y : En), ((A ++ (x :: (B ++ (y :: C)))).set i y).set j x = A ++ (y :: (B ++ (x :: C))) := fun x y => set_mid _ _ _ _ _ _ _ hi hj
  unfold swp
  have := key (el hs i) (el hs j)
  rw [← h] at this
  exact this
theorem swp_perm {hs : List En} {i j : Nat} (h : i < j) (hj : j < hs.length) : (swp hs i j).Perm hs := by
  obtain ⟨A, B, C, h1, h2, h3, _⟩ := split2 h hj
  rw [swp_mid h1 h2 h3]
  conv => rhs; rw [h1]
  refine List.Perm.append_left _ ?_
  refine (List.Perm.cons _ List.perm_middle).trans ?_
  refine (List.Perm.swap _ _ _).trans ?_
  exact List.Perm.cons _ List.perm_middle.symm

/-- The clock's blocks while the heap is turned. -/
def hsL (gC gL : Nat) (now : Int) (rm : Option Nat) (c : Nat) (hs : List En) (r : List Value) (R : List Ent) : List Ent :=
  .row gL (ptrs hs ++ r) :: (ents 0 hs ++ (.row gC [.int .i64 now, .slice (some ⟨gL, 0, none⟩) hs.length c, .map rm] :: R))
def lnV (gL : Nat) (hs : List En) (c : Nat) : Value := .slice (some ⟨gL, 0, none⟩) hs.length c
section
variable {p : Nat → Prop} {w0 w : World} {gC gL : Nat} {now : Int} {rm : Option Nat} {c : Nat} {hs : List En} {r : List Value} {R : List Ent}
theorem hs_row {i : Nat} (hi : i < hs.length) (hS : St p w0 w (hsL gC gL now rm c hs r R)) : Row w (el hs i).g (enL (el hs i) i) := by
  have h := ents_get hs 0 i _ (el_get hi)
  rw [Nat.zero_add] at h
  exact hS.holds (enR (el hs i) i) (List.mem_cons_of_mem _ (List.mem_append_left _ h))
theorem hs_line (hS : St p w0 w (hsL gC gL now rm c hs r R)) : Row w gL (ptrs hs ++ r) := hS.holds (.row gL (ptrs hs ++ r)) (List.mem_cons_self ..)
theorem hs_clk (hS : St p w0 w (hsL gC gL now rm c hs r R)) : Row w gC [.int .i64 now, .slice (some ⟨gL, 0, none⟩) hs.length c, .map rm] := hS.holds (.row gC _) (List.mem_cons_of_mem _ (List.mem_append_right _ (List.mem_cons_self ..)))
theorem Less_h {i j : Nat} (hi : i < hs.length) (hj : j < hs.length) (hS : St p w0 w (hsL gC gL now rm c hs r R)) :
    Calls Try.prog 38 #[lnV gL hs c, .int .i64 i, .int .i64 j] w fun e w' => e = .returned (.bool (decide (lt (el hs i) (el hs j)))) ∧ Frm (fun _ => False) w w' :=
  Less_c w gL _ c i j (ptrs hs ++ r) _ _ i j (hs_line hS) hi hj (ptrs_get hi) (ptrs_get hj) (hs_row hi hS) (hs_row hj hS)
theorem Swap_h {i j : Nat} (h : i < j) (hj : j < hs.length) (hS : St p w0 w (hsL gC gL now rm c hs r R)) :
    Calls Try.prog 39 #[lnV gL hs c, .int .i64 i, .int .i64 j] w fun e w' => e = .returned (.tuple #[]) ∧ St p w0 w' (hsL gC gL now rm c (swp hs i j) r R) := by
  obtain ⟨A, B, C, h1, h2, h3, h4⟩ := split2 h hj
  have hl := swp_len hs i j
  have e0 := swp_mid h1 h2 h3
  unfold hsL at hS ⊢
  rw [hl]
  have key : ∀ (x y : En) (X : List Value) (r : List Value) (L : List Ent), ptrs (A ++ (x :: (B ++ (y :: C)))) ++ r = ptrs A ++ (ptr x :: (ptrs B ++ (ptr y :: (ptrs C ++ r)))) := fun x y _ r _ => ptrs_mid A x B y C r
  have hS' : St p w0 w (.row gL (ptrs A ++ (ptr (el hs i) :: (ptrs B ++ (ptr (el hs j) :: (ptrs C ++ r))))) :: (ents 0 A ++ (enR (el hs i) A.length :: (ents (A.length + 1) B ++ (enR (el hs j) (A.length + 1 + B.length) :: (ents (A.length + 1 + B.length + 1) C ++ (.row gC [.int .i64 now, .slice (some ⟨gL, 0, none⟩) hs.length c, .map rm] :: R))))))) := by
    rw [← ptrs_mid, ← ents_mid, ← h1]; exact hS
  rw [e0, ptrs_mid, ents_mid]
  unfold lnV
  subst h2 h3
  exact Swap_f p w0 w _ gL _ c A _ B _ C r h4 hS'
end

/-! ### Methods -/
abbrev lnT : Nat := 52
section
variable {p : Nat → Prop} {w0 : World} {L : List Ent} {g k : Nat} {cs : List Value} {v : Value} [At L g cs]
theorem m_Len (h : cs[k]? = some v) : Meth Try.prog (fun w => St p w0 w L) lnT (.pointer (some ⟨g, k, none⟩)) "Len" 37 v := fun w hS =>
  meth_val (by kernel_rfl) Try.underlying52 (load1_cell one_44 (hS.cell h))
theorem m_Less (h : cs[k]? = some v) : Meth Try.prog (fun w => St p w0 w L) lnT (.pointer (some ⟨g, k, none⟩)) "Less" 38 v := fun w hS =>
  meth_val (by kernel_rfl) Try.underlying52 (load1_cell one_44 (hS.cell h))
theorem m_Swap (h : cs[k]? = some v) : Meth Try.prog (fun w => St p w0 w L) lnT (.pointer (some ⟨g, k, none⟩)) "Swap" 39 v := fun w hS =>
  meth_val (by kernel_rfl) Try.underlying52 (load1_cell one_44 (hS.cell h))
end
theorem m_Push {C : World → Prop} {u : Value} : Meth Try.prog C lnT u "Push" 41 u := fun _ _ => meth_ptr (by kernel_rfl) Try.underlying52
theorem m_Pop {C : World → Prop} {u : Value} : Meth Try.prog C lnT u "Pop" 40 u := fun _ _ => meth_ptr (by kernel_rfl) Try.underlying52
end Go.Proofs.Ytaoipmdddagngaa
