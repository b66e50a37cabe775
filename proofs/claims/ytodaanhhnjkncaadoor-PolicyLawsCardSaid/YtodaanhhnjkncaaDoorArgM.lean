/- Arguments that are trees: XArg's laws with the fuel in sight. (Made by program out of XArg.) -/
import Derived.Test.YtodaanhhnjkncaaDoorArg
namespace Go.Proofs.YtodaanhhnjkncaaDoor
open Go.RowKit
variable {P : Program} {w : World}

/-- These cells read as data of this type, so deep at most. -/
def TreeM (P : Program) (w : World) (M : Nat) (t : TypeId) (cs : List Value) : Prop := ∃ (H : Type) (enc : TypeId × Value → H) (m : Nat) (x : DataW H × List MemPlace), m ≤ M ∧ DataW.trod enc P w 0 (fun _ => true) true m t cs = some x
theorem Tree.some {t : TypeId} {cs : List Value} (h : Tree P w t cs) : ∃ M, TreeM P w M t cs := by
  obtain ⟨H, enc, m, x, hx⟩ := h
  exact ⟨m, H, enc, m, x, Nat.le_refl _, hx⟩
theorem TreeM.tree {M : Nat} {t : TypeId} {cs : List Value} (h : TreeM P w M t cs) : Tree P w t cs := by
  obtain ⟨H, enc, m, x, _, hx⟩ := h
  exact ⟨H, enc, m, x, hx⟩
theorem TreeM.step {M : Nat} {t : TypeId} {cs : List Value} (h : TreeM P w M t cs) : ∃ (H : Type) (enc : TypeId × Value → H) (m : Nat) (x : DataW H × List MemPlace), m + 1 ≤ M ∧ DataW.trodStep enc P w 0 (fun _ => true) true (DataW.trod enc P w 0 (fun _ => true) true m) t cs = some x := by
  obtain ⟨H, enc, m, x, hM, hx⟩ := h
  cases m with
  | zero => simp [DataW.trod] at hx
  | succ m => exact ⟨H, enc, m, x, hM, hx⟩
/-- A slice's elements, so deep at most. -/
def ElemsM (P : Program) (w : World) (M : Nat) (e s : Nat) (a : Option Addr) (len : Nat) : Prop :=
  0 < len → ∃ b off, a = some ⟨b, off, none⟩ ∧ ∀ i, i < len → ∃ cs, cs.length = s ∧ w.rangeAt b (off + i * s) cs ∧ TreeM P w M e cs
def LeavesM (P : Program) (w : World) (M : Nat) : List TypeId → List Value → Prop
  | [], cs => cs = []
  | t :: ts, cs => ∃ x xs, cs = x :: xs ∧ TreeM P w M t [x] ∧ LeavesM P w M ts xs
theorem LeavesM.append {M : Nat} : ∀ {ts : List TypeId} {cs : List Value} {ts' : List TypeId} {cs' : List Value}, LeavesM P w M ts cs → LeavesM P w M ts' cs' → LeavesM P w M (ts ++ ts') (cs ++ cs')
  | [], cs, ts', cs', h, h' => by
    have : cs = [] := h
    subst this; exact h'
  | t :: ts, cs, ts', cs', ⟨x, xs, e, hx, hxs⟩, h' => by
    subst e; exact ⟨x, xs ++ cs', rfl, hx, hxs.append h'⟩

theorem TreeM.leaves {M : Nat} : ∀ (F : Nat) (t : TypeId) (cs : List Value), layB P F t = true → TreeM P w M t cs → LeavesM P w M (flat P F t) cs
  | 0, _, _, hl, _ => by cases hl
  | F + 1, t, cs, hl, h => by
    obtain ⟨H, enc, m, x, hmM, hx⟩ := h.step
    cases hu : P.underlying t with
    | none =>
      obtain ⟨v, rfl⟩ := single_of_step (by simp [hu]) (by simp [hu]) hx
      simp only [flat, hu]
      exact ⟨v, [], rfl, h, rfl⟩
    | some d =>
      by_cases hs : ∃ fs, d = .struct fs
      · obtain ⟨fs, rfl⟩ := hs
        simp only [layB, hu, Bool.and_eq_true] at hl
        simp only [flat, hu]
        unfold DataW.trodStep at hx
        simp only [hu] at hx
        split at hx
        · rename_i hlen
          simp only [Option.map_eq_some_iff] at hx
          obtain ⟨xs, hm, _⟩ := hx
          have hT : ∀ f ∈ fs.toList, TreeM P w M f.type ((cs.drop f.offset).take (P.cellsOf f.type)) := fun f hf => by
            obtain ⟨y, hy⟩ := mapM_all hm f hf
            exact ⟨H, enc, m, y, by omega, hy⟩
          have key : ∀ (gs : List Field) (k : Nat), (∀ f ∈ gs, f ∈ fs.toList) → contigB P (P.cellsOf t) k gs = true → LeavesM P w M (gs.flatMap fun f => flat P F f.type) (cs.drop k) := by
            intro gs
            induction gs with
            | nil =>
              intro k _ hk
              have hk' : k = P.cellsOf t := by simpa [contigB] using hk
              show cs.drop k = []
              rw [List.drop_eq_nil_iff]; omega
            | cons f gs ih =>
              intro k hmem hk
              simp only [contigB, Bool.and_eq_true, beq_iff_eq] at hk
              have h1 := TreeM.leaves F f.type _ (List.all_eq_true.1 hl.2 f (hmem f (by simp))) (hT f (hmem f (by simp)))
              have h2 := ih (k + P.cellsOf f.type) (fun g hg => hmem g (by simp [hg])) hk.2
              rw [hk.1] at h1
              have := h1.append h2
              rw [List.flatMap_cons]
              have e : cs.drop k = (cs.drop k).take (P.cellsOf f.type) ++ cs.drop (k + P.cellsOf f.type) := by
                rw [← List.drop_drop, List.take_append_drop]
              rw [e]; exact this
          have := key fs.toList 0 (fun _ h => h) hl.1
          rwa [List.drop_zero] at this
        · cases hx
      · by_cases ha : ∃ n e, d = .array n e
        · obtain ⟨n, e, rfl⟩ := ha
          simp only [layB, hu, Bool.and_eq_true, beq_iff_eq] at hl
          simp only [flat, hu]
          unfold DataW.trodStep at hx
          simp only [hu] at hx
          split at hx
          · rename_i hlen
            simp only [Option.map_eq_some_iff] at hx
            obtain ⟨xs, hm, _⟩ := hx
            have key : ∀ j i, i + j = n → LeavesM P w M (List.replicate j (flat P F e)).flatten (cs.drop (i * P.cellsOf e)) := by
              intro j
              induction j with
              | zero =>
                intro i hi
                have : i = n := by omega
                subst this
                show cs.drop _ = []
                rw [List.drop_eq_nil_iff]; omega
              | succ j ih =>
                intro i hi
                obtain ⟨y, hy⟩ := mapM_all hm i (List.mem_range.2 (by omega))
                have h1 := TreeM.leaves (M := M) F e _ hl.2 ⟨H, enc, m, y, by omega, hy⟩
                have h2 := ih (i + 1) (by omega)
                rw [Nat.add_mul, Nat.one_mul] at h2
                have := h1.append h2
                rw [List.replicate_succ, List.flatten_cons]
                have e2 : cs.drop (i * P.cellsOf e) = (cs.drop (i * P.cellsOf e)).take (P.cellsOf e) ++ cs.drop (i * P.cellsOf e + P.cellsOf e) := by
                  rw [← List.drop_drop, List.take_append_drop]
                rw [e2]; exact this
            have := key n 0 (by omega)
            rwa [Nat.zero_mul, List.drop_zero] at this
          · cases hx
        · have hs' : ∀ fs, P.underlying t ≠ some (.struct fs) := fun fs he => hs ⟨fs, by rw [hu] at he; exact Option.some.inj he⟩
          have ha' : ∀ n e, P.underlying t ≠ some (.array n e) := fun n e he => ha ⟨n, e, by rw [hu] at he; exact Option.some.inj he⟩
          obtain ⟨v, rfl⟩ := single_of_step hs' ha' hx
          have hf : flat P (F + 1) t = [t] := by
            unfold flat
            split
            · rename_i fs he; exact absurd he (hs' _)
            · rename_i n e he; exact absurd he (ha' _ _)
            · rfl
          rw [hf]
          exact ⟨v, [], rfl, h, rfl⟩

theorem TreeM.slice {M t e s : Nat} {x : Value} (hu : P.underlying t = some (.slice e)) (hs : P.cellsOf e = s) (hpos : 0 < s) (h : TreeM P w M t [x]) : ∃ a len cap, x = .slice a len cap ∧ len ≤ cap ∧ cap ≤ maxLen ∧ ElemsM P w (M - 1) e s a len := by
  obtain ⟨H, enc, m, y, hmM, hy⟩ := h.step
  unfold DataW.trodStep at hy
  simp only [hu] at hy
  subst hs
  have hx : x = .slice none 0 0 ∨ ∃ a len cap, x = .slice (some a) len cap := by
    cases x with
    | slice a len cap =>
      cases a with
      | some a => exact .inr ⟨_, _, _, rfl⟩
      | none =>
        left
        cases len with
        | zero => cases cap with
          | zero => rfl
          | succ c => simp at hy
        | succ l => simp at hy
    | _ => simp at hy
  rcases hx with rfl | ⟨a, len, cap, rfl⟩
  · exact ⟨none, 0, 0, rfl, Nat.le_refl _, Nat.zero_le _, fun h => absurd h (by omega)⟩
  · simp only at hy
    split at hy
    · rename_i hb
      refine ⟨some a, len, cap, rfl, hb.2.1, hb.2.2, fun hl => ?_⟩
      simp only [Option.bind_eq_some_iff] at hy
      obtain ⟨elems, hm, _⟩ := hy
      have hE : ∀ i, i < len → ∃ cs, w.cells? 0 (a.add (i * P.cellsOf e)) (P.cellsOf e) = some cs ∧ TreeM P w (M - 1) e cs := fun i hi => by
        obtain ⟨y, _, hy⟩ := (mapM_get hm).2 i i (by rw [List.getElem?_range hi])
        simp only [Option.bind_eq_some_iff] at hy
        obtain ⟨cs, hc, hr⟩ := hy
        exact ⟨cs, hc, H, enc, m, y, by omega, hr⟩
      obtain ⟨cs0, hc0, _⟩ := hE 0 hl
      have hsp : a.spot = none := by
        have := (cells_some hc0).2.1 hpos
        simpa [Addr.add] using this
      obtain ⟨b, off, sp⟩ := a
      simp only at hsp
      subst hsp
      refine ⟨b, off, rfl, fun i hi => ?_⟩
      obtain ⟨cs, hc, hT⟩ := hE i hi
      obtain ⟨k1, _, k3⟩ := cells_some hc
      refine ⟨cs, k1, ?_, hT⟩
      have e1 : (Addr.mk b off none).add (i * P.cellsOf e) = ⟨b, off + i * P.cellsOf e, none⟩ := addr_add ..
      rw [e1] at k3
      exact k3
    · cases hy
end Go.Proofs.YtodaanhhnjkncaaDoor
