/- A policy that came in as an argument: a tree. -/
import Derived.Test.YtodaanhhnjkncaaDoorArgM
import Derived.Test.YtodaanhhnjkncaaDoorAcArg
import Derived.Test.YtodaanhhnjkncaaDoorPol0
namespace Go.Proofs.YtodaanhhnjkncaaDoor
open Go.RowKit

theorem exists_list {α : Type} {Q : Nat → α → Prop} : ∀ n : Nat, (∀ i, i < n → ∃ x, Q i x) → ∃ xs : List α, xs.length = n ∧ ∀ (i : Nat) (x : α), xs[i]? = some x → Q i x
  | 0, _ => ⟨[], rfl, fun i x h => by simp at h⟩
  | n + 1, h => by
    obtain ⟨xs, hl, hx⟩ := exists_list n (fun i hi => h i (by omega))
    obtain ⟨y, hy⟩ := h n (by omega)
    refine ⟨xs ++ [y], by rw [List.length_append, hl]; rfl, fun i x hi => ?_⟩
    by_cases e : i < n
    · rw [List.getElem?_append_left (by omega)] at hi; exact hx i x hi
    · by_cases e2 : i = n
      · subst e2
        rw [List.getElem?_append_right (by omega), hl, Nat.sub_self] at hi
        simp only [List.getElem?_cons_zero, Option.some.injEq] at hi
        subst hi; exact hy
      · have := (List.getElem?_eq_some_iff.1 hi).1
        rw [List.length_append, hl] at this
        exact absurd this (by show ¬ i < n + 1; omega)
theorem KidsIn.of {ts : List Nd} (h : ∀ t ∈ ts, t.In) : KidsIn ts := by
  induction ts with
  | nil => unfold KidsIn; trivial
  | cons t ts ih => unfold KidsIn; exact ⟨h t (by simp), ih fun u hu => h u (by simp [hu])⟩
theorem KidsAt.of {w : World} {ad : Option Addr} : ∀ (ts : List Nd) (i : Nat), (∀ (j : Nat) (t : Nd), ts[j]? = some t → (∃ b o, ad = some ⟨b, o, none⟩ ∧ w.rangeAt b (o + (i + j) * 5) (ndL t)) ∧ t.At w) → KidsAt w ad i ts
  | [], _, _ => by unfold KidsAt; trivial
  | t :: ts, i, h => by
    unfold KidsAt
    have h0 := h 0 t rfl
    exact ⟨h0.1, h0.2, KidsAt.of ts (i + 1) fun j u hu => by have := h (j + 1) u hu; rwa [show i + (j + 1) = i + 1 + j by omega] at this⟩
theorem nd_lay : layB Tryd.prog 8 45 = true := by kernel_rfl
theorem nd_flat : flat Tryd.prog 8 45 = [3, 37, 22, 22, 43] := by kernel_rfl
theorem TreeM.agg {P : Program} {w : World} {M t : Nat} {cs : List Value} (h : TreeM P w M t cs) (F : Nat) {ts : List TypeId} (hl : layB P F t = true) (hf : flat P F t = ts) : LeavesM P w M ts cs := hf ▸ TreeM.leaves F t cs hl h
theorem TreeM.nd {w : World} : ∀ (M : Nat) (cs : List Value), TreeM Tryd.prog w M 45 cs → ∃ t : Nd, cs = ndL t ∧ t.In ∧ t.At w
  | 0, cs, h => by obtain ⟨_, _, m, _, hm, _⟩ := h.step; omega
  | M + 1, cs, h => by
    have hl := h.agg 8 nd_lay nd_flat
    obtain ⟨x0, _, rfl, h0, x1, _, rfl, h1, x2, _, rfl, h2, x3, _, rfl, h3, x4, _, rfl, h4, rfl⟩ := hl
    obtain ⟨k, rfl, wk⟩ := Tree.int Tryd.underlying3 h0.tree
    obtain ⟨f, rfl, wf⟩ := Tree.int Tryd.underlying37 h1.tree
    obtain ⟨v, rfl, wv⟩ := Tree.int Tryd.underlying22 h2.tree
    obtain ⟨m, rfl, wm⟩ := Tree.int Tryd.underlying22 h3.tree
    obtain ⟨a, len, cap, rfl, hc, hcap, hE⟩ := h4.slice (s := 5) Tryd.underlying43 (by kernel_rfl) (by decide)
    have hx : ∀ i, i < len → ∃ t : Nd, ((∃ b o, a = some ⟨b, o, none⟩ ∧ w.rangeAt b (o + i * 5) (ndL t)) ∧ t.At w) ∧ t.In := fun i hi => by
      obtain ⟨b, o, ea, hr⟩ := hE (by omega)
      obtain ⟨cs', _, hr', hT⟩ := hr i hi
      obtain ⟨t, rfl, hI, hA⟩ := TreeM.nd M cs' hT
      exact ⟨t, ⟨⟨b, o, ea, hr'⟩, hA⟩, hI⟩
    obtain ⟨ts, hlen, hts⟩ := exists_list len hx
    refine ⟨.mk k f v m a cap ts, by subst hlen; rfl, ?_, ?_⟩
    · unfold Nd.In
      refine ⟨wf_i64 wk, wf_i64 wf, wf_u64 wv, wf_u64 wm, by rw [hlen]; unfold maxLen at hcap; omega, KidsIn.of fun t ht => ?_⟩
      obtain ⟨i, hi, e⟩ := List.getElem_of_mem ht
      exact (hts i t (by rw [List.getElem?_eq_getElem hi, e])).2
    · unfold Nd.At
      exact KidsAt.of ts 0 fun j t hj => by rw [Nat.zero_add]; exact (hts j t hj).1
theorem Arg.nd {w : World} {v : Value} (h : Arg Tryd.prog w 45 v) : ∃ t : Nd, v = ndV t ∧ t.In ∧ t.At w := by
  have hT := h.2
  obtain ⟨cs, rfl, _⟩ := h.agg 8 (ts := [3, 37, 22, 22, 43]) (by kernel_rfl) (by kernel_rfl) (by kernel_rfl)
  obtain ⟨M, hM⟩ := hT.some
  obtain ⟨t, e, hI, hA⟩ := TreeM.nd M _ hM
  refine ⟨t, ?_, hI, hA⟩
  have e2 : cs = ndL t := by simpa [Value.cells] using e
  rw [e2]; rfl
end Go.Proofs.YtodaanhhnjkncaaDoor
