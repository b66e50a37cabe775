/- carrefourref05.Copy and Same. -/
import Derived.Test.YtodaanhhnjkncaaDoorTys
namespace Go.Proofs.YtodaanhhnjkncaaDoor
open Go.RowKit

theorem bcsAt {cs : List Value} {n : Nat} {f : Nat → Int} (h : cs = bcs f n) : ∀ i, i < n → cs[0 + i]? = some (.int .u8 (f i)) := fun i hi => by rw [Nat.zero_add, h, bcs_get f n i hi]
theorem rdoAt {p : Nat → Prop} {w0 w : World} {L : List Ent} {g n : Nat} {cs : List Value} {f : Nat → Int} [At L g cs] (hS : St p w0 w L) (h : cs = bcs f n) : RdO w (some ⟨g, 0, none⟩) n f := fun _ => ⟨g, 0, rfl, rdAt (bcsAt h) w hS⟩
theorem Vec.rdo {p : Nat → Prop} {w0 w : World} {L E : List Ent} {a : Option Addr} {n c : Nat} {f : Nat → Int} (hV : Vec 1 a n c (bcs f n) E) (hS : St p w0 w L) (hm : ∀ e ∈ E, e ∈ L) : RdO w a n f := fun hn => by
  rcases hV with ⟨_, h, _⟩ | ⟨g, cs, rfl, rfl, hx, hl, hk⟩
  · omega
  · refine ⟨g, 0, rfl, fun i hi => ?_⟩
    have hR : Row w g cs := hS.holds (.row g cs) (hm _ (by simp))
    refine hR.cell ?_
    rw [Nat.zero_add, ← bcs_get f n i hi, ← hx, List.getElem?_take, if_pos (by omega)]


/-- A slice of bytes that came in, as bytes that a function tells. -/
theorem rowBytes {w : World} {a : Option Addr} {len cap : Nat} {zs : List Int}
    (h : (a = none ∧ len = 0 ∧ cap = 0 ∧ zs = []) ∨ ∃ x, a = some x ∧ len ≤ cap ∧ cap ≤ maxLen ∧ zs.length = cap ∧ (∀ i, i < zs.length → w.cell? (x.add i) = some (.int .u8 (zs.getD i 0))) ∧ ∀ n ∈ zs, (Lit.int .u8 n).wf = true) :
    ∃ f, RdO w a len f ∧ Byt f ∧ len ≤ cap ∧ len ≤ 9223372036854775807 := by
  have hby : ∀ zs : List Int, (∀ n ∈ zs, (Lit.int .u8 n).wf = true) → Byt fun i => zs.getD i 0 := fun zs hw i => by
    by_cases hi : i < zs.length
    · have := hw (zs.getD i 0) (by simp [List.getD, hi])
      simp [Lit.wf, IntKind.min, IntKind.max, IntKind.signed, IntKind.bits] at this
      simpa [List.getD] using this
    · simp [List.getD, List.getElem?_eq_none (Nat.le_of_not_lt hi)]
  rcases h with ⟨rfl, rfl, rfl, rfl⟩ | ⟨x, rfl, hl, hm, hz, hc, hw⟩
  · exact ⟨fun _ => 0, fun h => by omega, fun _ => ⟨Int.le_refl _, show (0 : Int) ≤ 255 by omega⟩, by omega, by omega⟩
  · refine ⟨fun i => zs.getD i 0, fun h0 => ?_, hby zs hw, hl, by unfold maxLen at hm; omega⟩
    obtain ⟨b, off, spot⟩ := x
    have h1 := hc 0 (by omega)
    have hsp : spot = none := by
      cases spot with
      | none => rfl
      | some s =>
        simp only [Addr.add, if_true, World.cell?] at h1
        split at h1 <;> simp at h1
    subst hsp
    exact ⟨b, off, rfl, fun i hi => by have := hc i (by omega); rwa [addr_add] at this⟩

end Go.Proofs.YtodaanhhnjkncaaDoor
