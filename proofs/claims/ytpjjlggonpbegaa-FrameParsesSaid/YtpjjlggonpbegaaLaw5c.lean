/- carrefourlaw05.FrameParses, whatever is wrong or not. -/
import Derived.Test.YtpjjlggonpbegaaLaw5b
namespace Go.Proofs.Ytpjjlggonpbegaa
open Go.RowKit

/-- A slice of bytes that came in, as bytes that a function tells. -/
theorem rowBytes {w : World} {a : Option Addr} {len cap : Nat} {zs : List Int}
    (h : (a = none ∧ len = 0 ∧ cap = 0 ∧ zs = []) ∨ ∃ x, a = some x ∧ len ≤ cap ∧ cap ≤ maxLen ∧ zs.length = cap ∧ (∀ i, i < zs.length → w.cell? (x.add i) = some (.int .u8 (zs.getD i 0))) ∧ ∀ n ∈ zs, (Lit.int .u8 n).wf = true) :
    ∃ f, RdO w a len f ∧ Byt f ∧ len ≤ cap ∧ len ≤ 9223372036854775807 := by
  have hby : ∀ zs : List Int, (∀ n ∈ zs, (Lit.int .u8 n).wf = true) → Byt fun i => zs.getD i 0 := fun zs hw i => by
    by_cases hi : i < zs.length
    · have := hw (zs.getD i 0) (by simp [List.getD, hi])
      simp [Lit.wf, IntKind.min, IntKind.max, IntKind.signed, IntKind.bits] at this
      simpa [List.getD] using this
    · simp [List.getD, List.getElem?_eq_none (Nat.le_of_not_lt hi)]
  rcases h with ⟨rfl, rfl, rfl, rfl⟩ | ⟨x, rfl, hl, hm, hz, hc, hw⟩
  · exact ⟨fun _ => 0, fun h => by omega, fun _ => ⟨Int.le_refl _, show (0 : Int) ≤ 255 by omega⟩, by omega, by omega⟩
  · refine ⟨fun i => zs.getD i 0, fun h0 => ?_, hby zs hw, hl, by unfold maxLen at hm; omega⟩
    obtain ⟨b, off, spot⟩ := x
    have h1 := hc 0 (by omega)
    have hsp : spot = none := by
      cases spot with
      | none => rfl
      | some s =>
        simp only [Addr.add, if_true, World.cell?] at h1
        split at h1 <;> simp at h1
    subst hsp
    exact ⟨b, off, rfl, fun i hi => by have := hc i (by omega); rwa [addr_add] at this⟩

theorem FrameParses_all (w : World) (port : Int) (a : Option Addr) (n cap : Nat) (f : Nat → Int) (hr : RdO w a n f) (hf : Byt f) (hc : n ≤ cap) (hn : n ≤ 9223372036854775807) :
    Calls Try.prog 3 #[.int .i64 port, .slice a n cap] w fun e w' => e = .returned (.bool true) ∧ Frm (fun _ => False) w w' := by
  by_cases he : prErr port f n = 0
  · exact FrameParses_k w port a n cap f hr hf hc hn he
  · exact FrameParses_e w port a n cap f hr hf hc hn he
end Go.Proofs.Ytpjjlggonpbegaa
