/- An act that came in as an argument. -/
import Derived.Test.YtodaanhhnjkncaaDoorHdArg
import Derived.Test.YtodaanhhnjkncaaDoorAct
namespace Go.Proofs.YtodaanhhnjkncaaDoor
open Go.RowKit

theorem wf_u64 {n : Int} (h : (Lit.int .u64 n).wf = true) : 0 ≤ n ∧ n ≤ 18446744073709551615 := by
  simp [Lit.wf, IntKind.min, IntKind.max, IntKind.signed, IntKind.bits] at h; exact h
theorem ac_leaves {w : World} {cs : List Value} (hL : Leaves Tryd.prog w [3, 22, 22, 22, 22, 22, 22, 22, 22, 22] cs) : ∃ a : Ac, cs = acL a ∧ a.In := by
  obtain ⟨x0, _, rfl, h0, x1, _, rfl, h1, x2, _, rfl, h2, x3, _, rfl, h3, x4, _, rfl, h4, x5, _, rfl, h5, x6, _, rfl, h6, x7, _, rfl, h7, x8, _, rfl, h8, x9, _, rfl, h9, rfl⟩ := hL
  obtain ⟨n0, rfl, w0⟩ := Tree.int Tryd.underlying3 h0
  obtain ⟨n1, rfl, w1⟩ := Tree.int Tryd.underlying22 h1
  obtain ⟨n2, rfl, w2⟩ := Tree.int Tryd.underlying22 h2
  obtain ⟨n3, rfl, w3⟩ := Tree.int Tryd.underlying22 h3
  obtain ⟨n4, rfl, w4⟩ := Tree.int Tryd.underlying22 h4
  obtain ⟨n5, rfl, w5⟩ := Tree.int Tryd.underlying22 h5
  obtain ⟨n6, rfl, w6⟩ := Tree.int Tryd.underlying22 h6
  obtain ⟨n7, rfl, w7⟩ := Tree.int Tryd.underlying22 h7
  obtain ⟨n8, rfl, w8⟩ := Tree.int Tryd.underlying22 h8
  obtain ⟨n9, rfl, w9⟩ := Tree.int Tryd.underlying22 h9
  refine ⟨⟨n0, fun i => [n1, n2, n3, n4, n5, n6, n7, n8, n9].getD i 0⟩, rfl, wf_i64 w0, fun k => ?_⟩
  match k with
  | 0 => exact wf_u64 w1
  | 1 => exact wf_u64 w2
  | 2 => exact wf_u64 w3
  | 3 => exact wf_u64 w4
  | 4 => exact wf_u64 w5
  | 5 => exact wf_u64 w6
  | 6 => exact wf_u64 w7
  | 7 => exact wf_u64 w8
  | 8 => exact wf_u64 w9
  | _ + 9 => exact ⟨Int.le_refl _, show (0 : Int) ≤ 18446744073709551615 by decide⟩
theorem Arg.act {w : World} {v : Value} (h : Arg Tryd.prog w 25 v) : ∃ a : Ac, v = acV a ∧ a.In := by
  obtain ⟨cs, rfl, hL⟩ := h.agg 8 (ts := [3, 22, 22, 22, 22, 22, 22, 22, 22, 22]) (by kernel_rfl) (by kernel_rfl) (by kernel_rfl)
  obtain ⟨a, rfl, ha⟩ := ac_leaves hL
  exact ⟨a, rfl, ha⟩
end Go.Proofs.YtodaanhhnjkncaaDoor
