/- A header that came in as an argument. -/
import Derived.Test.YtodaanhhnjkncaaDoorArg
import Derived.Test.YtodaanhhnjkncaaDoorHd
namespace Go.Proofs.YtodaanhhnjkncaaDoor
open Go.RowKit

def sixOf (a b c d e f : Int) (i : Nat) : Int := [a, b, c, d, e, f].getD i 0
theorem sixOf_byt {a b c d e f : Int} (ha : 0 ≤ a ∧ a ≤ 255) (hb : 0 ≤ b ∧ b ≤ 255) (hc : 0 ≤ c ∧ c ≤ 255) (hd : 0 ≤ d ∧ d ≤ 255) (he : 0 ≤ e ∧ e ≤ 255) (hf : 0 ≤ f ∧ f ≤ 255) : Byt (sixOf a b c d e f) := fun i => by
  match i with
  | 0 => exact ha
  | 1 => exact hb
  | 2 => exact hc
  | 3 => exact hd
  | 4 => exact he
  | 5 => exact hf
  | _ + 6 => exact ⟨Int.le_refl _, show (0 : Int) ≤ 255 by decide⟩
theorem hd_leaves {w : World} {cs : List Value} (hL : Leaves Tryd.prog w [3, 5, 5, 5, 5, 5, 5, 5, 5, 5, 5, 5, 5, 3, 29, 29, 3, 3, 3] cs) : ∃ H : Hd, cs = hdL H ∧ H.In := by
  obtain ⟨x0, _, rfl, h0, x1, _, rfl, h1, x2, _, rfl, h2, x3, _, rfl, h3, x4, _, rfl, h4, x5, _, rfl, h5, x6, _, rfl, h6, x7, _, rfl, h7, x8, _, rfl, h8, x9, _, rfl, h9, x10, _, rfl, h10, x11, _, rfl, h11, x12, _, rfl, h12, x13, _, rfl, h13, x14, _, rfl, h14, x15, _, rfl, h15, x16, _, rfl, h16, x17, _, rfl, h17, x18, _, rfl, h18, rfl⟩ := hL
  obtain ⟨n0, rfl, w0⟩ := Tree.int Tryd.underlying3 h0
  obtain ⟨n1, rfl, w1⟩ := Tree.int Tryd.underlying5 h1
  obtain ⟨n2, rfl, w2⟩ := Tree.int Tryd.underlying5 h2
  obtain ⟨n3, rfl, w3⟩ := Tree.int Tryd.underlying5 h3
  obtain ⟨n4, rfl, w4⟩ := Tree.int Tryd.underlying5 h4
  obtain ⟨n5, rfl, w5⟩ := Tree.int Tryd.underlying5 h5
  obtain ⟨n6, rfl, w6⟩ := Tree.int Tryd.underlying5 h6
  obtain ⟨n7, rfl, w7⟩ := Tree.int Tryd.underlying5 h7
  obtain ⟨n8, rfl, w8⟩ := Tree.int Tryd.underlying5 h8
  obtain ⟨n9, rfl, w9⟩ := Tree.int Tryd.underlying5 h9
  obtain ⟨n10, rfl, w10⟩ := Tree.int Tryd.underlying5 h10
  obtain ⟨n11, rfl, w11⟩ := Tree.int Tryd.underlying5 h11
  obtain ⟨n12, rfl, w12⟩ := Tree.int Tryd.underlying5 h12
  obtain ⟨n13, rfl, w13⟩ := Tree.int Tryd.underlying3 h13
  obtain ⟨n14, rfl, w14⟩ := Tree.int Tryd.underlying29 h14
  obtain ⟨n15, rfl, w15⟩ := Tree.int Tryd.underlying29 h15
  obtain ⟨n16, rfl, w16⟩ := Tree.int Tryd.underlying3 h16
  obtain ⟨n17, rfl, w17⟩ := Tree.int Tryd.underlying3 h17
  obtain ⟨n18, rfl, w18⟩ := Tree.int Tryd.underlying3 h18
  exact ⟨⟨n0, sixOf n1 n2 n3 n4 n5 n6, sixOf n7 n8 n9 n10 n11 n12, n13, n14, n15, n16, n17, n18⟩, rfl, wf_i64 w0, wf_i64 w13, wf_i64 w16, wf_i64 w17, wf_i64 w18, wf_u32 w14, wf_u32 w15, sixOf_byt (wf_u8 w1) (wf_u8 w2) (wf_u8 w3) (wf_u8 w4) (wf_u8 w5) (wf_u8 w6), sixOf_byt (wf_u8 w7) (wf_u8 w8) (wf_u8 w9) (wf_u8 w10) (wf_u8 w11) (wf_u8 w12)⟩
theorem Arg.hd {w : World} {v : Value} (h : Arg Tryd.prog w 31 v) : ∃ H : Hd, v = .agg (hdCells H) ∧ H.In := by
  obtain ⟨cs, rfl, hL⟩ := h.agg 8 (ts := [3, 5, 5, 5, 5, 5, 5, 5, 5, 5, 5, 5, 5, 3, 29, 29, 3, 3, 3]) (by kernel_rfl) (by kernel_rfl) (by kernel_rfl)
  obtain ⟨H, rfl, hH⟩ := hd_leaves hL
  exact ⟨H, rfl, hH⟩
end Go.Proofs.YtodaanhhnjkncaaDoor
