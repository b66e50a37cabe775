/- Texts joined: engine, contracts and laws, in the order in which they build. -/
import Derived.Test.YtpjbofodllhjbaaDoorBeBgpCuts
/- Arguments: a message of BGP. -/
namespace Go.Proofs.YtpjbofodllhjbaaDoor
open Go.RowKit

theorem rows_of {P : Program} {w : World} {e s len : Nat} {a : Option Addr} {α : Type} {enc : α → List Value} {good : α → Prop} (hx : ∀ cs, cs.length = s → Tree P w e cs → ∃ x, cs = enc x ∧ good x) (h : Elems P w e s a len) : ∃ xs : List α, xs.length = len ∧ RowsAt w a s enc xs ∧ ∀ x ∈ xs, good x := by
  by_cases hl : 0 < len
  · obtain ⟨b, off, rfl, hE⟩ := h hl
    have hE' : ∀ i : Fin len, ∃ x, w.rangeAt b (off + i.1 * s) (enc x) ∧ good x := fun i => by
      obtain ⟨cs, hc, hr, hT⟩ := hE i.1 i.2
      obtain ⟨x, rfl, hg⟩ := hx cs hc hT
      exact ⟨x, hr, hg⟩
    refine ⟨List.ofFn fun i => Classical.choose (hE' i), List.length_ofFn, fun i x hi => ?_, fun x hm => ?_⟩
    · rw [List.getElem?_ofFn] at hi
      split at hi
      · rename_i hlt
        obtain rfl := Option.some.inj hi
        exact ⟨b, off, rfl, (Classical.choose_spec (hE' ⟨i, hlt⟩)).1⟩
      · cases hi
    · obtain ⟨i, rfl⟩ := List.mem_ofFn.1 hm
      exact (Classical.choose_spec (hE' i)).2
  · refine ⟨[], by rw [List.length_nil]; omega, fun i x hi => by simp at hi, fun x hm => by cases hm⟩
theorem CellsAt.of_rows {w : World} {a : Option Addr} {f : Int → Value} {xs : List Int} (h : RowsAt w a 1 (fun x => [f x]) xs) : CellsAt w a (xs.map f) := fun hn => by
  rw [List.length_map] at hn
  obtain ⟨b, o, e, _⟩ := h 0 _ (List.getElem?_eq_getElem hn)
  refine ⟨b, o, e, fun j v hj => ?_⟩
  rw [List.getElem?_map] at hj
  cases hx : xs[j]? with
  | none => rw [hx] at hj; cases hj
  | some x =>
    rw [hx] at hj
    obtain rfl := Option.some.inj hj
    obtain ⟨b', o', e', hr⟩ := h j x hx
    rw [e] at e'
    cases e'
    have := hr 0 _ rfl
    rwa [Nat.mul_one, Nat.add_zero] at this
theorem Elems.u8 {w : World} {len : Nat} {a : Option Addr} (h : Elems Tryd.prog w 5 1 a len) : ∃ xs : List Int, xs.length = len ∧ CellsAt w a (u8s xs) ∧ Bys xs := by
  obtain ⟨xs, hl, hr, hg⟩ := rows_of (enc := fun x => [.int .u8 x]) (good := fun x => 0 ≤ x ∧ x ≤ 255) (fun cs hc hT => by
    match cs, hc with
    | [x], _ =>
      obtain ⟨n, rfl, hw⟩ := Tree.int Tryd.underlying5 hT
      exact ⟨n, rfl, wf_u8 hw⟩) h
  exact ⟨xs, hl, CellsAt.of_rows hr, hg⟩
theorem Elems.i64 {w : World} {len : Nat} {a : Option Addr} (h : Elems Tryd.prog w 3 1 a len) : ∃ xs : List Int, xs.length = len ∧ CellsAt w a (i64s xs) ∧ ∀ x ∈ xs, I64 x := by
  obtain ⟨xs, hl, hr, hg⟩ := rows_of (enc := fun x => [.int .i64 x]) (good := fun x => I64 x) (fun cs hc hT => by
    match cs, hc with
    | [x], _ =>
      obtain ⟨n, rfl, hw⟩ := Tree.int Tryd.underlying3 hT
      exact ⟨n, rfl, wf_i64 hw⟩) h
  exact ⟨xs, hl, CellsAt.of_rows hr, hg⟩
theorem Tree.u8sl {w : World} {x : Value} (h : Tree Tryd.prog w 22 [x]) : ∃ a cap, ∃ xs : List Int, x = .slice a xs.length cap ∧ xs.length ≤ cap ∧ cap ≤ maxLen ∧ CellsAt w a (u8s xs) ∧ Bys xs := by
  obtain ⟨a, len, cap, rfl, h1, h2, hE⟩ := Tree.slice (s := 1) Tryd.underlying22 (by kernel_rfl) (by decide) h
  obtain ⟨xs, rfl, hc, hb⟩ := Elems.u8 hE
  exact ⟨a, cap, xs, rfl, h1, h2, hc, hb⟩
theorem Tree.i64sl {w : World} {x : Value} (h : Tree Tryd.prog w 38 [x]) : ∃ a cap, ∃ xs : List Int, x = .slice a xs.length cap ∧ xs.length ≤ cap ∧ cap ≤ maxLen ∧ CellsAt w a (i64s xs) ∧ ∀ x ∈ xs, I64 x := by
  obtain ⟨a, len, cap, rfl, h1, h2, hE⟩ := Tree.slice (s := 1) Tryd.underlying38 (by kernel_rfl) (by decide) h
  obtain ⟨xs, rfl, hc, hb⟩ := Elems.i64 hE
  exact ⟨a, cap, xs, rfl, h1, h2, hc, hb⟩
theorem Tree.flatL {P : Program} {w : World} {t : TypeId} {cs : List Value} {ts : List TypeId} (h : Tree P w t cs) (F : Nat) (hl : layB P F t = true) (hf : flat P F t = ts) : Leaves P w ts cs := hf ▸ Tree.leaves F t cs hl h
theorem maxLen_le : maxLen ≤ 9223372036854775807 := by decide
theorem Tree.caps {w : World} {x : Value} (h : Tree Tryd.prog w 35 [x]) : ∃ a cap, ∃ xs : List CapL, x = .slice a xs.length cap ∧ xs.length ≤ 9223372036854775807 ∧ RowsAt w a 2 CapL.cells xs ∧ ∀ c ∈ xs, CellsAt w c.ad (u8s c.val) ∧ I64 c.code ∧ c.val.length ≤ 9223372036854775807 ∧ Bys c.val := by
  obtain ⟨a, len, cap, rfl, h1, h2, hE⟩ := Tree.slice (s := 2) Tryd.underlying35 (by kernel_rfl) (by decide) h
  have hm := maxLen_le
  obtain ⟨xs, rfl, hr, hg⟩ := rows_of (enc := CapL.cells) (good := fun c => CellsAt w c.ad (u8s c.val) ∧ I64 c.code ∧ c.val.length ≤ 9223372036854775807 ∧ Bys c.val) (fun cs hc hT => by
    have hL := Tree.flatL (ts := [3, 22]) hT 4 (by kernel_rfl) (by kernel_rfl)
    obtain ⟨x, _, rfl, hx, y, _, rfl, hy, rfl⟩ := hL
    obtain ⟨n, rfl, hw⟩ := Tree.int Tryd.underlying3 hx
    obtain ⟨a', cap', ys, rfl, k1, k2, k3, k4⟩ := Tree.u8sl hy
    exact ⟨⟨n, a', cap', ys⟩, rfl, k3, wf_i64 hw, by dsimp only; omega, k4⟩) hE
  exact ⟨a, cap, xs, rfl, by omega, hr, hg⟩
theorem Tree.pfs {w : World} {x : Value} (h : Tree Tryd.prog w 36 [x]) : ∃ a cap, ∃ xs : List PfL, x = .slice a xs.length cap ∧ xs.length ≤ 9223372036854775807 ∧ RowsAt w a 2 PfL.cells xs ∧ ∀ p ∈ xs, U32 p.addr ∧ I64 p.len := by
  obtain ⟨a, len, cap, rfl, h1, h2, hE⟩ := Tree.slice (s := 2) Tryd.underlying36 (by kernel_rfl) (by decide) h
  have hm := maxLen_le
  obtain ⟨xs, rfl, hr, hg⟩ := rows_of (enc := PfL.cells) (good := fun p => U32 p.addr ∧ I64 p.len) (fun cs hc hT => by
    have hL := Tree.flatL (ts := [34, 3]) hT 4 (by kernel_rfl) (by kernel_rfl)
    obtain ⟨x, _, rfl, hx, y, _, rfl, hy, rfl⟩ := hL
    obtain ⟨n, rfl, hw⟩ := Tree.int Tryd.underlying34 hx
    obtain ⟨n2, rfl, hw2⟩ := Tree.int Tryd.underlying3 hy
    exact ⟨⟨n, n2⟩, rfl, wf_u32 hw, wf_i64 hw2⟩) hE
  exact ⟨a, cap, xs, rfl, by omega, hr, hg⟩
theorem Tree.segs {w : World} {x : Value} (h : Tree Tryd.prog w 37 [x]) : ∃ a cap, ∃ xs : List SegL, x = .slice a xs.length cap ∧ xs.length ≤ 9223372036854775807 ∧ RowsAt w a 2 SegL.cells xs ∧ ∀ c ∈ xs, CellsAt w c.ad (i64s c.asl) ∧ c.asl.length ≤ 9223372036854775807 ∧ ∀ x ∈ c.asl, I64 x := by
  obtain ⟨a, len, cap, rfl, h1, h2, hE⟩ := Tree.slice (s := 2) Tryd.underlying37 (by kernel_rfl) (by decide) h
  have hm := maxLen_le
  obtain ⟨xs, rfl, hr, hg⟩ := rows_of (enc := SegL.cells) (good := fun c => CellsAt w c.ad (i64s c.asl) ∧ c.asl.length ≤ 9223372036854775807 ∧ ∀ x ∈ c.asl, I64 x) (fun cs hc hT => by
    have hL := Tree.flatL (ts := [4, 38]) hT 4 (by kernel_rfl) (by kernel_rfl)
    obtain ⟨x, _, rfl, hx, y, _, rfl, hy, rfl⟩ := hL
    obtain ⟨n, rfl⟩ := Tree.bool Tryd.underlying4 hx
    obtain ⟨a', cap', ys, rfl, k1, k2, k3, k4⟩ := Tree.i64sl hy
    exact ⟨⟨n, a', cap', ys⟩, rfl, k3, by dsimp only; omega, k4⟩) hE
  exact ⟨a, cap, xs, rfl, by omega, hr, hg⟩
theorem Tree.oths {w : World} {x : Value} (h : Tree Tryd.prog w 39 [x]) : ∃ a cap, ∃ xs : List OthL, x = .slice a xs.length cap ∧ xs.length ≤ 9223372036854775807 ∧ RowsAt w a 2 OthL.cells xs ∧ ∀ c ∈ xs, CellsAt w c.ad (u8s c.val) ∧ I64 c.ty ∧ c.val.length ≤ 9223372036854775807 ∧ Bys c.val := by
  obtain ⟨a, len, cap, rfl, h1, h2, hE⟩ := Tree.slice (s := 2) Tryd.underlying39 (by kernel_rfl) (by decide) h
  have hm := maxLen_le
  obtain ⟨xs, rfl, hr, hg⟩ := rows_of (enc := OthL.cells) (good := fun c => CellsAt w c.ad (u8s c.val) ∧ I64 c.ty ∧ c.val.length ≤ 9223372036854775807 ∧ Bys c.val) (fun cs hc hT => by
    have hL := Tree.flatL (ts := [3, 22]) hT 4 (by kernel_rfl) (by kernel_rfl)
    obtain ⟨x, _, rfl, hx, y, _, rfl, hy, rfl⟩ := hL
    obtain ⟨n, rfl, hw⟩ := Tree.int Tryd.underlying3 hx
    obtain ⟨a', cap', ys, rfl, k1, k2, k3, k4⟩ := Tree.u8sl hy
    exact ⟨⟨n, a', cap', ys⟩, rfl, k3, wf_i64 hw, by dsimp only; omega, k4⟩) hE
  exact ⟨a, cap, xs, rfl, by omega, hr, hg⟩
theorem msg_leaves {w : World} {cs : List Value} (hL : Leaves Tryd.prog w [3, 3, 3, 34, 35, 36, 3, 3, 37, 34, 3, 3, 3, 34, 38, 39, 36, 3, 3, 9] cs) : ∃ m : MsL, cs = m.cells ∧ m.At w ∧ m.In := by
  obtain ⟨x0, _, rfl, h0, x1, _, rfl, h1, x2, _, rfl, h2, x3, _, rfl, h3, x4, _, rfl, h4, x5, _, rfl, h5, x6, _, rfl, h6, x7, _, rfl, h7, x8, _, rfl, h8, x9, _, rfl, h9, x10, _, rfl, h10, x11, _, rfl, h11, x12, _, rfl, h12, x13, _, rfl, h13, x14, _, rfl, h14, x15, _, rfl, h15, x16, _, rfl, h16, x17, _, rfl, h17, x18, _, rfl, h18, x19, _, rfl, h19, rfl⟩ := hL
  obtain ⟨n0, rfl, w0⟩ := Tree.int Tryd.underlying3 h0
  obtain ⟨n1, rfl, w1⟩ := Tree.int Tryd.underlying3 h1
  obtain ⟨n2, rfl, w2⟩ := Tree.int Tryd.underlying3 h2
  obtain ⟨n3, rfl, w3⟩ := Tree.int Tryd.underlying34 h3
  obtain ⟨a4, c4, l4, rfl, k4, r4, g4⟩ := Tree.caps h4
  obtain ⟨a5, c5, l5, rfl, k5, r5, g5⟩ := Tree.pfs h5
  obtain ⟨n6, rfl, w6⟩ := Tree.int Tryd.underlying3 h6
  obtain ⟨n7, rfl, w7⟩ := Tree.int Tryd.underlying3 h7
  obtain ⟨a8, c8, l8, rfl, k8, r8, g8⟩ := Tree.segs h8
  obtain ⟨n9, rfl, w9⟩ := Tree.int Tryd.underlying34 h9
  obtain ⟨n10, rfl, w10⟩ := Tree.int Tryd.underlying3 h10
  obtain ⟨n11, rfl, w11⟩ := Tree.int Tryd.underlying3 h11
  obtain ⟨n12, rfl, w12⟩ := Tree.int Tryd.underlying3 h12
  obtain ⟨n13, rfl, w13⟩ := Tree.int Tryd.underlying34 h13
  obtain ⟨a14, c14, l14, rfl, k14, j14, r14, g14⟩ := Tree.i64sl h14
  obtain ⟨a15, c15, l15, rfl, k15, r15, g15⟩ := Tree.oths h15
  obtain ⟨a16, c16, l16, rfl, k16, r16, g16⟩ := Tree.pfs h16
  obtain ⟨n17, rfl, w17⟩ := Tree.int Tryd.underlying3 h17
  obtain ⟨n18, rfl, w18⟩ := Tree.int Tryd.underlying3 h18
  obtain ⟨d19, rfl, w19⟩ := Tree.string Tryd.underlying9 h19
  have hm := maxLen_le
  exact ⟨⟨n0, n1, n2, n3, a4, c4, l4, a5, c5, l5, ⟨n6, n7, a8, c8, l8, n9, n10, n11, n12, n13, a14, c14, l14, a15, c15, l15⟩, a16, c16, l16, n17, n18, d19⟩, rfl,
    ⟨r4, fun c hc => (g4 c hc).1, r5, r16, ⟨r8, fun c hc => (g8 c hc).1, r14, r15, fun c hc => (g15 c hc).1⟩⟩,
    ⟨wf_i64 w0, wf_i64 w1, wf_i64 w2, wf_u32 w3, wf_i64 w17, wf_i64 w18, fun c hc => (g4 c hc).2, g5, g16,
      ⟨wf_i64 w6, wf_i64 w7, wf_u32 w9, wf_i64 w10, wf_i64 w11, wf_i64 w12, wf_u32 w13, fun c hc => (g8 c hc).2, g14, fun c hc => (g15 c hc).2, k8, by dsimp only; omega, k15⟩, k4, k5, k16, by dsimp only; omega⟩⟩
theorem Arg.msg {w : World} {v : Value} (h : Arg Tryd.prog w 43 v) : ∃ m : MsL, v = .agg m.cells.toArray ∧ m.At w ∧ m.In := by
  obtain ⟨cs, rfl, hL⟩ := h.agg 6 (by kernel_rfl) (by kernel_rfl) (by kernel_rfl)
  obtain ⟨m, rfl, h1, h2⟩ := msg_leaves hL
  exact ⟨m, rfl, h1, h2⟩
end Go.Proofs.YtpjbofodllhjbaaDoor
