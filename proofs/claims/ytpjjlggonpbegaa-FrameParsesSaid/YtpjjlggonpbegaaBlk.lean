/- Whole structs and arrays out of and into blocks that are known whole. -/
import Derived.Test.YtpjjlggonpbegaaLib
import Derived.Deep.WholeRow
import Derived.Laws.CopyRow
import Derived.Deep.MidRow
namespace Go.Proofs.Ytpjjlggonpbegaa
open Go.RowKit

variable {P : Program}
theorem Blk.setRow {w : World} {g : Nat} {cs cs' : Array Value} {T : TypeId} (h : Blk w g cs T) : Blk (w.setRow g cs') g cs' T := setRow_heap w g cs cs' T (0, 0) h
theorem Blk.setRow_other {w : World} {g k : Nat} {cs cs' : Array Value} {T : TypeId} (hne : g ≠ k) (h : Blk w g cs T) : Blk (w.setRow k cs') g cs T := by
  unfold Blk at *; rw [Go.setRow_other w k g cs' hne]; exact h
theorem Frm.setRow {p : Nat → Prop} {w w' : World} {g : Nat} {cs : Array Value} (hg : p g) (h : Frm p w w') : Frm p w (w'.setRow g cs) :=
  h.trans ⟨rfl, rfl, rfl, by simp, fun k _ hn => Go.setRow_other _ _ _ _ (fun e => hn (by rw [e]; exact hg))⟩
theorem Frm.row1 {g : Nat} {w w' : World} {cs : Array Value} (h : Frm (fun k => k = g) w w') : Frm (fun k => k = g) w (w'.setRow g cs) := Frm.setRow (p := fun k => k = g) rfl h
theorem Rd.setRow {w : World} {b off n g : Nat} {f : Nat → Int} {cs : Array Value} (hne : b ≠ g) (h : Rd w b off n f) : Rd (w.setRow g cs) b off n f := fun i hi => by
  rw [cell_setRow_other _ _ _ _ hne]; exact h i hi

/-- n cells of a block from o on. -/
def sub (cs : Array Value) (o n : Nat) : Array Value := ((cs.toList.drop o).take n).toArray
/-- A block's cells with others laid over it from o on. -/
def over (cs : Array Value) (o : Nat) (new : Array Value) : Array Value := (cs.toList.take o ++ new.toList ++ cs.toList.drop (o + new.size)).toArray

theorem Blk.range {w : World} {g : Nat} {cs : Array Value} {T : TypeId} (h : Blk w g cs T) (o n : Nat) : w.rangeAt g o ((cs.toList.drop o).take n) := fun j v hj => by
  have hj' : j < n := by
    have := (List.getElem?_eq_some_iff.1 hj).1
    simp at this; omega
  rw [List.getElem?_take_of_lt hj', List.getElem?_drop] at hj
  exact h.cell (by simpa using hj)

/-- A struct or an array is read out of a block. -/
theorem wpList_loadB {ops : Array Oper} {rest : List Oper} {op : Oper} {a : Act} {w : World} {Q : Exit → Act → World → Prop} (hgd : op.guard = none) (ty : TypeId) (x : Operand) (ho : op.op = .load ty x)
    (g o n : Nat) (hx : a.eval x = .pointer (some ⟨g, o, none⟩)) (cs : Array Value) (T : TypeId) (hB : Blk w g cs T) (d : TypeDesc)
    (hu : P.underlying ty = some d) (hd : d.isRow = true) (hi : (P.info? ty).map (·.size) = some n) (hle : o + n ≤ cs.size) (new : Array Value) (hnew : sub cs o n = new)
    (h : wpList P ops Q rest (a.put op.dst (.agg new)) w) : wpList P ops Q (op :: rest) a w := by
  subst hnew
  exact wpList_load_mid hgd ty x ho g o hx _ d (hB.range o n) hu hd (by rw [hi]; simp; omega) h

theorem wp_storeB {op : Oper} {a : Act} {w : World} {K : Act → World → Prop} {Q : Exit → Act → World → Prop} (ty : TypeId) (x y : Operand) (ho : op.op = .store ty x y)
    (g o : Nat) (cells : Array Value) (hx : a.eval x = .pointer (some ⟨g, o, none⟩)) (hy : a.eval y = .agg cells) (cs : Array Value) (T : TypeId) (hB : Blk w g cs T)
    (hi : (P.info? ty).map (·.size) = some cells.size) (h1 : cells.all (·.oneCell') = true) (hle : o + cells.size ≤ cs.size) (new : Array Value) (hnew : over cs o cells = new)
    (h : K (a.put op.dst undef) (w.setRow g new)) : op.wp P a w K Q := by
  subst hnew
  have hst := run_storeCells_at (P := P) g o T cells.toList 0 cs w hB (by simpa using hle) (fun v hv => (Array.all_eq_true_iff_forall_mem.1 h1) v (by simpa using hv))
  have hsv : (storeVar ty ⟨g, o, none⟩ (.agg cells)).run P w = .ok () (w.setRow g (over cs o cells)) := by
    cases hq : P.info? ty with
    | none => simp [hq] at hi
    | some i =>
      have hs : cells.size = i.size := by simp [hq] at hi; omega
      simp only [Nat.add_zero, Array.length_toList] at hst
      simp [storeVar, sizeOf, typeInfo, hq, Value.cells, hs]
      rw [hst]
      simp [over, hs]
  unfold Oper.wp execOp
  simp only [ho, hx, hy, Instr.storeAt, Instr.sureAddr, Sem.run_bind, Sem.run_pure, Result.andThen_ok, hsv]
  exact h
/-- A struct or an array goes into a block. -/
theorem wpList_storeB {ops : Array Oper} {rest : List Oper} {op : Oper} {a : Act} {w : World} {Q : Exit → Act → World → Prop} (hgd : op.guard = none) (ty : TypeId) (x y : Operand) (ho : op.op = .store ty x y) (hdst : op.dst = none)
    (g o : Nat) (cells : Array Value) (hx : a.eval x = .pointer (some ⟨g, o, none⟩)) (hy : a.eval y = .agg cells) (cs : Array Value) (T : TypeId) (hB : Blk w g cs T)
    (hi : (P.info? ty).map (·.size) = some cells.size) (h1 : cells.all (·.oneCell') = true) (hle : o + cells.size ≤ cs.size) (new : Array Value) (hnew : over cs o cells = new)
    (h : wpList P ops Q rest a (w.setRow g new)) : wpList P ops Q (op :: rest) a w :=
  wpList_plain hgd fun _ hK => wp_storeB ty x y ho g o cells hx hy cs T hB hi h1 hle new hnew (hK _ _ (by rw [hdst]; exact h))
theorem wpList_storeV {ops : Array Oper} {rest : List Oper} {op : Oper} {a : Act} {w : World} {Q : Exit → Act → World → Prop} (hgd : op.guard = none) (ty : TypeId) (x y : Operand) (ho : op.op = .store ty x y) (hdst : op.dst = none)
    (g o : Nat) (cells : Array Value) (hx : a.eval x = .pointer (some ⟨g, o, none⟩)) (hy : a.eval y = .agg cells) (cs : Array Value) (T : TypeId) (hB : Blk w g cs T)
    (hi : (P.info? ty).map (·.size) = some cells.size) (h1 : cells.all (·.oneCell') = true) (hle : o + cells.size ≤ cs.size) (new : Array Value) (hnew : over cs o cells = new)
    (h : ∀ w', Frm (fun k => k = g) w w' → Blk w' g new T → wpList P ops Q rest a w') : wpList P ops Q (op :: rest) a w :=
  wpList_storeB hgd ty x y ho hdst g o cells hx hy cs T hB hi h1 hle new hnew (h _ (Frm.row1 (Frm.refl _ _)) hB.setRow)
theorem Blk.new2 {w : World} {A : Obj} {cs : Array Value} {T : TypeId} : Blk ((w.alloc A).alloc (.cells cs T)) (w.heap.size + 1) cs T := by
  have := Blk.new (w := w.alloc A) (cs := cs) (T := T)
  rwa [show (w.alloc A).heap.size = w.heap.size + 1 from by simp] at this
/-- .. into the block that was made last, whole. -/
theorem wpList_storeN {ops : Array Oper} {rest : List Oper} {op : Oper} {a : Act} {w : World} {Q : Exit → Act → World → Prop} (hgd : op.guard = none) (ty : TypeId) (x y : Operand) (ho : op.op = .store ty x y) (hdst : op.dst = none)
    (k : Nat) (hk : w.heap.size = k) (cells : Array Value) (hx : a.eval x = .pointer (some ⟨k, 0, none⟩)) (hy : a.eval y = .agg cells) (cs : Array Value) (T : TypeId)
    (hi : (P.info? ty).map (·.size) = some cells.size) (h1 : cells.all (·.oneCell') = true) (hle : cs.size = cells.size)
    (h : wpList P ops Q rest a (w.alloc (.cells cells T))) : wpList P ops Q (op :: rest) a (w.alloc (.cells cs T)) := by
  subst hk
  exact wpList_plain hgd fun _ hK => wp_store_row ty x y ho w.heap.size cells hx hy T cs (heap_alloc_new w _) hi hle h1 (hK _ _ (by rw [hdst, World.setRow_alloc_new]; exact h))
theorem wpList_storeW {ops : Array Oper} {rest : List Oper} {op : Oper} {a : Act} {w : World} {Q : Exit → Act → World → Prop} (hgd : op.guard = none) (ty : TypeId) (x y : Operand) (ho : op.op = .store ty x y) (hdst : op.dst = none)
    (k : Nat) (hk : w.heap.size = k) (cells : Array Value) (hx : a.eval x = .pointer (some ⟨k, 0, none⟩)) (hy : a.eval y = .agg cells) (cs : Array Value) (T : TypeId)
    (hi : (P.info? ty).map (·.size) = some cells.size) (h1 : cells.all (·.oneCell') = true) (hle : cs.size = cells.size)
    (h : ∀ w', Frm (fun _ => False) w w' → Blk w' k cells T → wpList P ops Q rest a w') : wpList P ops Q (op :: rest) a (w.alloc (.cells cs T)) :=
  wpList_storeN hgd ty x y ho hdst k hk cells hx hy cs T hi h1 hle (h _ (Frm.alloc (Frm.refl _ _)) (by subst hk; exact Blk.new))
theorem wpList_storeWd {ops : Array Oper} {rest : List Oper} {op : Oper} {a : Act} {w : World} {m : Nat} {Q : Exit → Act → World → Prop} (hgd : op.guard = none) (ty : TypeId) (x y : Operand) (ho : op.op = .store ty x y) (hdst : op.dst = none)
    (k : Nat) (hk : w.heap.size = k) (cells : Array Value) (hx : a.eval x = .pointer (some ⟨k, 0, none⟩)) (hy : a.eval y = .agg cells) (cs : Array Value) (T : TypeId)
    (hi : (P.info? ty).map (·.size) = some cells.size) (h1 : cells.all (·.oneCell') = true) (hle : cs.size = cells.size)
    (h : ∀ w', Frm (fun _ => False) w w' → Blk w' k cells T → wpList P ops Q rest a w') : wpList P ops Q (op :: rest) a ((w.alloc (.cells cs T)).drewN m) := by
  have := wpList_storeW (P := P) (w := w.drewN m) (Q := Q) (rest := rest) (ops := ops) (a := a) hgd ty x y ho hdst k hk cells hx hy cs T hi h1 hle (fun w' hF hB => h w' ⟨hF.os, hF.tape, hF.output, hF.size, hF.block⟩ hB)
  exact this
end Go.Proofs.Ytpjjlggonpbegaa
