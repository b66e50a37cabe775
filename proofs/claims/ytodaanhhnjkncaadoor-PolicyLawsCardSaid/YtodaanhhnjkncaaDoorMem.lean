/- The engine's operations that make memory, or write it; addresses in it. -/
import Derived.Test.YtodaanhhnjkncaaDoorVal
namespace Go.Proofs.YtodaanhhnjkncaaDoor
open Go.RowKit

section
variable {P : Program} {C : World → Prop} {ops : Array Oper} {Q : Exit → Act → World → Prop} {n : Nat} {p : Nat → Prop} {w0 : World} {o : Oper} {rest : List Oper} {l : Kn} {L : List Ent}

/-! ### Stores -/
def one : Value → Bool | .agg _ => false | .tuple _ => false | _ => true
theorem run_store_one {w : World} {g k : Nat} {cs : List Value} {v : Value} (hR : Row w g cs) (hk : k < cs.length) (hv : one v = true) : (store ⟨g, k, none⟩ v).run P w = .ok () (w.setCell ⟨g, k, none⟩ v) := by
  have h1 := hR.cell (i := k) (v := cs[k]) (by simp [hk])
  have h2 := hR.frozen hk
  have := run_store P w ⟨g, k, none⟩ v .plain (by cases v <;> first | rfl | (simp [one] at hv))
  rw [this]
  simp [h1, h2]
theorem Frm.set {w : World} {g k : Nat} {v : Value} : Frm (fun b => b = g) w (w.setCell ⟨g, k, none⟩ v) := Frm.set1 (Frm.refl _ _)
theorem WL.store1 {ty g k : Nat} {x y : Operand} {v : Value} {cs : List Value} {L' : List Ent} (ho : o.op = .store ty x y) (hx : ev l x = some (.pointer (some ⟨g, k, none⟩))) (hy : ev l y = some v) (hv : one v = true) (ht : One P ty)
    [At L g cs] (hk : k < cs.length) [Put L g (.row g (cs.set k v)) L'] (hg : On ops o l) (hd : o.dst = none) (h : WL P ops Q n p w0 rest l L') : WL P ops Q n p w0 (o :: rest) l L := by
  refine WL.act hg hd fun a w ha hS => ?_
  have h1 := ha.ev hx
  have h2 := ha.ev hy
  have hR := hS.row (g := g)
  refine ⟨w.setCell ⟨g, k, none⟩ v, L', .inl ?_, hS.put (g := g) (e := .row g (cs.set k v)) rfl Frm.set hR.setCell, h⟩
  have hsz : v.cells.size = 1 := by cases v <;> simp_all [one, Value.cells]
  have hcl : v.cells.toList = [v] := by cases v <;> simp_all [one, Value.cells]
  unfold execOp
  simp [ho, h1, h2, Instr.storeAt, Instr.sureAddr, storeVar, run_sizeOf ht.2, hsz, hcl, storeCells, Addr.add, run_store_one hR hk hv]

/-- Cells laid over others from k on. -/
def splice : List Value → Nat → List Value → List Value
  | [], _, _ => []
  | c :: cs, _, [] => c :: cs
  | _ :: cs, 0, v :: vs => v :: splice cs 0 vs
  | c :: cs, k + 1, v :: vs => c :: splice cs k (v :: vs)
theorem splice_nil (cs : List Value) (k : Nat) : splice cs k [] = cs := by cases cs <;> rfl
theorem splice_eq : ∀ (cs : List Value) (k : Nat) (new : List Value), k + new.length ≤ cs.length → splice cs k new = cs.take k ++ new ++ cs.drop (k + new.length)
  | [], k, new, h => by
    simp only [List.length_nil, Nat.le_zero_eq, Nat.add_eq_zero_iff, List.length_eq_zero_iff] at h
    rw [h.1, h.2]; rfl
  | c :: cs, k, [], _ => by rw [splice_nil]; simp
  | c :: cs, 0, v :: vs, h => by
    have h' : 0 + vs.length ≤ cs.length := by simp at h ⊢; omega
    show v :: splice cs 0 vs = _
    rw [splice_eq cs 0 vs h']
    simp
  | c :: cs, k + 1, v :: vs, h => by
    have h' : k + (v :: vs).length ≤ cs.length := by simp at h ⊢; omega
    show c :: splice cs k (v :: vs) = _
    rw [splice_eq cs k (v :: vs) h', show k + 1 + (v :: vs).length = (k + (v :: vs).length) + 1 by omega]
    simp
theorem splice_cons (cs : List Value) (k : Nat) (v : Value) (new : List Value) (h : k + (new.length + 1) ≤ cs.length) : splice (cs.set k v) (k + 1) new = splice cs k (v :: new) := by
  rw [splice_eq _ _ _ (by rw [List.length_set]; omega), splice_eq _ _ _ (by simpa using h)]
  rw [List.drop_set_of_lt (by omega), List.take_set]
  have : (cs.take (k + 1)).set k v = cs.take k ++ [v] := by
    have hk : k < cs.length := by omega
    apply List.ext_getElem?
    intro i
    by_cases hi : i = k
    · subst hi
      have e : (List.take i cs).length = i := by rw [List.length_take]; omega
      rw [List.getElem?_set_self (by rw [List.length_take]; omega), List.getElem?_append_right (by omega), e, Nat.sub_self]
      rfl
    · rw [List.getElem?_set_ne (by omega)]
      by_cases hlt : i < k
      · rw [List.getElem?_append_left (by simp; omega), List.getElem?_take_of_lt (by omega), List.getElem?_take_of_lt hlt]
      · rw [List.getElem?_append_right (by simp; omega)]
        rw [List.getElem?_eq_none (by simp; omega), List.getElem?_eq_none (by simp; omega)]
  rw [this]
  simp [Nat.add_assoc, Nat.add_comm 1]
theorem splice_length (cs : List Value) (k : Nat) (new : List Value) (h : k + new.length ≤ cs.length) : (splice cs k new).length = cs.length := by rw [splice_eq _ _ _ h]; simp; omega
theorem run_storeCells_row {g : Nat} : ∀ (new : List Value) (i k : Nat) (cs : List Value) (w : World), Row w g cs → k + i + new.length ≤ cs.length → new.all one = true →
    ∃ w', (storeCells ⟨g, k, none⟩ new i).run P w = .ok () w' ∧ Row w' g (splice cs (k + i) new) ∧ Frm (fun b => b = g) w w'
  | [], i, k, cs, w, hR, _, _ => ⟨w, rfl, by rw [splice_nil]; exact hR, Frm.refl _ _⟩
  | v :: new, i, k, cs, w, hR, hle, h1 => by
    simp only [List.all_cons, Bool.and_eq_true] at h1
    simp only [List.length_cons] at hle
    obtain ⟨w', hr, hR', hF⟩ := run_storeCells_row new (i + 1) k (cs.set (k + i) v) _ (hR.setCell (i := k + i) (v := v)) (by rw [List.length_set]; omega) h1.2
    refine ⟨w', ?_, by rw [← splice_cons cs (k + i) v new (by omega)]; exact hR', Frm.set.trans hF⟩
    have ha : (⟨g, k, none⟩ : Addr).add i = ⟨g, k + i, none⟩ := by
      unfold Addr.add; split
      · rename_i h; subst h; rfl
      · rfl
    simp [storeCells, ha, run_store_one hR (show k + i < cs.length by omega) h1.1, hr]
theorem WL.storeN {ty g k m : Nat} {x y : Operand} {new cs : List Value} {L' : List Ent} (ho : o.op = .store ty x y) (hx : ev l x = some (.pointer (some ⟨g, k, none⟩))) (hy : ev l y = some (.agg new.toArray)) (hall : new.all one = true)
    (ht : Many P ty m) (hm : new.length = m) [At L g cs] (hk : k + m ≤ cs.length) [Put L g (.row g (splice cs k new)) L'] (hg : On ops o l) (hd : o.dst = none) (h : WL P ops Q n p w0 rest l L') : WL P ops Q n p w0 (o :: rest) l L := by
  subst hm
  refine WL.act hg hd fun a w ha hS => ?_
  have h1 := ha.ev hx
  have h2 := ha.ev hy
  have hR := hS.row (g := g)
  obtain ⟨w', hr, hR', hF⟩ := run_storeCells_row (P := P) new 0 k cs w hR (by omega) hall
  refine ⟨w', L', .inl ?_, hS.put (g := g) (e := .row g (splice cs k new)) rfl hF (show Row _ _ _ by simpa using hR'), h⟩
  unfold execOp
  simp [ho, h1, h2, Instr.storeAt, Instr.sureAddr, storeVar, run_sizeOf ht.2, Value.cells, hr]
/-- The whole block anew. -/
theorem WL.storeW {ty g m : Nat} {x y : Operand} {new cs : List Value} {L' : List Ent} (ho : o.op = .store ty x y) (hx : ev l x = some (.pointer (some ⟨g, 0, none⟩))) (hy : ev l y = some (.agg new.toArray)) (hall : new.all one = true)
    (ht : Many P ty m) (hm : new.length = m) [At L g cs] (hk : cs.length = m) [Put L g (.row g new) L'] (hg : On ops o l) (hd : o.dst = none) (h : WL P ops Q n p w0 rest l L') : WL P ops Q n p w0 (o :: rest) l L := by
  have e : splice cs 0 new = new := by rw [splice_eq _ _ _ (by omega)]; simp; omega
  have i : Put L g (.row g (splice cs 0 new)) L' := by rw [e]; infer_instance
  exact WL.storeN (cs := cs) (k := 0) ho hx hy hall ht hm (by omega) hg hd h

/-! ### New memory -/
theorem Frm.new {w : World} {ob : Obj} : Frm (fun _ => False) w (w.alloc ob) := Frm.alloc (Frm.refl _ _)
theorem St.new {w : World} {cs : List Value} {T : TypeId} (hS : St p w0 w L) : St p w0 (w.alloc (.cells cs.toArray T)) (.row w.heap.size cs :: L) := hS.add Frm.new (Nat.le_refl _) (Row.new (cs := cs.toArray))
theorem St.newObj {w : World} {ob : Obj} (hS : St p w0 w L) (hn : Obj.noCells ob) : St p w0 (w.alloc ob) (.obj w.heap.size ob :: L) := hS.add Frm.new (Nat.le_refl _) ⟨heap_alloc_new w ob, hn⟩
theorem WL.alloc {ty d : Nat} {zs : List Value} (ho : o.op = .alloc ty) (hz : Zero P ty zs) (hg : On ops o l) (hd : o.dst = some d) (hn : Nat.blt d n = true)
    (h : ∀ g, w0.heap.size ≤ g → WL P ops Q n p w0 rest ((d, .pointer (some ⟨g, 0, none⟩)) :: l) (.row g zs :: L)) : WL P ops Q n p w0 (o :: rest) l L := by
  refine WL.op hg hd hn fun a w ha hS => ?_
  obtain ⟨z, hz, rfl⟩ := hz
  refine ⟨_, _, _, ?_, St.new (T := ty) hS, h _ hS.frm.size⟩
  unfold execOp
  simp [ho, Instr.alloc, run_zeroValue hz, newVar, newRow, newObj, Sem.run]
theorem WL.box {ty d : Nat} {x : Operand} {v : Value} {cs : List Value} (ho : o.op = .box ty x) (hx : ev l x = some v) (hc : v.cells = cs.toArray) (hg : On ops o l) (hd : o.dst = some d) (hn : Nat.blt d n = true)
    (h : ∀ g, w0.heap.size ≤ g → WL P ops Q n p w0 rest ((d, .pointer (some ⟨g, 0, none⟩)) :: l) (.row g cs :: L)) : WL P ops Q n p w0 (o :: rest) l L := by
  refine WL.op hg hd hn fun a w ha hS => ?_
  have h1 := ha.ev hx
  refine ⟨_, _, _, ?_, St.new (cs := cs) (T := ty) hS, h _ hS.frm.size⟩
  unfold execOp
  simp [ho, h1, Instr.box, newVar, newRow, newObj, Sem.run, hc]
/-- make([]T, m, c), an element one cell. -/
theorem WL.make1 {t e d m c by_ : Nat} {x y : Operand} {k k' : IntKind} {A B : Int} {z : Value} (ho : o.op = .makeSlice t x y) (hx : ev l x = some (.int k A)) (hy : ev l y = some (.int k' B)) (hA : A = (m : Int)) (hB : B = (c : Int)) (hmc : m ≤ c)
    (hu : P.underlying t = some (.slice e)) (hb : (P.info? e).map (·.bytes) = some by_) (hbig : by_ * c ≤ 281474976710656) (hc63 : c < 2 ^ 62) (he : One P e) (hz : Zero P e [z]) (hg : On ops o l) (hd : o.dst = some d) (hn : Nat.blt d n = true)
    (h : ∀ g, w0.heap.size ≤ g → WL P ops Q n p w0 rest ((d, .slice (some ⟨g, 0, none⟩) m c) :: l) (.row g (List.replicate c z) :: L)) : WL P ops Q n p w0 (o :: rest) l L := by
  refine WL.op hg hd hn fun a w ha hS => ?_
  have h1 := ha.ev hx
  have h2 := ha.ev hy
  subst hA hB
  obtain ⟨zz, hz, hzz⟩ := hz
  refine ⟨_, _, _, ?_, St.new (cs := List.replicate c z) (T := e) hS, h _ hS.frm.size⟩
  have hwm : IntKind.i64.wrap (m : Int) = m := w_i64 (by omega) (by omega)
  have hwc : IntKind.i64.wrap (c : Int) = c := w_i64 (by omega) (by omega)
  have hsz := run_sizeOf (P := P) he.2
  have hq : ∃ i, P.info? e = some i ∧ i.bytes = by_ := by
    cases hq : P.info? e with
    | none => simp [hq] at hb
    | some i => exact ⟨i, rfl, by simpa [hq] using hb⟩
  obtain ⟨i, hi, hib⟩ := hq
  have hnc : ¬ ((by_ : Int) * (c : Int) > 2 ^ 48) := by
    have h := Int.ofNat_le.2 hbig
    rw [Int.natCast_mul] at h
    omega
  have hask : ∀ (k : Nat) (w : World), (askRoom k).run P w = .ok () w := fun k w => by
    unfold askRoom
    by_cases h : k > roomBytes
    · rw [if_pos h]; rfl
    · rw [if_neg h]; rfl
  have hrow : (Array.map (fun x => zz.cells[x % zz.cells.size]!) (Array.range c)) = (List.replicate c z).toArray := by
    have hzs : zz.cells = #[z] := by rw [← hzz]
    rw [hzs]
    apply Array.ext
    · simp
    · intro j h1 h2
      simp only [Array.getElem_map, Array.getElem_range, List.size_toArray, List.getElem_toArray, List.getElem_replicate]
      simp [Nat.mod_one]
  unfold execOp
  simp only [ho, h1, h2, Instr.makeSlice, Sem.run_bind, run_underlying hu, Result.andThen, asInt, asIntOf, Sem.run_pure, typeInfo, program, Sem.run, hi, hib, hwm, hwc]
  have ht1 : (decide ((c : Int) < 0) || decide ((by_ : Int) * (c : Int) > 2 ^ 48) || decide ((m : Int) < 0) || decide ((m : Int) > (c : Int))) = false := by
    simp only [Bool.or_eq_false_iff, decide_eq_false_iff_not]
    exact ⟨⟨⟨by omega, hnc⟩, by omega⟩, by omega⟩
  simp only [ht1, Bool.false_eq_true, if_false, Int.toNat_natCast]
  by_cases h0 : c = 0
  · subst h0
    have h0 : ∀ f : Nat → Value, Array.map f (Array.range 0) = #[] := fun f => Array.ext (by simp) (fun i h => by simp at h)
    simp [hask, hsz, newRow, newObj, Sem.run, h0]
  · simp [hask, hsz, h0, run_zeroValue hz, hrow, newRow, newObj, Sem.run]

/-! ### Slices -/
def sAddr (off l cap s : Nat) : Nat := if cap = l then off else off + l * s
theorem addr_add (g off k : Nat) : (⟨g, off, none⟩ : Addr).add k = ⟨g, off + k, none⟩ := by
  unfold Addr.add; split
  · rename_i h; subst h; rfl
  · rfl
theorem slice_addr (b off lo cap s : Nat) : (if cap = lo then some (⟨b, off, none⟩ : Addr) else (some (⟨b, off, none⟩ : Addr)).map (·.add (lo * s))) = some ⟨b, sAddr off lo cap s, none⟩ := by
  unfold sAddr; split <;> simp [addr_add]
section
variable {t e s b off len cap lo hi : Nat} {x xl xh : Operand} {k : IntKind} {A B : Int}
/-- x[lo:] of a slice. -/
theorem v_slice_lo (ho : o.op = .slice t x (some xl) none none) (hx : ev l x = some (.slice (some ⟨b, off, none⟩) len cap)) (hl : ev l xl = some (.int k A)) (hu : P.underlying t = some (.slice e)) (hs : (P.info? e).map (·.size) = some s) (hA : A = (lo : Int)) (hle : lo ≤ len) :
    Val P C n l o (.slice (some ⟨b, sAddr off lo cap s, none⟩) (len - lo) (cap - lo)) := fun a w ha _ => by
  have h1 := ha.ev hx; have h2 := ha.ev hl
  subst hA
  have hi : (0 : Int) ≤ lo ∧ (lo : Int) ≤ len := by omega
  unfold execOp
  simp [ho, h1, h2, Instr.sliceAt, run_underlying hu, Instr.slice, Instr.sliceBounds, Instr.sliceBound, asIntOf, hle, run_sizeOf hs]
  simpa using slice_addr b off lo cap s
/-- .. that does not begin at the capacity's end. -/
theorem v_slice_loS (ho : o.op = .slice t x (some xl) none none) (hx : ev l x = some (.slice (some ⟨b, off, none⟩) len cap)) (hl : ev l xl = some (.int k A)) (hu : P.underlying t = some (.slice e)) (hs : (P.info? e).map (·.size) = some s) (hA : A = (lo : Int)) (hle : lo ≤ len) (hlt : lo < cap) :
    Val P C n l o (.slice (some ⟨b, off + lo * s, none⟩) (len - lo) (cap - lo)) := by
  have := v_slice_lo (C := C) (n := n) ho hx hl hu hs hA hle
  rwa [show sAddr off lo cap s = off + lo * s by unfold sAddr; rw [if_neg (by omega)]] at this
/-- x[:hi] of a slice. -/
theorem v_slice_hi {ad : Option Addr} (ho : o.op = .slice t x none (some xh) none) (hx : ev l x = some (.slice ad len cap)) (hh : ev l xh = some (.int k B)) (hu : P.underlying t = some (.slice e)) (hs : (P.info? e).map (·.size) = some s) (hB : B = (hi : Int)) (hle : hi ≤ cap) :
    Val P C n l o (.slice ad hi cap) := fun a w ha _ => by
  have h1 := ha.ev hx; have h2 := ha.ev hh
  subst hB
  have hi' : (0 : Int) ≤ hi ∧ (hi : Int) ≤ cap := by omega
  unfold execOp
  simp [ho, h1, h2, Instr.sliceAt, run_underlying hu, Instr.slice, Instr.sliceBounds, Instr.sliceBound, asIntOf, hle, run_sizeOf hs]
  cases ad <;> simp [Addr.add]
/-- x[lo:hi] of a slice. -/
theorem v_slice_lh {kh : IntKind} (ho : o.op = .slice t x (some xl) (some xh) none) (hx : ev l x = some (.slice (some ⟨b, off, none⟩) len cap)) (hl : ev l xl = some (.int k A)) (hh : ev l xh = some (.int kh B)) (hu : P.underlying t = some (.slice e)) (hs : (P.info? e).map (·.size) = some s)
    (hA : A = (lo : Int)) (hB : B = (hi : Int)) (hle : lo ≤ hi) (hle' : hi ≤ cap) :
    Val P C n l o (.slice (some ⟨b, sAddr off lo cap s, none⟩) (hi - lo) (cap - lo)) := fun a w ha _ => by
  have h1 := ha.ev hx; have h2 := ha.ev hl; have h3 := ha.ev hh
  subst hA hB
  have hi1 : (0 : Int) ≤ hi ∧ (hi : Int) ≤ cap := by omega
  have hi2 : (0 : Int) ≤ lo ∧ (lo : Int) ≤ hi := by omega
  unfold execOp
  simp [ho, h1, h2, h3, Instr.sliceAt, run_underlying hu, Instr.slice, Instr.sliceBounds, Instr.sliceBound, asIntOf, hle, hle', run_sizeOf hs]
  simpa using slice_addr b off lo cap s
theorem v_slice_lhS {kh : IntKind} (ho : o.op = .slice t x (some xl) (some xh) none) (hx : ev l x = some (.slice (some ⟨b, off, none⟩) len cap)) (hl : ev l xl = some (.int k A)) (hh : ev l xh = some (.int kh B)) (hu : P.underlying t = some (.slice e)) (hs : (P.info? e).map (·.size) = some s)
    (hA : A = (lo : Int)) (hB : B = (hi : Int)) (hle : lo ≤ hi) (hle' : hi ≤ cap) (hlt : lo < cap) :
    Val P C n l o (.slice (some ⟨b, off + lo * s, none⟩) (hi - lo) (cap - lo)) := by
  have := v_slice_lh (C := C) (n := n) ho hx hl hh hu hs hA hB hle hle'
  rwa [show sAddr off lo cap s = off + lo * s by unfold sAddr; rw [if_neg (by omega)]] at this
/-- A whole array, sliced. -/
theorem v_slice_arr {m : Nat} (ho : o.op = .slice t x none none none) (hx : ev l x = some (.pointer (some ⟨b, off, none⟩))) (hu : P.underlying t = some (.array m e)) (hs : (P.info? e).map (·.size) = some s) :
    Val P C n l o (.slice (some ⟨b, off, none⟩) m m) := fun a w ha _ => by
  have h1 := ha.ev hx
  unfold execOp
  simp [ho, h1, Instr.sliceAt, run_underlying hu, Instr.sureAddr, Instr.sliceBounds, run_sizeOf hs, Addr.add]
/-- &x[i] of a slice. -/
theorem v_indexAddr (ho : o.op = .indexAddr t x xl) (hx : ev l x = some (.slice (some ⟨b, off, none⟩) len cap)) (hl : ev l xl = some (.int k A)) (hu : P.underlying t = some (.slice e)) (hs : (P.info? e).map (·.size) = some s) (hA : A = (lo : Int)) (hlt : lo < len) :
    Val P C n l o (.pointer (some ⟨b, off + lo * s, none⟩)) := fun a w ha _ => by
  have h1 := ha.ev hx; have h2 := ha.ev hl
  subst hA
  have hi : (0 : Int) ≤ lo ∧ (lo : Int) < len := by omega
  unfold execOp
  simp [ho, h1, h2, Instr.indexAt, run_underlying hu, asIntOf, hlt, run_sizeOf hs, addr_add]
/-- &x[i] of an array. -/
theorem v_indexAddrA {m : Nat} (ho : o.op = .indexAddr t x xl) (hx : ev l x = some (.pointer (some ⟨b, off, none⟩))) (hl : ev l xl = some (.int k A)) (hu : P.underlying t = some (.array m e)) (hs : (P.info? e).map (·.size) = some s) (hA : A = (lo : Int)) (hlt : lo < m) :
    Val P C n l o (.pointer (some ⟨b, off + lo * s, none⟩)) := fun a w ha _ => by
  have h1 := ha.ev hx; have h2 := ha.ev hl
  subst hA
  have hi : (0 : Int) ≤ lo ∧ (lo : Int) < m := by omega
  unfold execOp
  simp [ho, h1, h2, Instr.indexAt, run_underlying hu, asIntOf, hlt, run_sizeOf hs, addr_add, Instr.sureAddr]
/-- x[i] of a string. -/
theorem v_indexS {bs : ByteArray} {v : UInt8} (ho : o.op = .index t x xl) (hx : ev l x = some (.string bs)) (hl : ev l xl = some (.int k A)) (hu : P.underlying t = some .string) (hA : A = (lo : Int)) (hv : bs[lo]? = some v) :
    Val P C n l o (.int .u8 v.toNat) := fun a w ha _ => by
  have h1 := ha.ev hx; have h2 := ha.ev hl
  subst hA
  unfold execOp
  simp [ho, h1, h2, Instr.index, run_underlying hu, asIntOf, hv]
/-- x[i] of an array's value, an element one cell. -/
theorem v_indexV {m : Nat} {cs : List Value} {v : Value} (ho : o.op = .index t x xl) (hx : ev l x = some (.agg cs.toArray)) (hl : ev l xl = some (.int k A)) (hu : P.underlying t = some (.array m e)) (he : One P e) (hA : A = (lo : Int)) (hlt : lo < m) (hv : cs[lo]? = some v) :
    Val P C n l o v := fun a w ha _ => by
  have h1 := ha.ev hx; have h2 := ha.ev hl
  subst hA
  have hi : (0 : Int) ≤ lo ∧ (lo : Int) < m := by omega
  unfold execOp
  simp [ho, h1, h2, Instr.index, run_underlying hu, asIntOf, hlt, run_sizeOf he.2, part, he.agg, hv]
end
/-! ### len -/
theorem run_builtin {a : Act} {w : World} {bi : Builtin} {xs : List Operand} {ts : Array TypeId} {vs : List Value} (ho : o.op = .call { callee := .builtin bi, args := xs.toArray, argTypes := ts }) (hx : evs l xs = some vs) (ha : Has n a l) :
    ∃ consts, (execOp a.eval o).run P w = (builtin bi ts o.type consts vs.toArray).run P w := by
  have h2 := ha.evs hx
  refine ⟨xs.toArray.map (fun | .const _ => true | _ => false), ?_⟩
  unfold execOp
  simp [ho, resolve, invoke, ← h2]
  rfl
theorem v_len_slice {t e len cap : Nat} {ad : Option Addr} {x : Operand} (ho : o.op = .call { callee := .builtin .len, args := #[x], argTypes := #[t] }) (hx : ev l x = some (.slice ad len cap)) (hu : P.underlying t = some (.slice e)) : Val P C n l o (.int .i64 len) := fun a w ha _ => by
  have hx' : evs l [x] = some [.slice ad len cap] := by simp [evs, hx]
  obtain ⟨cs, h⟩ := run_builtin (P := P) (w := w) (xs := [x]) ho hx' ha
  rw [h]
  simp [builtin, Builtin.len_, run_underlying hu, goInt]
theorem v_len_string {t : Nat} {bs : ByteArray} {x : Operand} (ho : o.op = .call { callee := .builtin .len, args := #[x], argTypes := #[t] }) (hx : ev l x = some (.string bs)) (hu : P.underlying t = some .string) : Val P C n l o (.int .i64 bs.size) := fun a w ha _ => by
  have hx' : evs l [x] = some [.string bs] := by simp [evs, hx]
  obtain ⟨cs, h⟩ := run_builtin (P := P) (w := w) (xs := [x]) ho hx' ha
  rw [h]
  simp [builtin, Builtin.len_, run_underlying hu, goInt]
end
end Go.Proofs.YtodaanhhnjkncaaDoor
