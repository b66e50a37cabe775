/- The engine's operations: one law each. -/
import Derived.Test.YtodaanhhnjkncaaDoorStp
import Derived.Laws.BitsAllLaws
import Derived.Laws.Bits64
import Derived.Deep.MidRow
namespace Go.Proofs.YtodaanhhnjkncaaDoor
open Go.RowKit

section
variable {P : Program} {C : World → Prop} {ops : Array Oper} {Q : Exit → Act → World → Prop} {n : Nat} {p : Nat → Prop} {w0 : World} {o : Oper} {rest : List Oper} {l : Kn} {L : List Ent}

/-! ### Types: closed facts -/
/-- A type whose values fill one cell. -/
def One (P : Program) (t : TypeId) : Prop := (∃ d, P.underlying t = some d ∧ d.isRow = false) ∧ (P.info? t).map (·.size) = some 1
def Many (P : Program) (t : TypeId) (m : Nat) : Prop := (∃ d, P.underlying t = some d ∧ d.isRow = true) ∧ (P.info? t).map (·.size) = some m
/-- Field i of a struct begins at cell k (its type is of one cell at least). -/
def FieldAt (P : Program) (s i k ft : Nat) : Prop := ∃ fs f m, P.underlying s = some (.struct fs) ∧ fs[i]? = some f ∧ f.offset = k ∧ f.type = ft ∧ (P.info? ft).map (·.size) = some (m + 1)
theorem FieldAt.mk {s i k ft m : Nat} {fs : Array Field} {f : Field} (hu : P.underlying s = some (.struct fs)) (hf : fs[i]? = some f) (hk : f.offset = k) (ht : f.type = ft) (hs : (P.info? ft).map (·.size) = some (m + 1)) : FieldAt P s i k ft := ⟨fs, f, m, hu, hf, hk, ht, hs⟩
def Zero (P : Program) (t : TypeId) (zs : List Value) : Prop := ∃ z, (P.info? t).bind (·.zero) = some z ∧ z.cells.toList = zs
theorem Zero.mk {t : TypeId} {zs : List Value} {z : Value} (h : (P.info? t).bind (·.zero) = some z) (hz : z.cells.toList = zs) : Zero P t zs := ⟨z, h, hz⟩
theorem One.mk {t : TypeId} {d : TypeDesc} (hu : P.underlying t = some d) (hd : d.isRow = false) (hs : (P.info? t).map (·.size) = some 1) : One P t := ⟨⟨d, hu, hd⟩, hs⟩
theorem Many.mk {t m : Nat} {d : TypeDesc} (hu : P.underlying t = some d) (hd : d.isRow = true) (hs : (P.info? t).map (·.size) = some m) : Many P t m := ⟨⟨d, hu, hd⟩, hs⟩

theorem run_sizeOf {t m : Nat} (hs : (P.info? t).map (·.size) = some m) (w : World) : (sizeOf t).run P w = .ok m w := by
  cases hq : P.info? t with
  | none => simp [hq] at hs
  | some i => simp [hq] at hs; simp [sizeOf, typeInfo, hq, hs]
theorem One.agg {t : TypeId} (h : One P t) (w : World) : (isAgg t).run P w = .ok false w := by
  obtain ⟨⟨d, hu, hd⟩, _⟩ := h
  unfold isAgg
  rw [Sem.run_bind, run_underlying hu w]
  cases d <;> simp_all
theorem Many.agg {t m : Nat} (h : Many P t m) (w : World) : (isAgg t).run P w = .ok true w := by
  obtain ⟨⟨d, hu, hd⟩, _⟩ := h
  unfold isAgg
  rw [Sem.run_bind, run_underlying hu w]
  cases d <;> simp_all
theorem run_zeroValue {t : TypeId} {z : Value} (h : (P.info? t).bind (·.zero) = some z) (w : World) : (zeroValue t).run P w = .ok z w := by
  cases hq : P.info? t with
  | none => simp [hq] at h
  | some i => simp [hq] at h; simp [zeroValue, typeInfo, hq, h]

/-! ### Moves -/
theorem v_move {x : Operand} {v : Value} (ho : o.op = .move x) (hx : ev l x = some v) : Val P C n l o v := fun a w ha _ => by unfold execOp; simp [ho, ha.ev hx]
theorem v_assign {x : Operand} {v : Value} (ho : o.op = .assign x) (hx : ev l x = some v) : Val P C n l o v := fun a w ha _ => by unfold execOp; simp [ho, ha.ev hx]
theorem v_pick_t {c x y : Operand} {v : Value} (ho : o.op = .pick c x y) (hc : ev l c = some (.bool true)) (hx : ev l x = some v) : Val P C n l o v := fun a w ha _ => by
  have h1 := ha.ev hc; have h2 := ha.ev hx
  unfold execOp; simp [ho, h1, h2, asBool]
theorem v_pick_f {c x y : Operand} {v : Value} (ho : o.op = .pick c x y) (hc : ev l c = some (.bool false)) (hx : ev l y = some v) : Val P C n l o v := fun a w ha _ => by
  have h1 := ha.ev hc; have h2 := ha.ev hx
  unfold execOp; simp [ho, h1, h2, asBool]
theorem v_extract {x : Operand} {i : Nat} {vs : List Value} {v : Value} (ho : o.op = .extract x i) (hx : ev l x = some (.tuple vs.toArray)) (hv : vs[i]? = some v) : Val P C n l o v := fun a w ha _ => by
  have h1 := ha.ev hx
  unfold execOp; simp [ho, h1, Instr.extract, hv]
theorem v_nilCheck {x : Operand} {ad : Addr} (ho : o.op = .nilCheck x) (hx : ev l x = some (.pointer (some ad))) : Val P C n l o (.pointer (some ad)) := fun a w ha _ => by
  have h1 := ha.ev hx
  unfold execOp; simp [ho, h1]
theorem v_not {t : TypeId} {x : Operand} {b c : Bool} (ho : o.op = .unOp .not t x) (hx : ev l x = some (.bool b)) (hc : (!b) = c) : Val P C n l o (.bool c) := fun a w ha _ => by
  have h1 := ha.ev hx
  subst hc
  unfold execOp; simp [ho, h1, Op.unary]
theorem v_notD {t : TypeId} {x : Operand} {q : Prop} [Decidable q] (ho : o.op = .unOp .not t x) (hx : ev l x = some (.bool (decide q))) : Val P C n l o (.bool (decide (¬ q))) := v_not ho hx (by simp)
theorem v_neg {t : TypeId} {x : Operand} {k : IntKind} {A r : Int} (ho : o.op = .unOp .neg t x) (hx : ev l x = some (.int k A)) (hr : k.wrap (0 - A) = r) : Val P C n l o (.int k r) := fun a w ha _ => by
  have h1 := ha.ev hx
  subst hr
  unfold execOp; simp [ho, h1, Op.unary, Op.intArith]
theorem v_com {t : TypeId} {x : Operand} {k : IntKind} {A r : Int} (ho : o.op = .unOp .xor t x) (hx : ev l x = some (.int k A)) (hr : bits .xor k (if k.signed then -1 else k.max) A = r) : Val P C n l o (.int k r) := fun a w ha _ => by
  have h1 := ha.ev hx
  subst hr
  unfold execOp; simp [ho, h1, Op.unary, intBits_xor]

/-! ### Numbers -/
section
variable {t yt : TypeId} {x y : Operand} {k : IntKind} {A B r : Int}
theorem run_int2 {op : BinOp} {a : Act} {w : World} (ho : o.op = .binOp op t x y yt) (h1 : a.eval x = .int k A) (h2 : a.eval y = .int k B) :
    (execOp a.eval o).run P w = ((binOp op t (.int k A) (.int k B)).run P w).andThen (fun v w' => .ok (.value v) w') := by
  unfold execOp
  simp only [ho, h1, h2, eqGuard]
  split <;> simp [Result.andThen] <;> cases (binOp op t (.int k A) (.int k B)).run P w <;> rfl
theorem v_add (ho : o.op = .binOp .add t x y yt) (hx : ev l x = some (.int k A)) (hy : ev l y = some (.int k B)) (hr : k.wrap (A + B) = r) : Val P C n l o (.int k r) := fun a w ha _ => by
  rw [run_int2 ho (ha.ev hx) (ha.ev hy), ← hr]; simp [binOp, Op.intArith, Result.andThen]
theorem v_sub (ho : o.op = .binOp .sub t x y yt) (hx : ev l x = some (.int k A)) (hy : ev l y = some (.int k B)) (hr : k.wrap (A - B) = r) : Val P C n l o (.int k r) := fun a w ha _ => by
  rw [run_int2 ho (ha.ev hx) (ha.ev hy), ← hr]; simp [binOp, Op.intArith, Result.andThen]
theorem v_mul (ho : o.op = .binOp .mul t x y yt) (hx : ev l x = some (.int k A)) (hy : ev l y = some (.int k B)) (hr : k.wrap (A * B) = r) : Val P C n l o (.int k r) := fun a w ha _ => by
  rw [run_int2 ho (ha.ev hx) (ha.ev hy), ← hr]; simp [binOp, Op.intArith, Result.andThen]
theorem v_quo (ho : o.op = .binOp .quo t x y yt) (hx : ev l x = some (.int k A)) (hy : ev l y = some (.int k B)) (hA : 0 ≤ A) (hB : 0 < B) (hr : k.wrap (A / B) = r) : Val P C n l o (.int k r) := fun a w ha _ => by
  have h : ¬ B = 0 := by omega
  rw [run_int2 ho (ha.ev hx) (ha.ev hy), ← hr]; simp [binOp, Op.intDiv, h, Result.andThen, Int.tdiv_eq_ediv_of_nonneg hA]
theorem v_rem (ho : o.op = .binOp .rem t x y yt) (hx : ev l x = some (.int k A)) (hy : ev l y = some (.int k B)) (hA : 0 ≤ A) (hB : 0 < B) : Val P C n l o (.int k (A % B)) := fun a w ha _ => by
  have h : ¬ B = 0 := by omega
  rw [run_int2 ho (ha.ev hx) (ha.ev hy)]; simp [binOp, Op.intDiv, h, Result.andThen, Int.tmod_eq_emod_of_nonneg hA]
theorem v_and (ho : o.op = .binOp .and t x y yt) (hx : ev l x = some (.int k A)) (hy : ev l y = some (.int k B)) (hr : bits .and k A B = r) : Val P C n l o (.int k r) := fun a w ha _ => by
  rw [run_int2 ho (ha.ev hx) (ha.ev hy), ← hr]; simp [binOp, intBits_and, Result.andThen]
theorem v_or (ho : o.op = .binOp .or t x y yt) (hx : ev l x = some (.int k A)) (hy : ev l y = some (.int k B)) (hr : bits .or k A B = r) : Val P C n l o (.int k r) := fun a w ha _ => by
  rw [run_int2 ho (ha.ev hx) (ha.ev hy), ← hr]; simp [binOp, intBits_or, Result.andThen]
theorem v_xor (ho : o.op = .binOp .xor t x y yt) (hx : ev l x = some (.int k A)) (hy : ev l y = some (.int k B)) (hr : bits .xor k A B = r) : Val P C n l o (.int k r) := fun a w ha _ => by
  rw [run_int2 ho (ha.ev hx) (ha.ev hy), ← hr]; simp [binOp, intBits_xor, Result.andThen]
theorem v_andNot (ho : o.op = .binOp .andNot t x y yt) (hx : ev l x = some (.int k A)) (hy : ev l y = some (.int k B)) (hr : bits .andNot k A B = r) : Val P C n l o (.int k r) := fun a w ha _ => by
  rw [run_int2 ho (ha.ev hx) (ha.ev hy), ← hr]; simp [binOp, intBits_andNot, Result.andThen]
theorem v_lss (ho : o.op = .binOp .lss t x y yt) (hx : ev l x = some (.int k A)) (hy : ev l y = some (.int k B)) : Val P C n l o (.bool (decide (A < B))) := fun a w ha _ => by
  rw [run_int2 ho (ha.ev hx) (ha.ev hy)]; simp [binOp, Op.intCmp, Result.andThen]
theorem v_leq (ho : o.op = .binOp .leq t x y yt) (hx : ev l x = some (.int k A)) (hy : ev l y = some (.int k B)) : Val P C n l o (.bool (decide (A ≤ B))) := fun a w ha _ => by
  rw [run_int2 ho (ha.ev hx) (ha.ev hy)]; simp [binOp, Op.intCmp, Result.andThen]
theorem v_gtr (ho : o.op = .binOp .gtr t x y yt) (hx : ev l x = some (.int k A)) (hy : ev l y = some (.int k B)) : Val P C n l o (.bool (decide (B < A))) := fun a w ha _ => by
  rw [run_int2 ho (ha.ev hx) (ha.ev hy)]; simp [binOp, Op.intCmp, Result.andThen]
theorem v_geq (ho : o.op = .binOp .geq t x y yt) (hx : ev l x = some (.int k A)) (hy : ev l y = some (.int k B)) : Val P C n l o (.bool (decide (B ≤ A))) := fun a w ha _ => by
  rw [run_int2 ho (ha.ev hx) (ha.ev hy)]; simp [binOp, Op.intCmp, Result.andThen]
theorem v_eql (ho : o.op = .binOp .eql t x y yt) (hx : ev l x = some (.int k A)) (hy : ev l y = some (.int k B)) : Val P C n l o (.bool (decide (A = B))) := fun a w ha _ => by
  rw [run_int2 ho (ha.ev hx) (ha.ev hy)]; simp [binOp, Op.intCmp, Result.andThen]; rfl
theorem v_neq (ho : o.op = .binOp .neq t x y yt) (hx : ev l x = some (.int k A)) (hy : ev l y = some (.int k B)) : Val P C n l o (.bool (decide (A ≠ B))) := fun a w ha _ => by
  rw [run_int2 ho (ha.ev hx) (ha.ev hy)]; simp [binOp, Op.intCmp, Result.andThen, bne]; rfl
theorem run_shift {op : BinOp} {yk : IntKind} {a : Act} {w : World} (hop : op = .shl ∨ op = .shr) (ho : o.op = .binOp op t x y yt) (h1 : a.eval x = .int k A) (h2 : a.eval y = .int yk B) :
    (execOp a.eval o).run P w = ((Op.shift op k A yk B).run P w).andThen (fun v w' => .ok (.value v) w') := by
  unfold execOp
  rcases hop with rfl | rfl <;>
  (simp only [ho, h1, h2, eqGuard, binOp]
   simp [Result.andThen])
theorem v_shr {yk : IntKind} {m : Nat} {c : Int} (ho : o.op = .binOp .shr t x y yt) (hx : ev l x = some (.int k A)) (hy : ev l y = some (.int yk B)) (hm : B = (m : Int)) (hle : m ≤ k.bits) (hc : (2 : Int) ^ m = c) : Val P C n l o (.int k (A / c)) := fun a w ha _ => by
  subst hm hc
  rw [run_shift (.inr rfl) ho (ha.ev hx) (ha.ev hy), shift_shr k yk A m (by omega) (by omega)]; simp [Result.andThen]
theorem v_shl {yk : IntKind} {m : Nat} {c : Int} (ho : o.op = .binOp .shl t x y yt) (hx : ev l x = some (.int k A)) (hy : ev l y = some (.int yk B)) (hm : B = (m : Int)) (hle : m ≤ k.bits) (hc : (2 : Int) ^ m = c) (hr : k.wrap (A * c) = r) : Val P C n l o (.int k r) := fun a w ha _ => by
  subst hm hc hr
  rw [run_shift (.inl rfl) ho (ha.ev hx) (ha.ev hy), shift_shl k yk A m (by omega) (by omega)]; simp [Result.andThen]
theorem v_conv {s dst : TypeId} {k' : IntKind} (ho : o.op = .convert s dst x) (hx : ev l x = some (.int k' A)) (hd : P.underlying dst = some (.int k)) {ds : TypeDesc} (hs : P.underlying s = some ds) (hr : k.wrap A = r) : Val P C n l o (.int k r) := fun a w ha _ => by
  have h1 := ha.ev hx
  subst hr
  unfold execOp
  simp [ho, h1, convert, run_underlying hd, run_underlying hs, Conv.intToInt]
end
theorem w_i64 {z : Int} (h : -9223372036854775808 ≤ z) (h' : z ≤ 9223372036854775807) : IntKind.i64.wrap z = z := by rw [IntKind.wrap_i64]; omega
theorem w_u8 {z : Int} (h : 0 ≤ z) (h' : z ≤ 255) : IntKind.u8.wrap z = z := by rw [IntKind.wrap_u8']; omega
theorem w_u16 {z : Int} (h : 0 ≤ z) (h' : z ≤ 65535) : IntKind.u16.wrap z = z := by rw [IntKind.wrap_u16]; omega
theorem w_u32 {z : Int} (h : 0 ≤ z) (h' : z ≤ 4294967295) : IntKind.u32.wrap z = z := by rw [IntKind.wrap_u32']; omega
theorem w_u64 {z : Int} (h : 0 ≤ z) (h' : z ≤ 18446744073709551615) : IntKind.u64.wrap z = z := by rw [IntKind.wrap_u64]; omega
theorem w_u8m (z : Int) : IntKind.u8.wrap z = z % 256 := IntKind.wrap_u8' z
theorem w_u16m (z : Int) : IntKind.u16.wrap z = z % 65536 := IntKind.wrap_u16 z
theorem w_u32m (z : Int) : IntKind.u32.wrap z = z % 4294967296 := IntKind.wrap_u32' z
theorem w_u64m (z : Int) : IntKind.u64.wrap z = z % 18446744073709551616 := IntKind.wrap_u64 z
/-- A test is decided on the spot. -/
theorem dT {q : Prop} [Decidable q] (h : q) : decide q = true := decide_eq_true h
theorem dF {q : Prop} [Decidable q] (h : ¬ q) : decide q = false := decide_eq_false h
theorem Val.eq {u v : Value} (h : Val P C n l o u) (e : u = v) : Val P C n l o v := e ▸ h
theorem Val.t {q : Prop} [Decidable q] (h : Val P C n l o (.bool (decide q))) (hq : q) : Val P C n l o (.bool true) := h.eq (by rw [dT hq])
theorem Val.f {q : Prop} [Decidable q] (h : Val P C n l o (.bool (decide q))) (hq : ¬ q) : Val P C n l o (.bool false) := h.eq (by rw [dF hq])
theorem Val.int {k : IntKind} {A B : Int} (h : Val P C n l o (.int k A)) (e : A = B) : Val P C n l o (.int k B) := h.eq (by rw [e])
theorem WL.test {q : Prop} [Decidable q] {d : Nat} (hv : Val P (fun w => St p w0 w L) n l o (.bool (decide q))) (hg : On ops o l) (hd : o.dst = some d) (hn : Nat.blt d n = true)
    (ht : q → WL P ops Q n p w0 rest ((d, .bool true) :: l) L) (hf : ¬ q → WL P ops Q n p w0 rest ((d, .bool false) :: l) L) : WL P ops Q n p w0 (o :: rest) l L := by
  by_cases hq : q
  · exact WL.val (hv.t hq) hg hd hn (ht hq)
  · exact WL.val (hv.f hq) hg hd hn (hf hq)
theorem WQ.test {K : Act → World → Prop} {q : Prop} [Decidable q] {d : Nat} (hv : Val P (fun w => St p w0 w L) n l o (.bool (decide q))) (hg : On ops o l) (hd : o.dst = some d) (hn : Nat.blt d n = true)
    (ht : q → WQ P ops K n p w0 rest ((d, .bool true) :: l) L) (hf : ¬ q → WQ P ops K n p w0 rest ((d, .bool false) :: l) L) : WQ P ops K n p w0 (o :: rest) l L := by
  by_cases hq : q
  · exact WQ.val (hv.t hq) hg hd hn (ht hq)
  · exact WQ.val (hv.f hq) hg hd hn (hf hq)

/-! ### Addresses and loads -/
theorem v_fieldAddr {s i g off k ft : Nat} {x : Operand} (ho : o.op = .fieldAddr s x i) (hx : ev l x = some (.pointer (some ⟨g, off, none⟩))) (hf : FieldAt P s i k ft) : Val P C n l o (.pointer (some ⟨g, off + k, none⟩)) := fun a w ha _ => by
  obtain ⟨fs, f, m, hu, hi, rfl, rfl, hs⟩ := hf
  have h1 := ha.ev hx
  unfold execOp
  simp only [ho, h1, Instr.fieldAt, Sem.run_bind, run_underlying hu, Result.andThen, hi, Instr.sureAddr, Sem.run_pure, fieldPlace, run_sizeOf hs]
  by_cases h0 : f.offset = 0
  · simp [Addr.add, h0]
  · simp [Addr.add, h0]
theorem v_fieldAddr0 {s i g k ft : Nat} {x : Operand} (ho : o.op = .fieldAddr s x i) (hx : ev l x = some (.pointer (some ⟨g, 0, none⟩))) (hf : FieldAt P s i k ft) : Val P C n l o (.pointer (some ⟨g, k, none⟩)) := by
  have := v_fieldAddr (C := C) (n := n) ho hx hf
  simpa using this
theorem v_load1 {ty g k : Nat} {x : Operand} {v : Value} (ho : o.op = .load ty x) (hx : ev l x = some (.pointer (some ⟨g, k, none⟩))) (ht : One P ty) (hc : ∀ w, C w → w.cell? ⟨g, k, none⟩ = some v) : Val P C n l o v := fun a w ha hC => by
  have h1 := ha.ev hx
  have h2 := hc w hC
  unfold execOp
  simp [ho, h1, Instr.loadAt, Instr.sureAddr, loadVar, ht.agg, load, Sem.run, h2]
theorem v_loadN {ty g k m : Nat} {x : Operand} {cs : List Value} (ho : o.op = .load ty x) (hx : ev l x = some (.pointer (some ⟨g, k, none⟩))) (ht : Many P ty m) (hm : cs.length = m) (hc : ∀ w, C w → w.rangeAt g k cs) : Val P C n l o (.agg cs.toArray) := fun a w ha hC => by
  subst hm
  have h1 := ha.ev hx
  obtain ⟨⟨d, hu, hd⟩, hs⟩ := ht
  have := run_loadVar_mid (P := P) w g k ty cs d (hc w hC) hu hd hs
  unfold execOp
  simp [ho, h1, Instr.loadAt, Instr.sureAddr, this]
theorem cellAt {g k : Nat} {cs : List Value} {v : Value} [At L g cs] (hv : cs[k]? = some v) : ∀ w, St p w0 w L → w.cell? ⟨g, k, none⟩ = some v := fun _ hS => hS.cell hv
theorem cellOld {g k : Nat} {v : Value} (hp : ¬ p g) (hv : w0.cell? ⟨g, k, none⟩ = some v) : ∀ w, St p w0 w L → w.cell? ⟨g, k, none⟩ = some v := fun _ hS => hS.old hp hv
def seg (cs : List Value) (k m : Nat) : List Value := (cs.drop k).take m
theorem segAt {g k m : Nat} {cs new : List Value} [At L g cs] (hnew : seg cs k m = new) : ∀ w, St p w0 w L → w.rangeAt g k new := fun w hS i v hi => by
  subst hnew
  refine hS.cell (g := g) (cs := cs) ?_
  unfold seg at hi
  rw [List.getElem?_take] at hi
  split at hi
  · rwa [List.getElem?_drop] at hi
  · cases hi
theorem allAt {g : Nat} {cs : List Value} [At L g cs] : ∀ w, St p w0 w L → w.rangeAt g 0 cs := fun w hS i v hi => by
  rw [Nat.zero_add]; exact hS.cell (g := g) hi
theorem resRow {t g m : Nat} {ty : TypeId} {cs : List Value} (hl : look l t = some (.pointer (some ⟨g, 0, none⟩))) (ht : Many P ty m) [At L g cs] (hm : cs.length = m) : ResOk P (fun w => St p w0 w L) l (.cell t ty) (.agg cs.toArray) := by
  subst hm
  obtain ⟨⟨d, hu, hd⟩, hs⟩ := ht
  exact ⟨_, hl, fun w hS => run_loadVar_mid (P := P) w g 0 ty cs d (allAt w hS) hu hd hs⟩
theorem resCell {t g : Nat} {ty : TypeId} {v : Value} {cs : List Value} (hl : look l t = some (.pointer (some ⟨g, 0, none⟩))) (ht : One P ty) [At L g cs] (hv : cs[0]? = some v) : ResOk P (fun w => St p w0 w L) l (.cell t ty) v :=
  ⟨_, hl, fun w hS => by
    have h2 := hS.cell (g := g) hv
    simp [loadVar, ht.agg, load, Sem.run, h2]⟩
theorem v_field1 {s i k ft : Nat} {x : Operand} {cs : List Value} {v : Value} (ho : o.op = .field s x i) (hx : ev l x = some (.agg cs.toArray)) (hf : FieldAt P s i k ft) (ht : One P ft) (hv : cs[k]? = some v) : Val P C n l o v := fun a w ha _ => by
  obtain ⟨fs, f, m, hu, hi, rfl, rfl, hs⟩ := hf
  have h1 := ha.ev hx
  unfold execOp
  simp [ho, h1, Instr.field, run_underlying hu, hi, asAgg, part, ht.agg, hv]
theorem v_fieldN {s i k ft m : Nat} {x : Operand} {cs new : List Value} (ho : o.op = .field s x i) (hx : ev l x = some (.agg cs.toArray)) (hf : FieldAt P s i k ft) (ht : Many P ft m) (hnew : seg cs k m = new) : Val P C n l o (.agg new.toArray) := fun a w ha _ => by
  obtain ⟨fs, f, m, hu, hi, rfl, rfl, hs⟩ := hf
  have h1 := ha.ev hx
  subst hnew
  unfold execOp
  simp [ho, h1, Instr.field, run_underlying hu, hi, asAgg, part, ht.agg, run_sizeOf ht.2, seg, List.extract_eq_take_drop, Nat.add_sub_cancel_left]
end
end Go.Proofs.YtodaanhhnjkncaaDoor
