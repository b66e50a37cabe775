/- Plain words that the walks share: bytes in memory, masks and joins of bits, the ones' complement fold. -/
import Derived.WalkKit
import Derived.WalkSpells
import Derived.WalkLawsBesides
import Derived.Deep.QuietTactic
import Derived.BigQuiet
import Derived.Lib.Hide
namespace Go.Proofs.YtodaanhhnjkncaaDoor
open Go.RowKit

theorem sl_eq {a a' : Option Addr} {n n' c c' : Nat} (h : a = a') (hn : n = n') (hc : c = c') : Value.slice a n c = Value.slice a' n' c' := by rw [h, hn, hc]
theorem int_eq {k : IntKind} {a b : Int} (h : a = b) : Value.int k a = Value.int k b := by rw [h]
theorem ret_int {k : IntKind} {a b : Int} (h : a = b) : Ending.returned (.int k a) = .returned (.int k b) := by rw [h]
theorem at_eq {b o o' : Nat} (h : o = o') : some (⟨b, o, none⟩ : Addr) = some ⟨b, o', none⟩ := by rw [h]
theorem ite_at {c : Prop} [Decidable c] {b o o' : Nat} : (if c then some (⟨b, o, none⟩ : Addr) else some ⟨b, o', none⟩) = some ⟨b, if c then o else o', none⟩ := by split <;> rfl
/-- A slice's length: for a loop's measure. -/
def lenOf : Value → Nat | .slice _ n _ => n | _ => 0
/-- n bytes from b, off on read as f says. -/
def Rd (w : World) (b off n : Nat) (f : Nat → Int) : Prop :=
  ∀ i, i < n → w.cell? ⟨b, off + i, none⟩ = some (.int .u8 (f i))
def Byt (f : Nat → Int) : Prop := ∀ i, 0 ≤ f i ∧ f i ≤ 255

theorem Rd.drewN {w : World} {b off n : Nat} {f : Nat → Int} (h : Rd w b off n f) (m : Nat) : Rd (w.drewN m) b off n f := h
theorem Rd.at {w : World} {b off n : Nat} {f : Nat → Int} (h : Rd w b off n f) (i : Nat) (hi : i < n) : w.cell? ⟨b, off + i, none⟩ = some (.int .u8 (f i)) := h i hi
theorem Rd.sub {w : World} {b off n : Nat} {f : Nat → Int} (h : Rd w b off n f) (k m : Nat) (hk : k + m ≤ n) : Rd w b (off + k) m (fun i => f (k + i)) := fun i hi => by
  have := h (k + i) (by omega)
  rw [Nat.add_assoc]; exact this
theorem Rd.to {w : World} {b off n : Nat} {f : Nat → Int} (h : Rd w b off n f) (m : Nat) (hk : m ≤ n) : Rd w b off m f := fun i hi => h i (by omega)
theorem Byt.sub {f : Nat → Int} (h : Byt f) (k : Nat) : Byt (fun i => f (k + i)) := fun i => h (k + i)
theorem Rd.below {w w' : World} {b off n B : Nat} {f : Nat → Int} (h : Rd w b off n f) (hb : Below B w w') (hB : b < B) : Rd w' b off n f := fun i hi => by
  rw [hb.cell (p := ⟨b, off + i, none⟩) hB]; exact h i hi
theorem Rd.drew {w : World} {b off n : Nat} {f : Nat → Int} (h : Rd w b off n f) : Rd w.drew b off n f := h
theorem Rd.setCell {w : World} {b off n : Nat} {f : Nat → Int} {a : Addr} {v : Value} (hne : b ≠ a.block) (h : Rd w b off n f) : Rd (w.setCell a v) b off n f := fun i hi => by
  rw [World.cell?_of_block (w := w) (Below.heap_setCell w a v b hne)]; exact h i hi
theorem Rd.alloc {w : World} {b off n : Nat} {f : Nat → Int} {o : Obj} (h : Rd w b off n f) : Rd (w.alloc o) b off n f := fun i hi => by
  rw [World.cell?_of_block (w := w) (Below.heap_alloc w o b (block_lt_of_cell (h i hi)))]; exact h i hi
theorem Rd.lt {w : World} {b off n : Nat} {f : Nat → Int} (h : Rd w b off n f) (hn : 0 < n) : b < w.heap.size := by
  have := block_lt_of_cell (h 0 hn); exact this

/-- Blocks for which p holds may have turned; new blocks may be there; all else is as it was. -/
structure Frm (p : Nat → Prop) (w w' : World) : Prop where
  os : w'.os = w.os
  tape : w'.tape = w.tape
  output : w'.output = w.output
  size : w.heap.size ≤ w'.heap.size
  block : ∀ k, k < w.heap.size → ¬ p k → w'.heap[k]? = w.heap[k]?
  drawn : w.drawn ≤ w'.drawn
theorem Frm.refl (p : Nat → Prop) (w : World) : Frm p w w := ⟨rfl, rfl, rfl, Nat.le_refl _, fun _ _ _ => rfl, Nat.le_refl _⟩
theorem Frm.drewN {p : Nat → Prop} {w w' : World} (h : Frm p w w') (m : Nat) : Frm p w (w'.drewN m) := ⟨h.os, h.tape, h.output, h.size, h.block, Nat.le_trans h.drawn (Nat.le_add_right ..)⟩
theorem Frm.drew {p : Nat → Prop} {w w' : World} (h : Frm p w w') : Frm p w w'.drew := ⟨h.os, h.tape, h.output, h.size, h.block, Nat.le_trans h.drawn (Nat.le_add_right ..)⟩
theorem Frm.trans {p : Nat → Prop} {a b c : World} (h : Frm p a b) (k : Frm p b c) : Frm p a c :=
  ⟨k.os.trans h.os, k.tape.trans h.tape, k.output.trans h.output, Nat.le_trans h.size k.size, fun i hi hn => (k.block i (Nat.lt_of_lt_of_le hi h.size) hn).trans (h.block i hi hn), Nat.le_trans h.drawn k.drawn⟩
theorem Frm.mono {p q : Nat → Prop} {a b : World} (h : Frm p a b) (hq : ∀ k, p k → q k) : Frm q a b := ⟨h.os, h.tape, h.output, h.size, fun k hk hn => h.block k hk (fun hp => hn (hq k hp)), h.drawn⟩
theorem Frm.setCell {p : Nat → Prop} {w w' : World} {a : Addr} {u : Value} (ha : p a.block) (h : Frm p w w') : Frm p w (w'.setCell a u) :=
  h.trans ⟨rfl, rfl, rfl, by simp [World.setCell], fun k _ hn => Below.heap_setCell _ _ _ _ (fun e => hn (by rw [e]; exact ha)), Nat.le_refl _⟩
theorem Frm.set1 {g i : Nat} {w w' : World} {u : Value} (h : Frm (fun k => k = g) w w') : Frm (fun k => k = g) w (w'.setCell ⟨g, i, none⟩ u) := Frm.setCell (p := fun k => k = g) rfl h
theorem Frm.alloc {p : Nat → Prop} {w w' : World} {o : Obj} (h : Frm p w w') : Frm p w (w'.alloc o) :=
  h.trans ⟨rfl, rfl, rfl, by simp, fun k hk _ => Below.heap_alloc _ _ _ (by omega), Nat.le_refl _⟩
/-- What is written into blocks of the call's own does not count. -/
theorem Frm.own {p q : Nat → Prop} {w w1 w2 : World} (h : Frm q w w1) (h2 : Frm p w1 w2) (hp : ∀ k, p k → w.heap.size ≤ k) : Frm q w w2 :=
  ⟨h2.os.trans h.os, h2.tape.trans h.tape, h2.output.trans h.output, Nat.le_trans h.size h2.size, fun k hk hn =>
    (h2.block k (Nat.lt_of_lt_of_le hk h.size) (fun hpk => by have := hp k hpk; omega)).trans (h.block k hk hn), Nat.le_trans h.drawn h2.drawn⟩
theorem Frm.below {p : Nat → Prop} {w w' : World} {B : Nat} (h : Frm p w w') (hB : B ≤ w.heap.size) (hp : ∀ k, p k → B ≤ k) : Below B w w' :=
  ⟨h.os, h.tape, h.output, h.size, fun k hk => h.block k (by omega) (fun hk' => by have := hp k hk'; omega)⟩
theorem Rd.frm {w w' : World} {b off n : Nat} {f : Nat → Int} {p : Nat → Prop} (hb : Frm p w w') (hp : ¬ p b) (h : Rd w b off n f) : Rd w' b off n f := fun i hi => by
  rw [World.cell?_of_block (w := w) (a := ⟨b, off + i, none⟩) (hb.block b (block_lt_of_cell (h i hi)) hp)]; exact h i hi

/-- Block g holds just these cells. -/
def Blk (w : World) (g : Nat) (cs : Array Value) (T : TypeId) : Prop := w.heap[g]? = some (.cells cs T (0, 0))
theorem Blk.drewN {w : World} {g : Nat} {cs : Array Value} {T : TypeId} (h : Blk w g cs T) (m : Nat) : Blk (w.drewN m) g cs T := h
theorem Blk.drew {w : World} {g : Nat} {cs : Array Value} {T : TypeId} (h : Blk w g cs T) : Blk w.drew g cs T := h
theorem Blk.setCell {w : World} {g i : Nat} {cs : Array Value} {T : TypeId} {v : Value} (h : Blk w g cs T) : Blk (w.setCell ⟨g, i, none⟩ v) g (cs.setIfInBounds i v) T :=
  heap_setCell_same w g i cs T v h
theorem Blk.lt {w : World} {g : Nat} {cs : Array Value} {T : TypeId} (h : Blk w g cs T) : g < w.heap.size := by
  unfold Blk at h; exact (Array.getElem?_eq_some_iff.1 h).1
theorem Blk.other {w : World} {g : Nat} {cs : Array Value} {T : TypeId} {a : Addr} {v : Value} (hne : g ≠ a.block) (h : Blk w g cs T) : Blk (w.setCell a v) g cs T := by
  unfold Blk at *; rw [Below.heap_setCell w a v g hne]; exact h
theorem Blk.alloc {w : World} {g : Nat} {cs : Array Value} {T : TypeId} {o : Obj} (h : Blk w g cs T) : Blk (w.alloc o) g cs T := by
  have := h.lt; unfold Blk at *; rw [Below.heap_alloc w o g this]; exact h
theorem Blk.frm {w w' : World} {g : Nat} {cs : Array Value} {T : TypeId} {p : Nat → Prop} (hb : Frm p w w') (hp : ¬ p g) (h : Blk w g cs T) : Blk w' g cs T := by
  have := h.lt; unfold Blk at *; rw [hb.block g this hp]; exact h
theorem Blk.cell {w : World} {g : Nat} {cs : Array Value} {T : TypeId} (h : Blk w g cs T) {i : Nat} {v : Value} (hv : cs[i]? = some v) : w.cell? ⟨g, i, none⟩ = some v :=
  (cell_of_row w g i cs T (0, 0) h).trans hv
theorem Blk.frozen {w : World} {g : Nat} {cs : Array Value} {T : TypeId} (h : Blk w g cs T) (i : Nat) : w.frozen? ⟨g, i, none⟩ = false := frozen_of_row w g i cs T h
theorem Blk.conv {w : World} {g : Nat} {cs cs' : Array Value} {T : TypeId} (h : Blk w g cs T) (e : cs = cs') : Blk w g cs' T := e ▸ h

theorem Blk.new {w : World} {cs : Array Value} {T : TypeId} : Blk (w.alloc (.cells cs T)) w.heap.size cs T := heap_alloc_new w _
theorem run_loadVar_blk {P : Program} {w : World} {g : Nat} {cs : Array Value} {T : TypeId} (ty : TypeId) (d : TypeDesc) (hB : Blk w g cs T)
    (hu : P.underlying ty = some d) (hd : (match d with | .struct _ | .array _ _ => true | _ => false) = true) (hi : (P.info? ty).map (·.size) = some cs.size) :
    (loadVar ty ⟨g, 0, none⟩).run P w = .ok (.agg cs) w := run_loadVar_row w g T ty cs (0, 0) d hB hu hd hi
theorem results_blk {P : Program} {fn : Func} {p : Tmp} {ty : TypeId} (h : fn.results = #[.cell p ty]) (tmps : Array Value) (w : World) (g : Nat) (T : TypeId) (cs : Array Value) (d : TypeDesc)
    (hp : tmps.getD p undef = .pointer (some ⟨g, 0, none⟩)) (hB : Blk w g cs T)
    (hu : P.underlying ty = some d) (hd : (match d with | .struct _ | .array _ _ => true | _ => false) = true) (hi : (P.info? ty).map (·.size) = some cs.size) :
    (results fn tmps).run P w = .ok (.agg cs) w := results_cell_row h tmps w g T cs (0, 0) d hp hB hu hd hi
theorem results_blk_tmp {P : Program} {fn : Func} {p u : Tmp} {ty : TypeId} (h : fn.results = #[.cell p ty, .tmp u]) (tmps : Array Value) (w : World) (g : Nat) (T : TypeId) (cs : Array Value) (d : TypeDesc)
    (hp : tmps.getD p undef = .pointer (some ⟨g, 0, none⟩)) (hB : Blk w g cs T)
    (hu : P.underlying ty = some d) (hd : (match d with | .struct _ | .array _ _ => true | _ => false) = true) (hi : (P.info? ty).map (·.size) = some cs.size) :
    (results fn tmps).run P w = .ok (.tuple #[.agg cs, tmps.getD u undef]) w := by
  rw [results_cell_tmp h, hp]
  simp [asAddr, run_loadVar_blk ty d hB hu hd hi, Result.andThen]

theorem ret_blk_tmp {P : Program} {fn : Func} {p u : Tmp} {ty : TypeId} {R : Ending → World → Prop} {a : Act} {w : World} (h : fn.results = #[.cell p ty, .tmp u]) (hd0 : a.defers = [])
    (g : Nat) (T : TypeId) (cs : Array Value) (d : TypeDesc) (hp : a.tmps.getD p undef = .pointer (some ⟨g, 0, none⟩)) (x : Value) (hx : a.tmps.getD u undef = x) (hB : Blk w g cs T)
    (hu : P.underlying ty = some d) (hd : (match d with | .struct _ | .array _ _ => true | _ => false) = true) (hi : (P.info? ty).map (·.size) = some cs.size)
    (hR : R (.returned (.tuple #[.agg cs, x])) w) : bodyPost P fn R .ret a w :=
  bodyPost_ret (results_blk_tmp h a.tmps w g T cs d hp hB hu hd hi) hd0 (by rw [hx]; exact hR)
theorem ret_blk {P : Program} {fn : Func} {p : Tmp} {ty : TypeId} {R : Ending → World → Prop} {a : Act} {w : World} (h : fn.results = #[.cell p ty]) (hd0 : a.defers = [])
    (g : Nat) (T : TypeId) (cs : Array Value) (d : TypeDesc) (hp : a.tmps.getD p undef = .pointer (some ⟨g, 0, none⟩)) (hB : Blk w g cs T)
    (hu : P.underlying ty = some d) (hd : (match d with | .struct _ | .array _ _ => true | _ => false) = true) (hi : (P.info? ty).map (·.size) = some cs.size)
    (hR : R (.returned (.agg cs)) w) : bodyPost P fn R .ret a w :=
  bodyPost_ret (results_blk h a.tmps w g T cs d hp hB hu hd hi) hd0 hR

theorem wraps_i64 (n : Int) (h₀ : 0 ≤ n) (h₁ : n < 2 ^ 63) : IntKind.i64.wrap n = n := by rw [IntKind.wrap_i64]; omega
theorem wraps_u32 (n : Int) (h₀ : 0 ≤ n) (h₁ : n < 2 ^ 32) : IntKind.u32.wrap n = n := by rw [IntKind.wrap_u32]; omega
theorem wraps_u64 (n : Int) (h₀ : 0 ≤ n) (h₁ : n < 2 ^ 63) : IntKind.u64.wrap n = n := by rw [IntKind.wrap_u64]; omega
theorem i64_or8 (x y : Int) (hx : 0 ≤ x) (hx' : x ≤ 36028797018963967) (hy : 0 ≤ y) (hy' : y ≤ 255) : bits .or .i64 (x * 256) y = x * 256 + y :=
  bits_join .i64 63 (by decide) wraps_i64 8 (x * 256) y (by omega) (by omega) (by omega) hy (by omega) (by omega)
theorem u32_or16 (x y : Int) (hx : 0 ≤ x) (hx' : x ≤ 65535) (hy : 0 ≤ y) (hy' : y ≤ 65535) : bits .or .u32 (x * 65536) y = x * 65536 + y :=
  bits_join .u32 32 (by decide) wraps_u32 16 (x * 65536) y (by omega) (by omega) (by omega) hy (by omega) (by omega)
theorem i64_and16 (x : Int) (hx : 0 ≤ x) (hx' : x < 2 ^ 63) : bits .and .i64 x 65535 = x % 65536 :=
  bits_mask .i64 63 (by decide) wraps_i64 16 (by decide) x hx hx'
theorem u32_and16 (x : Int) (hx : 0 ≤ x) (hx' : x < 2 ^ 32) : bits .and .u32 x 65535 = x % 65536 :=
  bits_mask .u32 32 (by decide) wraps_u32 16 (by decide) x hx hx'
theorem i64_and13 (x : Int) (hx : 0 ≤ x) (hx' : x < 2 ^ 63) : bits .and .i64 x 8191 = x % 8192 :=
  bits_mask .i64 63 (by decide) wraps_i64 13 (by decide) x hx hx'
theorem i64_and14 (x : Int) (hx : 0 ≤ x) (hx' : x < 2 ^ 63) : bits .and .i64 x 16383 = x % 16384 :=
  bits_mask .i64 63 (by decide) wraps_i64 14 (by decide) x hx hx'

/-- What a sum folds to. -/
def fc (s : Int) : Int := if s = 0 then 0 else (s - 1) % 65535 + 1
theorem fc_le (s : Int) (_ : 0 ≤ s) : 0 ≤ fc s ∧ fc s ≤ 65535 := by unfold fc; split <;> omega
theorem fc_small (s : Int) (h : 0 ≤ s) (h' : s ≤ 65535) : fc s = s := by unfold fc; split <;> omega
theorem fc_step (s : Int) (h : 65535 < s) : fc (s / 65536 + s % 65536) = fc s := by unfold fc; split <;> split <;> omega
theorem fc_add (a b : Int) (ha : 0 ≤ a) (hb : 0 ≤ b) : fc (fc a + b) = fc (a + b) := by unfold fc; repeat' split
                                                                                        all_goals omega

/-- The number of two bytes. -/
def two (f : Nat → Int) (i : Nat) : Int := f i * 256 + f (i + 1)
theorem two_le {f : Nat → Int} (h : Byt f) (i : Nat) : 0 ≤ two f i ∧ two f i ≤ 65535 := by have := h i; have := h (i + 1); unfold two; omega
def four (f : Nat → Int) (i : Nat) : Int := two f i * 65536 + two f (i + 2)
theorem four_le {f : Nat → Int} (h : Byt f) (i : Nat) : 0 ≤ four f i ∧ four f i ≤ 4294967295 := by have := two_le h i; have := two_le h (i + 2); unfold four; omega
/-- k pairs from the beginning, added. -/
def pairs (f : Nat → Int) : Nat → Int | 0 => 0 | k + 1 => pairs f k + two f (2 * k)
theorem pairs_le {f : Nat → Int} (h : Byt f) (k : Nat) : 0 ≤ pairs f k ∧ pairs f k ≤ 65535 * k := by
  induction k with
  | zero => simp [pairs]
  | succ k ih => have := two_le h (2 * k); simp only [pairs]; omega
/-- All of n bytes by twos, a nought behind an odd one. -/
def total (f : Nat → Int) (n : Nat) : Int := pairs f (n / 2) + if n % 2 = 1 then f (n - 1) * 256 else 0
theorem total_le {f : Nat → Int} (h : Byt f) (n : Nat) : 0 ≤ total f n ∧ total f n ≤ 65535 * (n + 1) := by
  have := pairs_le h (n / 2); have := h (n - 1); unfold total; split <;> omega
theorem ret_blk_tmp3 {P : Program} {fn : Func} {p u1 u2 u3 : Tmp} {ty : TypeId} {R : Ending → World → Prop} {a : Act} {w : World} (h : fn.results = #[.cell p ty, .tmp u1, .tmp u2, .tmp u3]) (hd0 : a.defers = [])
    (g : Nat) (T : TypeId) (cs : Array Value) (d : TypeDesc) (hp : a.tmps.getD p undef = .pointer (some ⟨g, 0, none⟩)) (x1 x2 x3 : Value) (hx1 : a.tmps.getD u1 undef = x1) (hx2 : a.tmps.getD u2 undef = x2) (hx3 : a.tmps.getD u3 undef = x3) (hB : Blk w g cs T)
    (hu : P.underlying ty = some d) (hd : (match d with | .struct _ | .array _ _ => true | _ => false) = true) (hi : (P.info? ty).map (·.size) = some cs.size)
    (hR : R (.returned (.tuple #[.agg cs, x1, x2, x3])) w) : bodyPost P fn R .ret a w := by
  refine bodyPost_ret (v := .tuple #[.agg cs, x1, x2, x3]) ?_ hd0 hR
  subst hx1 hx2 hx3
  have hp' : a.tmps[p]?.getD undef = .pointer (some ⟨g, 0, none⟩) := by simpa using hp
  simp [results, h, hp', asAddr, run_loadVar_blk ty d hB hu hd hi, Result.andThen]
/-- A slice as an array: the array that it begins with. -/
theorem run_arrayAt {P : Program} (w : World) (arr e : TypeId) (m n cap : Nat) (a : Option Addr) (hu : P.underlying arr = some (.array m e)) (hm : m ≤ n) :
    (Instr.arrayAt arr (.slice a n cap)).run P w = .ok (.pointer a) w := by
  simp [Instr.arrayAt, Sem.run_bind, run_underlying hu, if_neg (Nat.not_lt.2 hm)]
end Go.Proofs.YtodaanhhnjkncaaDoor
