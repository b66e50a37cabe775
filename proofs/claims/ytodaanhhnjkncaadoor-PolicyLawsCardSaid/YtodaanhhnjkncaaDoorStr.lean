/- The engine: strings and bytes, one made of the other; arrays out of slices; interface values; functions as values. -/
import Derived.Test.YtodaanhhnjkncaaDoorApp
import Derived.Laws.BytesArg
namespace Go.Proofs.YtodaanhhnjkncaaDoor
open Go.RowKit

section
variable {P : Program} {C : World → Prop} {ops : Array Oper} {Q : Exit → Act → World → Prop} {n : Nat} {p : Nat → Prop} {w0 : World} {o : Oper} {rest : List Oper} {l : Kn} {L : List Ent}

/-! ### Bytes that read as a function says -/
def bl (f : Nat → Int) (n : Nat) : List Int := (List.range n).map f
theorem bl_len (f : Nat → Int) (n : Nat) : (bl f n).length = n := by simp [bl]
theorem bl_get (f : Nat → Int) (n i : Nat) (h : i < n) : (bl f n).getD i 0 = f i := by simp [bl, List.getD, h]
theorem Rd.list {w : World} {b off n : Nat} {f : Nat → Int} (h : Rd w b off n f) : ∀ i, i < n → w.cell? ⟨b, off + i, none⟩ = some (.int .u8 ((bl f n).getD i 0)) := fun i hi => by
  rw [bl_get f n i hi]; exact h i hi
def str (f : Nat → Int) (n : Nat) : ByteArray := strOfNums (bl f n)
/-- n bytes of a slice that may be nil. -/
def RdO (w : World) (a : Option Addr) (n : Nat) (f : Nat → Int) : Prop := 0 < n → ∃ b off, a = some ⟨b, off, none⟩ ∧ Rd w b off n f
/-- The cells of n bytes. -/
def bcs (f : Nat → Int) (n : Nat) : List Value := (List.range n).map fun i => .int .u8 (f i)
theorem bcs_len (f : Nat → Int) (n : Nat) : (bcs f n).length = n := by simp [bcs]
theorem bcs_get (f : Nat → Int) (n i : Nat) (h : i < n) : (bcs f n)[i]? = some (.int .u8 (f i)) := by simp [bcs, h]
theorem bcs_one (f : Nat → Int) (n : Nat) : (bcs f n).all one = true := List.all_eq_true.2 (fun v hv => by obtain ⟨b, _, rfl⟩ := List.mem_map.1 hv; rfl)
theorem Rd.range {w : World} {b off n : Nat} {f : Nat → Int} (h : Rd w b off n f) : w.rangeAt b off (bcs f n) := fun i v hi => by
  have hlt : i < n := by have := (List.getElem?_eq_some_iff.1 hi).1; rwa [bcs_len] at this
  rw [bcs_get f n i hlt] at hi
  rw [← hi]; exact h i hlt
/-- Bytes out of a block that is known whole. -/
theorem Row.rd {w : World} {g off n : Nat} {cs : List Value} {f : Nat → Int} (h : Row w g cs) (hc : ∀ i, i < n → cs[off + i]? = some (.int .u8 (f i))) : Rd w g off n f := fun i hi => h.cell (hc i hi)
theorem rdAt {g off n : Nat} {cs : List Value} {f : Nat → Int} [At L g cs] (hc : ∀ i, i < n → cs[off + i]? = some (.int .u8 (f i))) : ∀ w, St p w0 w L → Rd w g off n f := fun _ hS => (hS.row (g := g)).rd hc
theorem rdOld {b off n : Nat} {f : Nat → Int} (hp : ¬ p b) (h : Rd w0 b off n f) : ∀ w, St p w0 w L → Rd w b off n f := fun _ hS => hS.oldRd hp h
theorem rdOOld {a : Option Addr} {n : Nat} {f : Nat → Int} (hp : ∀ b, ¬ p b) (h : RdO w0 a n f) : ∀ w, St p w0 w L → RdO w a n f := fun w hS hn => by
  obtain ⟨b, off, rfl, hr⟩ := h hn
  exact ⟨b, off, rfl, hS.oldRd (hp b) hr⟩

theorem str_size (f : Nat → Int) (n : Nat) : (str f n).size = n := by
  simp [str, strOfNums, bl, ByteArray.size]
theorem str_cells {f : Nat → Int} (hf : Byt f) (n : Nat) : (str f n).data.toList.map bcell = bcs f n := by
  unfold str strOfNums bl bcs
  simp only [List.map_map]
  refine List.map_congr_left (fun i _ => ?_)
  have := hf i
  simp only [Function.comp, bcell]
  congr 1
  have h : ((f i).toNat % 256 : Nat) = (f i).toNat := Nat.mod_eq_of_lt (by omega)
  simp [h]; omega
theorem str_ext (f : Nat → Int) (n k : Nat) (h : k ≤ n) : (str f n).extract k (str f n).size = str (fun i => f (k + i)) (n - k) := by
  have hl : ∀ (g : Nat → Int) (m : Nat), (str g m).data.toList = (List.range m).map fun i => UInt8.ofNat (g i).toNat := fun g m => by
    unfold str strOfNums bl; simp
  rw [str_size]
  apply ByteArray.ext
  apply Array.toList_inj.1
  rw [ByteArray.data_extract, Array.toList_extract, hl, hl]
  apply List.ext_getElem?
  intro i
  simp only [List.extract_eq_take_drop, List.getElem?_take, List.getElem?_drop, List.getElem?_map]
  by_cases hi : i < n - k
  · rw [if_pos hi, List.getElem?_range (by omega), List.getElem?_range hi]; rfl
  · rw [if_neg hi, List.getElem?_eq_none (by simpa using hi)]; rfl
theorem str_congr {f g : Nat → Int} {n : Nat} (h : ∀ i, i < n → f i = g i) : str f n = str g n := by
  unfold str bl
  rw [List.map_congr_left (fun i hi => h i (by simpa using hi))]
theorem toList_loop (bs : ByteArray) : ∀ (k i : Nat) (r : List UInt8), bs.size - i = k → ByteArray.toList.loop bs i r = r.reverse ++ bs.data.toList.drop i := by
  intro k
  induction k with
  | zero =>
    intro i r h
    rw [ByteArray.toList.loop]
    have : ¬ i < bs.size := by omega
    rw [if_neg this, List.drop_eq_nil_of_le (by have : bs.data.toList.length = bs.size := rfl; omega), List.append_nil]
  | succ k ih =>
    intro i r h
    rw [ByteArray.toList.loop]
    have hi : i < bs.size := by omega
    rw [if_pos hi, ih (i + 1) _ (by omega)]
    have hl : i < bs.data.toList.length := hi
    rw [List.drop_eq_getElem_cons hl]
    have : bs.get! i = bs.data.toList[i] := by
      show bs.data[i]! = _
      have : i < bs.data.size := hi
      exact getElem!_pos bs.data i this
    rw [this]; simp
theorem bytes_toList (bs : ByteArray) : bs.toList = bs.data.toList := by
  unfold ByteArray.toList
  rw [toList_loop bs _ 0 [] rfl]; simp
/-! ### Conversions -/
theorem run_convBS {s d e cap k : Nat} {a : Option Addr} {f : Nat → Int} {w : World} (hs : P.underlying s = some (.slice e)) (he : P.underlying e = some (.int .u8)) (hd : P.underlying d = some .string) (hr : RdO w a k f) :
    (convert s d (.slice a k cap)).run P w = .ok (.string (str f k)) w := by
  by_cases hn : 0 < k
  · obtain ⟨b, off, rfl, hr'⟩ := hr hn
    exact run_convert_bytes_arg w s e hs he b off k cap (bl f k) (bl_len _ _) hr'.list d hd
  · obtain rfl : k = 0 := by omega
    cases a with
    | none => exact run_convert_bytes_nil w s e hs he 0 cap d hd
    | some ad =>
      rw [run_convert_bytes_string w s d e (some ad) 0 cap hs he hd, run_bytesToString w ad 0 cap [] (by rfl)]
      rfl
theorem v_convBS {s d e cap k : Nat} {a : Option Addr} {x : Operand} (f : Nat → Int) (ho : o.op = .convert s d x) (hx : ev l x = some (.slice a k cap)) (hs : P.underlying s = some (.slice e)) (he : P.underlying e = some (.int .u8)) (hd : P.underlying d = some .string)
    (hr : ∀ w, C w → RdO w a k f) : Val P C n l o (.string (str f k)) := fun ac w ha hC => by
  have h1 := ha.ev hx
  unfold execOp
  simp [ho, h1, run_convBS hs he hd (hr w hC)]
theorem v_convSS {s d : Nat} {x : Operand} {bs : ByteArray} (ho : o.op = .convert s d x) (hx : ev l x = some (.string bs)) {ds : TypeDesc} (hs : P.underlying s = some ds) (hd : P.underlying d = some .string) : Val P C n l o (.string bs) := fun ac w ha hC => by
  have h1 := ha.ev hx
  unfold execOp
  simp [ho, h1, convert, run_underlying hs, run_underlying hd]
/-- x[lo:] of a string. -/
theorem v_slice_strlo {t lo : Nat} {x xl : Operand} {k : IntKind} {A : Int} {bs : ByteArray} (ho : o.op = .slice t x (some xl) none none) (hx : ev l x = some (.string bs)) (hl : ev l xl = some (.int k A)) (hu : P.underlying t = some .string) (hA : A = (lo : Int)) (hle : lo ≤ bs.size) :
    Val P C n l o (.string (bs.extract lo bs.size)) := fun a w ha _ => by
  have h1 := ha.ev hx; have h2 := ha.ev hl
  subst hA
  unfold execOp
  simp [ho, h1, h2, Instr.sliceAt, run_underlying hu, Instr.slice, Instr.sliceBounds, Instr.sliceBound, asIntOf, hle]
/-- x[:hi] of a string. -/
theorem v_slice_strhi {t hi : Nat} {x xh : Operand} {k : IntKind} {A : Int} {bs : ByteArray} (ho : o.op = .slice t x none (some xh) none) (hx : ev l x = some (.string bs)) (hl : ev l xh = some (.int k A)) (hu : P.underlying t = some .string) (hA : A = (hi : Int)) (hle : hi ≤ bs.size) :
    Val P C n l o (.string (bs.extract 0 hi)) := fun a w ha _ => by
  have h1 := ha.ev hx; have h2 := ha.ev hl
  subst hA
  unfold execOp
  simp [ho, h1, h2, Instr.sliceAt, run_underlying hu, Instr.slice, Instr.sliceBounds, Instr.sliceBound, asIntOf, hle]
/-- x[lo:hi] of a string. -/
theorem v_slice_strlh {t lo hi : Nat} {x xl xh : Operand} {k k' : IntKind} {A B : Int} {bs : ByteArray} (ho : o.op = .slice t x (some xl) (some xh) none) (hx : ev l x = some (.string bs)) (hl : ev l xl = some (.int k A)) (hh : ev l xh = some (.int k' B)) (hu : P.underlying t = some .string) (hA : A = (lo : Int)) (hB : B = (hi : Int)) (hle : lo ≤ hi) (hle' : hi ≤ bs.size) :
    Val P C n l o (.string (bs.extract lo hi)) := fun a w ha _ => by
  have h1 := ha.ev hx; have h2 := ha.ev hl; have h3 := ha.ev hh
  subst hA hB
  unfold execOp
  simp [ho, h1, h2, h3, Instr.sliceAt, run_underlying hu, Instr.slice, Instr.sliceBounds, Instr.sliceBound, asIntOf, hle, hle']
/-- []byte(s): a block of its own, noughts behind. -/
theorem WL.convSB {s d e dd m : Nat} {x : Operand} {bs : ByteArray} {cs0 : List Value} (ho : o.op = .convert s d x) (hx : ev l x = some (.string bs)) (hm : bs.size = m) (hcs0 : bs.data.toList.map bcell = cs0) {ds : TypeDesc} (hs : P.underlying s = some ds) (hd : P.underlying d = some (.slice e)) (he : P.underlying e = some (.int .u8)) (hg : On ops o l) (hdst : o.dst = some dd) (hn : Nat.blt dd n = true)
    (h : ∀ g c, w0.heap.size ≤ g → m ≤ c → WL P ops Q n p w0 rest ((dd, .slice (some ⟨g, 0, none⟩) m c) :: l) (.row g (cs0 ++ List.replicate (c - m) (.int .u8 0)) :: L)) : WL P ops Q n p w0 (o :: rest) l L := by
  subst hm hcs0
  refine WL.op hg hdst hn fun a w ha hS => ?_
  have h1 := ha.ev hx
  let c := (Question.appendCap bs.size 0 e).cut (w.tape w.drawn (.appendCap bs.size 0 e))
  have hcc : bs.size ≤ c := by show bs.size ≤ bs.size + _; omega
  let cs := bs.data.toList.map bcell ++ List.replicate (c - bs.size) (.int .u8 0)
  have hcl : cs.length = c := by
    have : bs.data.toList.length = bs.size := rfl
    simp only [cs, List.length_append, List.length_map, List.length_replicate, this]; omega
  have hcut : (choose (.appendCap bs.size 0 e)).run P w = .ok c w.drew := rfl
  have hd1 := hS.drew
  let w1 := w.drew.alloc (.cells cs.toArray e)
  let w2 := w1.freeze ⟨w.drew.heap.size, cs.length, none⟩ 1
  have hb1 : w1.heap[w.drew.heap.size]? = some (.cells cs.toArray e) := heap_alloc_new w.drew _
  have hb2 : w2.heap[w.drew.heap.size]? = some (.cells cs.toArray e (cs.length, cs.length + 1)) := by
    simp only [w2, World.freeze, Nat.succ_ne_self, if_false]
    simp only [Array.getElem?_modify, if_true, hb1, Option.map_some]
    simp
  have hF : Frm (fun _ => False) w.drew w2 := by
    refine ⟨rfl, rfl, rfl, ?_, fun k hk _ => ?_, Nat.le_refl _⟩
    · simp only [w2, World.freeze, Nat.succ_ne_self, if_false, Array.size_modify]
      show _ ≤ (w.drew.heap.push _).size
      simp
    · simp only [w2, World.freeze, Nat.succ_ne_self, if_false]
      rw [Array.getElem?_modify, if_neg (by omega)]
      exact Below.heap_alloc _ _ _ hk
  have hRow : Row w2 w.drew.heap.size cs := ⟨e, cs.length, cs.length + 1, hb2, fun i hi h => by omega⟩
  have hS2 : St p w0 w2 (.row w.drew.heap.size cs :: L) := hd1.add hF (Nat.le_refl _) hRow
  refine ⟨_, w2, _, ?_, hS2, h _ c hd1.frm.size hcc⟩
  have hcells : (bs.data.map fun b => Value.int .u8 b.toNat) ++ Array.replicate (c - bs.size) (.int .u8 0) = cs.toArray := by
    apply Array.toList_inj.1
    simp [cs]
    exact fun _ _ => rfl
  unfold execOp
  simp only [ho, h1, convert, Sem.run_bind, run_underlying hs, run_underlying hd, Result.andThen_ok, run_underlying he, Conv.stringToBytes, hcut, hcells, newRow, newObj, Sem.run, Sem.run_pure]
  have hsh : (({ heap := w.drew.heap.push (.cells cs.toArray e), tape := w.drew.tape, drawn := w.drew.drawn, os := w.drew.os, output := w.drew.output } : World).shape? w.drew.heap.size) = some (e, cs.length) := by
    show (match (w.drew.heap.push (.cells cs.toArray e))[w.drew.heap.size]? with | some (.cells c elem _) => some (elem, c.size) | _ => none) = _
    rw [show (w.drew.heap.push (.cells cs.toArray e))[w.drew.heap.size]? = some (.cells cs.toArray e) from hb1]
    simp
  simp only [markStringish, Sem.run_bind, shape, Sem.run, hsh, Result.andThen_ok, freeze]
  rfl
/-- A slice as an array: the pointer to the array that it begins with. -/
theorem v_arrayAt {t e m k cap : Nat} {a : Option Addr} {x : Operand} (ho : o.op = .sliceToArrayPointer t x) (hx : ev l x = some (.slice a k cap)) (hu : P.underlying t = some (.array m e)) (hm : m ≤ k) : Val P C n l o (.pointer a) := fun ac w ha _ => by
  have h1 := ha.ev hx
  unfold execOp
  simp [ho, h1, run_arrayAt w t e m k cap a hu hm]
theorem v_makeInterface {t : Nat} {x : Operand} {v : Value} {d : TypeDesc} (ho : o.op = .makeInterface t x) (hx : ev l x = some v) (hu : P.underlying t = some d) (hd : (match d with | .interface _ => true | _ => false) = false) : Val P C n l o (.iface t v) := fun ac w ha _ => by
  have h1 := ha.ev hx
  unfold execOp
  simp only [ho, h1, Instr.makeInterface, Sem.run_bind, run_underlying hu, Result.andThen_ok]
  cases d <;> simp_all
theorem v_makeFunc {fn : Fn} {fi cap : List Operand} {vf vc : List Value} (ho : o.op = .makeFunc fn fi.toArray cap.toArray) (hf : evs l fi = some vf) (hc : evs l cap = some vc) : Val P C n l o (.func fn vf.toArray vc.toArray) := fun ac w ha _ => by
  have h1 := ha.evs hf; have h2 := ha.evs hc
  unfold execOp
  simp [ho, Instr.makeFunc, ← h1, ← h2]
end
end Go.Proofs.YtodaanhhnjkncaaDoor
