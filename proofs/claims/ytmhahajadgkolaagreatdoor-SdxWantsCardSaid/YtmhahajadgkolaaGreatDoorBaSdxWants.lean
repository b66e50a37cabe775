/- Texts joined: engine, contracts and laws, in the order in which they build. -/
import Derived.WalkKit
import Derived.WalkSpells
import Derived.WalkLawsBesides
import Derived.Deep.QuietTactic
import Derived.BigQuiet
import Derived.Lib.Hide
import Derived.StillTail
import Derived.Deep.LoopGhost
import Derived.Deep.WholeRow
import Derived.Laws.BitsAllLaws
import Derived.Laws.Bits64
import Derived.Deep.MidRow
import Derived.ChangeKeysEq
import Derived.Laws.BytesArg
import Derived.Test.YtmhahajadgkolaaGreatDoorProg
/- Plain words that the walks share: bytes in memory, masks and joins of bits, the ones' complement fold. -/
namespace Go.Proofs.YtmhahajadgkolaaGreatDoor
open Go.RowKit

/-- A slice's length: for a loop's measure. -/
def lenOf : Value → Nat | .slice _ n _ => n | _ => 0
/-- n bytes from b, off on read as f says. -/
def Rd (w : World) (b off n : Nat) (f : Nat → Int) : Prop :=
  ∀ i, i < n → w.cell? ⟨b, off + i, none⟩ = some (.int .u8 (f i))
def Byt (f : Nat → Int) : Prop := ∀ i, 0 ≤ f i ∧ f i ≤ 255

/-- Blocks for which p holds may have turned; new blocks may be there; all else is as it was. -/
structure Frm (p : Nat → Prop) (w w' : World) : Prop where
  os : w'.os = w.os
  tape : w'.tape = w.tape
  output : w'.output = w.output
  size : w.heap.size ≤ w'.heap.size
  block : ∀ k, k < w.heap.size → ¬ p k → w'.heap[k]? = w.heap[k]?
  drawn : w.drawn ≤ w'.drawn
theorem Frm.refl (p : Nat → Prop) (w : World) : Frm p w w := ⟨rfl, rfl, rfl, Nat.le_refl _, fun _ _ _ => rfl, Nat.le_refl _⟩
theorem Frm.drew {p : Nat → Prop} {w w' : World} (h : Frm p w w') : Frm p w w'.drew := ⟨h.os, h.tape, h.output, h.size, h.block, Nat.le_trans h.drawn (Nat.le_add_right ..)⟩
theorem Frm.trans {p : Nat → Prop} {a b c : World} (h : Frm p a b) (k : Frm p b c) : Frm p a c :=
  ⟨k.os.trans h.os, k.tape.trans h.tape, k.output.trans h.output, Nat.le_trans h.size k.size, fun i hi hn => (k.block i (Nat.lt_of_lt_of_le hi h.size) hn).trans (h.block i hi hn), Nat.le_trans h.drawn k.drawn⟩
theorem Frm.mono {p q : Nat → Prop} {a b : World} (h : Frm p a b) (hq : ∀ k, p k → q k) : Frm q a b := ⟨h.os, h.tape, h.output, h.size, fun k hk hn => h.block k hk (fun hp => hn (hq k hp)), h.drawn⟩
theorem Frm.setCell {p : Nat → Prop} {w w' : World} {a : Addr} {u : Value} (ha : p a.block) (h : Frm p w w') : Frm p w (w'.setCell a u) :=
  h.trans ⟨rfl, rfl, rfl, by simp [World.setCell], fun k _ hn => Below.heap_setCell _ _ _ _ (fun e => hn (by rw [e]; exact ha)), Nat.le_refl _⟩
theorem Frm.set1 {g i : Nat} {w w' : World} {u : Value} (h : Frm (fun k => k = g) w w') : Frm (fun k => k = g) w (w'.setCell ⟨g, i, none⟩ u) := Frm.setCell (p := fun k => k = g) rfl h
theorem Frm.alloc {p : Nat → Prop} {w w' : World} {o : Obj} (h : Frm p w w') : Frm p w (w'.alloc o) :=
  h.trans ⟨rfl, rfl, rfl, by simp, fun k hk _ => Below.heap_alloc _ _ _ (by omega), Nat.le_refl _⟩
/-- What is written into blocks of the call's own does not count. -/
theorem Frm.own {p q : Nat → Prop} {w w1 w2 : World} (h : Frm q w w1) (h2 : Frm p w1 w2) (hp : ∀ k, p k → w.heap.size ≤ k) : Frm q w w2 :=
  ⟨h2.os.trans h.os, h2.tape.trans h.tape, h2.output.trans h.output, Nat.le_trans h.size h2.size, fun k hk hn =>
    (h2.block k (Nat.lt_of_lt_of_le hk h.size) (fun hpk => by have := hp k hpk; omega)).trans (h.block k hk hn), Nat.le_trans h.drawn h2.drawn⟩
theorem Frm.below {p : Nat → Prop} {w w' : World} {B : Nat} (h : Frm p w w') (hB : B ≤ w.heap.size) (hp : ∀ k, p k → B ≤ k) : Below B w w' :=
  ⟨h.os, h.tape, h.output, h.size, fun k hk => h.block k (by omega) (fun hk' => by have := hp k hk'; omega)⟩
/-- Block g holds just these cells. -/
def Blk (w : World) (g : Nat) (cs : Array Value) (T : TypeId) : Prop := w.heap[g]? = some (.cells cs T (0, 0))
/-- The number of two bytes. -/
def two (f : Nat → Int) (i : Nat) : Int := f i * 256 + f (i + 1)
def four (f : Nat → Int) (i : Nat) : Int := two f i * 65536 + two f (i + 2)
/-- k pairs from the beginning, added. -/
def pairs (f : Nat → Int) : Nat → Int | 0 => 0 | k + 1 => pairs f k + two f (2 * k)
/-- All of n bytes by twos, a nought behind an odd one. -/
def total (f : Nat → Int) (n : Nat) : Int := pairs f (n / 2) + if n % 2 = 1 then f (n - 1) * 256 else 0
/-- A slice as an array: the array that it begins with. -/
theorem run_arrayAt {P : Program} (w : World) (arr e : TypeId) (m n cap : Nat) (a : Option Addr) (hu : P.underlying arr = some (.array m e)) (hm : m ≤ n) :
    (Instr.arrayAt arr (.slice a n cap)).run P w = .ok (.pointer a) w := by
  simp [Instr.arrayAt, Sem.run_bind, run_underlying hu, if_neg (Nat.not_lt.2 hm)]
end Go.Proofs.YtmhahajadgkolaaGreatDoor
/- A region that draws its order, whose head only reads (its calls may draw) and whose last operations wait for one another and for the head: one walk, the head in the order of the text, then the tail. In the make of the kit's StillTail, over a class of worlds. -/
namespace Go.Proofs.YtmhahajadgkolaaGreatDoor
open Go

section
variable {P : Program} {ops : Array Oper} {md : Region.Mode} {C : World → Prop}

def headQ (P : Program) (md : Region.Mode) (ops : Array Oper) (C : World → Prop) (n : Nat) (L : Array Bool → Act → Prop) : Nat → Array Bool → Act → Prop
  | 0, listed, a => L listed a
  | f + 1, listed, a =>
    Region.ready md ops listed ≠ [] ∧ ∀ i ∈ Region.ready md ops listed, i < n ∧ qOp P ops C i (headQ P md ops C n L f (listed.setIfInBounds i true)) a

end
end Go.Proofs.YtmhahajadgkolaaGreatDoor
/- An engine for walks: what is known of a frame (a list of slots), what is known of memory (a list of blocks), one law an operation. -/
namespace Go.Proofs.YtmhahajadgkolaaGreatDoor
open Go.RowKit

/-! ## The frame -/
abbrev Kn := List (Nat × Value)
def look : Kn → Nat → Option Value
  | [], _ => none
  | (s, v) :: l, t => cond (Nat.beq s t) (some v) (look l t)

structure Has (n : Nat) (a : Act) (l : Kn) : Prop where
  size : a.tmps.size = n
  defers : a.defers = []
  got : ∀ t v, look l t = some v → a.tmps.getD t undef = v

def ev (l : Kn) : Operand → Option Value
  | .tmp t => look l t
  | .const v => some v
  | .global g => some (.pointer (some ⟨g, 0, none⟩))
  | .func f => some (.func (.func f) #[] #[])

theorem Has.ev {n : Nat} {a : Act} {l : Kn} (h : Has n a l) {x : Operand} {v : Value} (hx : ev l x = some v) : a.eval x = v := by
  cases x with
  | tmp t => exact h.got t v hx
  | const u => simpa [YtmhahajadgkolaaGreatDoor.ev, Act.eval] using hx
  | global g => simpa [YtmhahajadgkolaaGreatDoor.ev, Act.eval] using hx
  | func f => simpa [YtmhahajadgkolaaGreatDoor.ev, Act.eval] using hx

theorem Has.put {n d : Nat} {a : Act} {l : Kn} (h : Has n a l) (hd : Nat.blt d n = true) (v : Value) : Has n (a.put (some d) v) ((d, v) :: l) := by
  have hd' : d < n := by simpa using hd
  refine ⟨by simp [Act.put, h.size], h.defers, ?_⟩
  intro t u hu
  unfold look at hu
  by_cases e : d = t
  · subst e
    simp at hu
    subst hu
    simp [Act.put, h.size, hd']
  · have hb : Nat.beq d t = false := by
      cases hb : Nat.beq d t with
      | false => rfl
      | true => exact absurd (Nat.eq_of_beq_eq_true hb) e
    rw [hb] at hu
    have := h.got t u hu
    simp only [Act.put]
    rw [← this]
    simp only [Array.getD_eq_getD_getElem?, Array.getElem?_setIfInBounds, if_neg e]

theorem Has.put_any {n : Nat} {a : Act} {l : Kn} {dst : Option Nat} {d : Nat} (h : Has n a l) (hdst : dst = some d) (hd : Nat.blt d n = true) (v : Value) : Has n (a.put dst v) ((d, v) :: l) := by
  subst hdst; exact h.put hd v

/-- What is said of a frame is said in another's words. -/
def Sub (l l' : Kn) : Prop := ∀ t v, look l' t = some v → look l t = some v
theorem Sub.nil {l : Kn} : Sub l [] := fun _ _ h => by simp [look] at h
theorem Sub.cons {l l' : Kn} {t : Nat} {v : Value} (h : look l t = some v) (hs : Sub l l') : Sub l ((t, v) :: l') := fun s u hu => by
  unfold look at hu
  cases hb : Nat.beq t s
  · rw [hb] at hu; exact hs s u hu
  · rw [hb] at hu
    have : t = s := by simpa using hb
    subst this
    simpa using h.trans (by simpa using hu)
theorem Sub.int {l l' : Kn} {t : Nat} {k : IntKind} {x y : Int} (h : look l t = some (.int k x)) (e : x = y) (hs : Sub l l') : Sub l ((t, .int k y) :: l') := Sub.cons (e ▸ h) hs
theorem Sub.eq {l l' : Kn} {t : Nat} {u v : Value} (h : look l t = some u) (e : u = v) (hs : Sub l l') : Sub l ((t, v) :: l') := Sub.cons (e ▸ h) hs
theorem Has.sub {n : Nat} {a : Act} {l l' : Kn} (h : Has n a l) (hs : Sub l l') : Has n a l' := ⟨h.size, h.defers, fun t v hv => h.got t v (hs t v hv)⟩

/-! ## Memory -/
inductive Ent where
  | row (g : Nat) (cs : List Value)
  | obj (g : Nat) (o : Obj)
def Ent.at : Ent → Nat | .row g _ => g | .obj g _ => g
/-- A block of cells, known whole; none of them is frozen. -/
def Row (w : World) (g : Nat) (cs : List Value) : Prop := ∃ T lo hi, w.heap[g]? = some (.cells cs.toArray T (lo, hi)) ∧ ∀ i, i < cs.length → ¬ (lo ≤ i ∧ i < hi)
def Obj.noCells : Obj → Prop | .cells .. => False | _ => True
def Ent.holds (w : World) : Ent → Prop
  | .row g cs => Row w g cs
  | .obj g o => w.heap[g]? = some o ∧ Obj.noCells o

theorem Row.lt {w : World} {g : Nat} {cs : List Value} (h : Row w g cs) : g < w.heap.size := by
  obtain ⟨T, lo, hi, h, _⟩ := h
  exact (Array.getElem?_eq_some_iff.1 h).1
theorem Row.cell {w : World} {g i : Nat} {cs : List Value} {v : Value} (h : Row w g cs) (hv : cs[i]? = some v) : w.cell? ⟨g, i, none⟩ = some v := by
  obtain ⟨T, lo, hi, h, _⟩ := h
  simp [World.cell?, h, hv]
theorem Row.frozen {w : World} {g i : Nat} {cs : List Value} (h : Row w g cs) (hi' : i < cs.length) : w.frozen? ⟨g, i, none⟩ = false := by
  obtain ⟨T, lo, hi, h, hf⟩ := h
  have := hf i hi'
  simp only [World.frozen?, h]
  simp; omega
theorem Ent.lt {w : World} {e : Ent} (h : e.holds w) : e.at < w.heap.size := by
  cases e with
  | row g cs => exact Row.lt h
  | obj g o => exact (Array.getElem?_eq_some_iff.1 h.1).1
theorem Ent.keep {w w' : World} {e : Ent} (h : e.holds w) (hh : w'.heap[e.at]? = w.heap[e.at]?) : e.holds w' := by
  cases e with
  | row g cs => obtain ⟨T, lo, hi, h, hf⟩ := h; exact ⟨T, lo, hi, by rw [← h]; exact hh, hf⟩
  | obj g o => exact ⟨by rw [← h.1]; exact hh, h.2⟩

/-- The world w: what was there in w0 is as it was but for blocks with p; these blocks are there. -/
structure St (p : Nat → Prop) (w0 w : World) (L : List Ent) : Prop where
  frm : Frm p w0 w
  holds : ∀ e ∈ L, e.holds w
  dist : (L.map Ent.at).Nodup
  mine : ∀ e ∈ L, p e.at ∨ w0.heap.size ≤ e.at

theorem St.start (p : Nat → Prop) (w : World) : St p w w [] := ⟨Frm.refl _ _, (fun _ h => by cases h), (by simp), (fun _ h => by cases h)⟩
theorem St.ext {p : Nat → Prop} {w0 w w' : World} {L : List Ent} (h : St p w0 w L) (hf : Frm (fun _ => False) w w') : St p w0 w' L :=
  ⟨h.frm.trans (hf.mono (fun _ h => h.elim)), fun e he => Ent.keep (h.holds e he) (hf.block _ (Ent.lt (h.holds e he)) (fun h => h)), h.dist, h.mine⟩
theorem St.drew {p : Nat → Prop} {w0 w : World} {L : List Ent} (h : St p w0 w L) : St p w0 w.drew L := h.ext (Frm.drew (Frm.refl _ _))
theorem St.add {p : Nat → Prop} {w0 w w' : World} {L : List Ent} {e : Ent} (h : St p w0 w L) (hf : Frm (fun _ => False) w w') (hg : w.heap.size ≤ e.at) (he : e.holds w') : St p w0 w' (e :: L) := by
  refine ⟨h.frm.trans (hf.mono (fun _ h => h.elim)), ?_, ?_, ?_⟩
  · intro e' he'
    rcases List.mem_cons.1 he' with rfl | he'
    · exact he
    · exact (h.ext hf).holds e' he'
  · simp only [List.map_cons, List.nodup_cons]
    refine ⟨fun hm => ?_, h.dist⟩
    obtain ⟨e', he', heq⟩ := List.mem_map.1 hm
    have := Ent.lt (h.holds e' he')
    omega
  · intro e' he'
    rcases List.mem_cons.1 he' with rfl | he'
    · exact .inr (Nat.le_trans h.frm.size hg)
    · exact h.mine e' he'
theorem St.sub {p : Nat → Prop} {w0 w : World} {L L' : List Ent} (h : St p w0 w L) (hs : L'.Sublist L) : St p w0 w L' :=
  ⟨h.frm, fun e he => h.holds e (hs.subset he), h.dist.sublist (hs.map _), fun e he => h.mine e (hs.subset he)⟩
theorem St.perm {p : Nat → Prop} {w0 w : World} {L L' : List Ent} (h : St p w0 w L) (hs : L'.Perm L) : St p w0 w L' :=
  ⟨h.frm, fun e he => h.holds e (hs.subset he), (hs.map Ent.at).nodup_iff.2 h.dist, fun e he => h.mine e (hs.subset he)⟩
theorem St.tail {p : Nat → Prop} {w0 w : World} {e : Ent} {L : List Ent} (h : St p w0 w (e :: L)) : St p w0 w L := h.sub (List.sublist_cons_self _ _)

/-- In the list L stands a block g with cells cs. -/
class At (L : List Ent) (g : Nat) (cs : outParam (List Value)) : Prop where
  mem : Ent.row g cs ∈ L
instance {L : List Ent} {g : Nat} {cs : List Value} : At (.row g cs :: L) g cs := ⟨List.mem_cons_self ..⟩
instance {e : Ent} {L : List Ent} {g : Nat} {cs : List Value} [h : At L g cs] : At (e :: L) g cs := ⟨List.mem_cons_of_mem _ h.mem⟩
class AtO (L : List Ent) (g : Nat) (o : outParam Obj) : Prop where
  mem : Ent.obj g o ∈ L
instance {L : List Ent} {g : Nat} {o : Obj} : AtO (.obj g o :: L) g o := ⟨List.mem_cons_self ..⟩
instance {e : Ent} {L : List Ent} {g : Nat} {o : Obj} [h : AtO L g o] : AtO (e :: L) g o := ⟨List.mem_cons_of_mem _ h.mem⟩
/-- L' is L, block e.at being e. -/
class Put (L : List Ent) (g : Nat) (e : Ent) (L' : outParam (List Ent)) : Prop where
  ok : e.at = g → ∃ A B e', L = A ++ e' :: B ∧ L' = A ++ e :: B ∧ e'.at = g
instance {L : List Ent} {g : Nat} {cs : List Value} {e : Ent} : Put (.row g cs :: L) g e (e :: L) := ⟨fun _ => ⟨[], L, _, rfl, rfl, rfl⟩⟩
instance {L : List Ent} {g : Nat} {o : Obj} {e : Ent} : Put (.obj g o :: L) g e (e :: L) := ⟨fun _ => ⟨[], L, _, rfl, rfl, rfl⟩⟩
instance {d : Ent} {L L' : List Ent} {g : Nat} {e : Ent} [h : Put L g e L'] : Put (d :: L) g e (d :: L') :=
  ⟨fun he => let ⟨A, B, e', h1, h2, h3⟩ := h.ok he; ⟨d :: A, B, e', by rw [h1]; rfl, by rw [h2]; rfl, h3⟩⟩

theorem St.row {p : Nat → Prop} {w0 w : World} {L : List Ent} {g : Nat} {cs : List Value} (h : St p w0 w L) [ha : At L g cs] : Row w g cs := h.holds _ ha.mem
theorem St.cell {p : Nat → Prop} {w0 w : World} {L : List Ent} {g i : Nat} {cs : List Value} {v : Value} (h : St p w0 w L) [At L g cs] (hv : cs[i]? = some v) : w.cell? ⟨g, i, none⟩ = some v := (h.row (g := g)).cell hv
theorem St.old {p : Nat → Prop} {w0 w : World} {L : List Ent} {b i : Nat} {v : Value} (h : St p w0 w L) (hp : ¬ p b) (hc : w0.cell? ⟨b, i, none⟩ = some v) : w.cell? ⟨b, i, none⟩ = some v := by
  rw [World.cell?_of_block (w := w0) (a := ⟨b, i, none⟩) (h.frm.block b (block_lt_of_cell hc) hp)]; exact hc
/-- One block has turned, and new ones may be there. -/
theorem St.put {p : Nat → Prop} {w0 w w' : World} {L L' : List Ent} {g : Nat} {e : Ent} (h : St p w0 w L) [hp : Put L g e L'] (he : e.at = g) (hf : Frm (fun k => k = g) w w') (hh : e.holds w') : St p w0 w' L' := by
  obtain ⟨A, B, e', rfl, rfl, hg⟩ := hp.ok he
  have hd := h.dist
  have hat : (A ++ e :: B).map Ent.at = (A ++ e' :: B).map Ent.at := by simp [he, hg]
  have hmine : p g ∨ w0.heap.size ≤ g := hg ▸ h.mine e' (by simp)
  refine ⟨?_, ?_, by rw [hat]; exact hd, ?_⟩
  · rcases hmine with hm | hm
    · exact h.frm.trans (hf.mono (fun k hk => by subst hk; exact hm))
    · exact Frm.own h.frm hf (fun k hk => by omega)
  · intro x hx
    by_cases hxe : x.at = g
    · rcases List.mem_append.1 hx with hx | hx
      · exfalso
        simp only [List.map_append, List.map_cons, List.nodup_append] at hd
        exact hd.2.2 x.at (List.mem_map_of_mem hx) e'.at (by simp) (by rw [hxe, hg])
      · rcases List.mem_cons.1 hx with rfl | hx
        · exact hh
        · exfalso
          simp only [List.map_append, List.map_cons, List.nodup_append, List.nodup_cons] at hd
          exact hd.2.1.1 (by rw [hg, ← hxe]; exact List.mem_map_of_mem hx)
    · have hx' : x ∈ A ++ e' :: B := by
        rcases List.mem_append.1 hx with hx | hx
        · exact List.mem_append_left _ hx
        · rcases List.mem_cons.1 hx with rfl | hx
          · exact absurd he hxe
          · exact List.mem_append_right _ (List.mem_cons_of_mem _ hx)
      exact Ent.keep (h.holds x hx') (hf.block _ (Ent.lt (h.holds x hx')) hxe)
  · intro x hx
    rcases List.mem_append.1 hx with hx | hx
    · exact h.mine x (List.mem_append_left _ hx)
    · rcases List.mem_cons.1 hx with rfl | hx
      · rw [he]; exact hmine
      · exact h.mine x (List.mem_append_right _ (List.mem_cons_of_mem _ hx))

theorem Row.setCell {w : World} {g i : Nat} {cs : List Value} {v : Value} (h : Row w g cs) : Row (w.setCell ⟨g, i, none⟩ v) g (cs.set i v) := by
  obtain ⟨T, lo, hi, h, hf⟩ := h
  refine ⟨T, lo, hi, ?_, by simpa using hf⟩
  simp [World.setCell, Array.getElem?_modify, h]
theorem Row.new {w : World} {cs : Array Value} {T : TypeId} : Row (w.alloc (.cells cs T)) w.heap.size cs.toList :=
  ⟨T, 0, 0, (by rw [heap_alloc_new]), fun i _ h => by omega⟩
end Go.Proofs.YtmhahajadgkolaaGreatDoor
/- The engine's steps: regions, calls, branches, loops, returns. -/
namespace Go.Proofs.YtmhahajadgkolaaGreatDoor
open Go.RowKit

section
variable {P : Program} {ops : Array Oper} {Q : Exit → Act → World → Prop} {n : Nat} {p : Nat → Prop} {w0 : World} {o : Oper} {rest : List Oper} {l : Kn} {L : List Ent}

def WL (P : Program) (ops : Array Oper) (Q : Exit → Act → World → Prop) (n : Nat) (p : Nat → Prop) (w0 : World) (rest : List Oper) (l : Kn) (L : List Ent) : Prop :=
  ∀ a w, Has n a l → St p w0 w L → wpList P ops Q rest a w
def WC (P : Program) (c : Code) (Q : Exit → Act → World → Prop) (n : Nat) (p : Nat → Prop) (w0 : World) (l : Kn) (L : List Ent) : Prop :=
  ∀ a w, Has n a l → St p w0 w L → c.wp P Q a w
def WE (Q : Exit → Act → World → Prop) (e : Exit) (n : Nat) (p : Nat → Prop) (w0 : World) (l : Kn) (L : List Ent) : Prop :=
  ∀ a w, Has n a l → St p w0 w L → Q e a w
def WQ (P : Program) (ops : Array Oper) (K : Act → World → Prop) (n : Nat) (p : Nat → Prop) (w0 : World) (rest : List Oper) (l : Kn) (L : List Ent) : Prop :=
  ∀ a, Has n a l → wpQuiet P ops (fun w => St p w0 w L) (fun a' => ∀ w', St p w0 w' L → K a' w') rest a
/-- In a frame of which l is known, in a world of the class, an operation yields v and leaves the world as it is. -/
def Val (P : Program) (C : World → Prop) (n : Nat) (l : Kn) (o : Oper) (v : Value) : Prop := ∀ a w, Has n a l → C w → (execOp a.eval o).run P w = .ok (.value v) w

theorem wanted_none (hg : o.guard = none) (f : Nat → Option Bool) : Region.wanted o f = true := by simp [Region.wanted, hg]
theorem wanted_some {j dj : Nat} {b : Bool} {a : Act} (hg : o.guard = some (j, b)) (hj : (ops[j]?).bind (·.dst) = some dj) (ha : Has n a l) (hl : look l dj = some (.bool b)) : Region.wanted o (yielded ops a.tmps) = true := by
  have h := ha.got dj _ hl
  have h2 : a.tmps[dj]? = some (.bool b) := by
    rw [Array.getD_eq_getD_getElem?] at h
    cases hq : a.tmps[dj]? with
    | none => rw [hq] at h; simp [undef] at h
    | some x => rw [hq] at h; simpa using h
  simp [Region.wanted, hg, yielded, hj, h2]
def isB (v : Value) (b : Bool) : Bool := match v with | .bool c => c == b | _ => false
theorem wanted_not {j dj : Nat} {b : Bool} {v : Value} {a : Act} (hg : o.guard = some (j, b)) (hj : (ops[j]?).bind (·.dst) = some dj) (ha : Has n a l) (hl : look l dj = some v) (hv : isB v b = false) : Region.wanted o (yielded ops a.tmps) = false := by
  have h := ha.got dj _ hl
  unfold Region.wanted
  rw [hg]
  simp only [yielded, hj, Option.bind_some]
  rw [Array.getD_eq_getD_getElem?] at h
  cases hq : a.tmps[dj]? with
  | none => simp
  | some x =>
    rw [hq] at h
    simp only [Option.getD_some] at h
    subst h
    cases x <;> simp_all [isB]

/-- An operation takes part: it has no guard, or its guard says so. -/
def On (ops : Array Oper) (o : Oper) (l : Kn) : Prop := o.guard = none ∨ ∃ j dj b, o.guard = some (j, b) ∧ (ops[j]?).bind (·.dst) = some dj ∧ look l dj = some (.bool b)
theorem On.none (hg : o.guard = Option.none) : On ops o l := .inl hg
theorem On.some {j dj : Nat} {b : Bool} (hg : o.guard = Option.some (j, b)) (hj : (ops[j]?).bind (·.dst) = Option.some dj) (hl : look l dj = Option.some (.bool b)) : On ops o l := .inr ⟨j, dj, b, hg, hj, hl⟩
theorem On.ok {a : Act} (h : On ops o l) (ha : Has n a l) : Region.wanted o (yielded ops a.tmps) = true := by
  rcases h with hg | ⟨j, dj, b, hg, hj, hl⟩
  · exact wanted_none hg _
  · exact wanted_some hg hj ha hl

theorem wpList_on {a : Act} {w : World} (hw : Region.wanted o (yielded ops a.tmps) = true) (h : o.wp P a w (wpList P ops Q rest) Q) : wpList P ops Q (o :: rest) a w := by
  unfold wpList; rw [if_pos hw]; exact .inl h

theorem WL.nil (h : WE Q .normal n p w0 l L) : WL P ops Q n p w0 [] l L := h
theorem WL.val {d : Nat} {v : Value} (hv : Val P (fun w => St p w0 w L) n l o v) (hg : On ops o l) (hd : o.dst = some d) (hn : Nat.blt d n = true)
    (h : WL P ops Q n p w0 rest ((d, v) :: l) L) : WL P ops Q n p w0 (o :: rest) l L := by
  intro a w ha hS
  refine wpList_on (hg.ok ha) ?_
  unfold Oper.wp
  rw [hv a w ha hS]
  exact h _ _ (ha.put_any hd hn v) hS
theorem WL.skip {j dj d : Nat} {b : Bool} {v : Value} (hg : o.guard = some (j, b)) (hj : (ops[j]?).bind (·.dst) = some dj) (hl : look l dj = some v) (hv : isB v b = false) (hd : o.dst = some d) (hn : Nat.blt d n = true)
    (h : WL P ops Q n p w0 rest ((d, undef) :: l) L) : WL P ops Q n p w0 (o :: rest) l L := by
  intro a w ha hS
  unfold wpList
  rw [if_neg (by rw [wanted_not hg hj ha hl hv]; decide)]
  exact h _ _ (ha.put_any hd hn _) hS
theorem WL.op {d : Nat} (hg : On ops o l) (hd : o.dst = some d) (hn : Nat.blt d n = true)
    (h : ∀ a w, Has n a l → St p w0 w L → ∃ v w' L', (execOp a.eval o).run P w = .ok (.value v) w' ∧ St p w0 w' L' ∧ WL P ops Q n p w0 rest ((d, v) :: l) L') : WL P ops Q n p w0 (o :: rest) l L := by
  intro a w ha hS
  refine wpList_on (hg.ok ha) ?_
  obtain ⟨v, w', L', hr, hS', hK⟩ := h a w ha hS
  unfold Oper.wp
  rw [hr]
  exact hK _ _ (ha.put_any hd hn v) hS'
/-- .. whose value goes nowhere, or that has none. -/
theorem WL.act (hg : On ops o l) (hd : o.dst = none)
    (h : ∀ a w, Has n a l → St p w0 w L → ∃ w' L', ((execOp a.eval o).run P w = .ok .skip w' ∨ ∃ v, (execOp a.eval o).run P w = .ok (.value v) w') ∧ St p w0 w' L' ∧ WL P ops Q n p w0 rest l L') : WL P ops Q n p w0 (o :: rest) l L := by
  intro a w ha hS
  refine wpList_on (hg.ok ha) ?_
  obtain ⟨w', L', hr, hS', hK⟩ := h a w ha hS
  unfold Oper.wp
  rcases hr with hr | ⟨v, hr⟩ <;> rw [hr]
  · exact hK _ _ (by rw [hd]; exact ha) hS'
  · exact hK _ _ (by rw [hd]; exact ha) hS'

theorem WQ.nil (h : WE Q .normal n p w0 l L) : WQ P ops (Q .normal) n p w0 [] l L := fun a ha w hS => h a w ha hS
theorem WQ.val {K : Act → World → Prop} {d : Nat} {v : Value} (hv : Val P (fun w => St p w0 w L) n l o v) (hg : On ops o l) (hd : o.dst = some d) (hn : Nat.blt d n = true)
    (h : WQ P ops K n p w0 rest ((d, v) :: l) L) : WQ P ops K n p w0 (o :: rest) l L := by
  intro a ha
  unfold wpQuiet
  rw [if_pos (hg.ok ha)]
  refine ⟨v, fun w hS => ?_, h _ (ha.put_any hd hn v)⟩
  unfold Oper.quietAt
  rw [hv a w ha hS]
  exact ⟨rfl, rfl⟩
theorem WQ.skip {K : Act → World → Prop} {j dj d : Nat} {b : Bool} {v : Value} (hg : o.guard = some (j, b)) (hj : (ops[j]?).bind (·.dst) = some dj) (hl : look l dj = some v) (hv : isB v b = false) (hd : o.dst = some d) (hn : Nat.blt d n = true)
    (h : WQ P ops K n p w0 rest ((d, undef) :: l) L) : WQ P ops K n p w0 (o :: rest) l L := by
  intro a ha
  unfold wpQuiet
  rw [if_neg (by rw [wanted_not hg hj ha hl hv]; decide)]
  exact h _ (ha.put_any hd hn _)

/-! ### Calls -/
def callOk (P : Program) (f : FuncId) : Prop := ∀ (args : Array Value) (w : World), (callFunc f args).run P w = .ok (.enter f args) w
theorem callOk_of {f : FuncId} {fn : Func} {c : Code} (hf : P.funcs[f]? = some fn) (hname : (fn.name == "runtime.NumGoroutine") = false) (hb : fn.body = some c) : callOk P f := fun args w => by
  unfold callFunc
  have hne : ¬ fn.name = "runtime.NumGoroutine" := by simpa using hname
  simp [program, Sem.run, hf, hne, hb]
def evs (l : Kn) : List Operand → Option (List Value)
  | [] => some []
  | x :: xs => match ev l x, evs l xs with | some v, some vs => some (v :: vs) | _, _ => none
theorem Has.evs {a : Act} (h : Has n a l) : ∀ {xs : List Operand} {vs : List Value}, evs l xs = some vs → xs.map a.eval = vs
  | [], vs, hx => by simpa [YtmhahajadgkolaaGreatDoor.evs] using hx
  | x :: xs, vs, hx => by
    unfold YtmhahajadgkolaaGreatDoor.evs at hx
    split at hx
    · rename_i v vs' h1 h2
      simp only [Option.some.injEq] at hx
      subst hx
      simp [h.ev h1, h.evs h2]
    · cases hx
theorem run_call {a : Act} {f : FuncId} {x : Operand} {xs : List Operand} {ts : Array TypeId} {vs : List Value} {fi cap : Array Value} {w : World} (ho : o.op = .call { callee := .value x, args := xs.toArray, argTypes := ts })
    (hfv : ev l x = some (.func (.func f) fi cap)) (hx : evs l xs = some vs) (hf : callOk P f) (ha : Has n a l) :
    (execOp a.eval o).run P w = .ok (.enter f (fi ++ vs.toArray ++ cap)) w := by
  have h1 := ha.ev hfv
  have h2 := ha.evs hx
  unfold execOp
  have hf' := fun args => hf args w
  simp [ho, resolve, h1, Deferred.ofValue, invoke, hf', ← h2]

theorem WL.callV {f : FuncId} {x : Operand} {xs : List Operand} {ts : Array TypeId} {vs : List Value} {fi cap : Array Value} {d : Nat} (ho : o.op = .call { callee := .value x, args := xs.toArray, argTypes := ts })
    (hfv : ev l x = some (.func (.func f) fi cap)) (hx : evs l xs = some vs) (hf : callOk P f) (hg : On ops o l) (hd : o.dst = some d) (hn : Nat.blt d n = true)
    (h : ∀ w, St p w0 w L → Calls P f (fi ++ vs.toArray ++ cap) w fun e w' => ∃ v L', e = .returned v ∧ St p w0 w' L' ∧ WL P ops Q n p w0 rest ((d, v) :: l) L') : WL P ops Q n p w0 (o :: rest) l L := by
  intro a w ha hS
  refine wpList_on (hg.ok ha) ?_
  unfold Oper.wp
  rw [run_call ho hfv hx hf ha]
  refine (h w hS).mono ?_
  rintro e w' ⟨v, L', rfl, hS', hK⟩
  exact hK _ _ (ha.put_any hd hn v) hS'
theorem WL.call {f : FuncId} {xs : List Operand} {ts : Array TypeId} {vs : List Value} {d : Nat} (ho : o.op = .call { callee := .value (.func f), args := xs.toArray, argTypes := ts })
    (hx : evs l xs = some vs) (hf : callOk P f) (hg : On ops o l) (hd : o.dst = some d) (hn : Nat.blt d n = true)
    (h : ∀ w, St p w0 w L → Calls P f vs.toArray w fun e w' => ∃ v L', e = .returned v ∧ St p w0 w' L' ∧ WL P ops Q n p w0 rest ((d, v) :: l) L') : WL P ops Q n p w0 (o :: rest) l L :=
  WL.callV (l := l) ho rfl hx hf hg hd hn (fun w hS => by simpa using h w hS)
theorem WQ.callV {K : Act → World → Prop} {f : FuncId} {x : Operand} {xs : List Operand} {ts : Array TypeId} {vs : List Value} {fi cap : Array Value} {d : Nat} (v : Value) (ho : o.op = .call { callee := .value x, args := xs.toArray, argTypes := ts })
    (hfv : ev l x = some (.func (.func f) fi cap)) (hx : evs l xs = some vs) (hf : callOk P f) (hg : On ops o l) (hd : o.dst = some d) (hn : Nat.blt d n = true)
    (hc : ∀ w, St p w0 w L → Calls P f (fi ++ vs.toArray ++ cap) w fun e w' => e = .returned v ∧ St p w0 w' L) (h : WQ P ops K n p w0 rest ((d, v) :: l) L) : WQ P ops K n p w0 (o :: rest) l L := by
  intro a ha
  unfold wpQuiet
  rw [if_pos (hg.ok ha)]
  refine ⟨v, fun w hS => ?_, h _ (ha.put_any hd hn v)⟩
  unfold Oper.quietAt
  rw [run_call ho hfv hx hf ha]
  exact ⟨rfl, hc w hS⟩
theorem WQ.call {K : Act → World → Prop} {f : FuncId} {xs : List Operand} {ts : Array TypeId} {vs : List Value} {d : Nat} (v : Value) (ho : o.op = .call { callee := .value (.func f), args := xs.toArray, argTypes := ts })
    (hx : evs l xs = some vs) (hf : callOk P f) (hg : On ops o l) (hd : o.dst = some d) (hn : Nat.blt d n = true)
    (hc : ∀ w, St p w0 w L → Calls P f vs.toArray w fun e w' => e = .returned v ∧ St p w0 w' L) (h : WQ P ops K n p w0 rest ((d, v) :: l) L) : WQ P ops K n p w0 (o :: rest) l L :=
  WQ.callV (l := l) v ho rfl hx hf hg hd hn (fun w hS => by simpa using hc w hS) h
/-- A contract that leaves all that was there alone. -/
theorem Calls.still {f : FuncId} {args : Array Value} {w : World} {v : Value} (h : Calls P f args w fun e w' => e = .returned v ∧ Frm (fun _ => False) w w') (hS : St p w0 w L) :
    Calls P f args w fun e w' => e = .returned v ∧ St p w0 w' L := h.mono fun _ _ ⟨he, hf⟩ => ⟨he, hS.ext hf⟩
theorem Calls.then {f : FuncId} {args : Array Value} {w : World} {v : Value} {d : Nat} (h : Calls P f args w fun e w' => e = .returned v ∧ Frm (fun _ => False) w w') (hS : St p w0 w L) (hK : WL P ops Q n p w0 rest ((d, v) :: l) L) :
    Calls P f args w fun e w' => ∃ v L', e = .returned v ∧ St p w0 w' L' ∧ WL P ops Q n p w0 rest ((d, v) :: l) L' := h.mono fun _ _ ⟨he, hf⟩ => ⟨v, L, he, hS.ext hf, hK⟩

/-! ### Regions -/
theorem WC.region {id : Nat} {os : List Oper} (h : WL P os.toArray Q n p w0 os l L) : WC P (.region id os.toArray false) Q n p w0 l L := fun a w ha hS => wp_region_lit (h a w ha hS)
theorem WC.quiet {id : Nat} {os : List Oper} (hm : P.follows .mixedOrders = true) (hB : Region.lexB .any os.toArray = true) (h : WQ P os.toArray (Q .normal) n p w0 os l L) : WC P (.region id os.toArray true) Q n p w0 l L :=
  fun a _ ha hS => wp_region_quiet (C := fun w => St p w0 w L) hm hB hS.drew (h a ha)

/-! ### Codes -/
theorem WC.seq {x y : Code} (h : WC P x (Exit.then (y.wp P Q) Q) n p w0 l L) : WC P (.seq x y) Q n p w0 l L := fun a w ha hS => wp_seq (h a w ha hS)
theorem WE.then_n {y : Code} (h : WC P y Q n p w0 l L) : WE (Exit.then (y.wp P Q) Q) .normal n p w0 l L := h
theorem WE.then_ret {K : Act → World → Prop} (h : WE Q .ret n p w0 l L) : WE (Exit.then K Q) .ret n p w0 l L := h
theorem WE.then_exit {K : Act → World → Prop} {id : Nat} (h : WE Q (.exit id) n p w0 l L) : WE (Exit.then K Q) (.exit id) n p w0 l L := h
theorem WC.cond_t {c : Operand} {x y : Code} (hc : ev l c = some (.bool true)) (h : WC P x Q n p w0 l L) : WC P (.cond c x y) Q n p w0 l L := fun a w ha hS => wp_cond_true (ha.ev hc) (h a w ha hS)
theorem WC.cond_f {c : Operand} {x y : Code} (hc : ev l c = some (.bool false)) (h : WC P y Q n p w0 l L) : WC P (.cond c x y) Q n p w0 l L := fun a w ha hS => wp_cond_false (ha.ev hc) (h a w ha hS)
theorem WC.cond_d {c : Operand} {x y : Code} {q : Prop} [Decidable q] (hc : ev l c = some (.bool (decide q))) (ht : q → WC P x Q n p w0 l L) (hf : ¬ q → WC P y Q n p w0 l L) : WC P (.cond c x y) Q n p w0 l L := by
  by_cases hq : q
  · exact WC.cond_t (by rw [hc]; simp [hq]) (ht hq)
  · exact WC.cond_f (by rw [hc]; simp [hq]) (hf hq)
theorem WC.cond_b {c : Operand} {x y : Code} {b : Bool} (hc : ev l c = some (.bool b)) (ht : b = true → WC P x Q n p w0 l L) (hf : b = false → WC P y Q n p w0 l L) : WC P (.cond c x y) Q n p w0 l L := by
  cases b
  · exact WC.cond_f hc (hf rfl)
  · exact WC.cond_t hc (ht rfl)
theorem WC.skip (h : WE Q .normal n p w0 l L) : WC P .skip Q n p w0 l L := fun a w ha hS => wp_skip (h a w ha hS)
theorem WC.label {i : Nat} (h : WE Q .normal n p w0 l L) : WC P (.label i) Q n p w0 l L := fun a w ha hS => wp_label (h a w ha hS)
theorem WC.exit {i : Nat} (h : WE Q (.exit i) n p w0 l L) : WC P (.exit i) Q n p w0 l L := fun a w ha hS => wp_exit (h a w ha hS)
theorem WC.ret (h : WE Q .ret n p w0 l L) : WC P .ret Q n p w0 l L := fun a w ha hS => wp_ret (h a w ha hS)
theorem WC.block {i : Nat} {c : Code} (h : WC P c (Exit.inBlock i Q) n p w0 l L) : WC P (.block i c) Q n p w0 l L := fun a w ha hS => wp_block (h a w ha hS)
theorem WE.block_n {i : Nat} (h : WE Q .normal n p w0 l L) : WE (Exit.inBlock i Q) .normal n p w0 l L := h
theorem WE.block_ret {i : Nat} (h : WE Q .ret n p w0 l L) : WE (Exit.inBlock i Q) .ret n p w0 l L := h
theorem WE.block_hit {i : Nat} (h : WE Q .normal n p w0 l L) : WE (Exit.inBlock i Q) (.exit i) n p w0 l L := fun a w ha hS => by
  unfold Exit.inBlock; simp only [if_true]; exact h a w ha hS
theorem WE.block_miss {i j : Nat} (hij : Nat.beq j i = false) (h : WE Q (.exit j) n p w0 l L) : WE (Exit.inBlock i Q) (.exit j) n p w0 l L := fun a w ha hS => by
  unfold Exit.inBlock; simp only; rw [if_neg (by intro e; subst e; simp at hij)]; exact h a w ha hS
/-- A cut: what stands behind is walked once, from what is said here. -/
def Mid {ι : Type} (lI : ι → Kn) (LI : ι → List Ent) (good : ι → Prop) (n : Nat) (p : Nat → Prop) (w0 : World) (a : Act) (w : World) : Prop := ∃ i, good i ∧ Has n a (lI i) ∧ St p w0 w (LI i)
theorem WC.cut {ι : Type} (lI : ι → Kn) (LI : ι → List Ent) (good : ι → Prop) {x y : Code} (h : WC P x (Exit.then (Mid lI LI good n p w0) Q) n p w0 l L)
    (hy : ∀ i, good i → WC P y Q n p w0 (lI i) (LI i)) : WC P (.seq x y) Q n p w0 l L := fun a w ha hS => wp_seq (wp_mono (h a w ha hS) (fun e a' w' hq => by
      cases e with
      | normal => obtain ⟨i, hi, hA, hW⟩ := hq; exact hy i hi _ _ hA hW
      | _ => exact hq))
theorem WE.mid {ι : Type} {lI : ι → Kn} {LI : ι → List Ent} {good : ι → Prop} (i : ι) (hi : good i) (hl : Sub l (lI i)) (hL : (LI i).Sublist L) : WE (Exit.then (Mid lI LI good n p w0) Q) .normal n p w0 l L :=
  fun _ _ ha hS => ⟨i, hi, ha.sub hl, hS.sub hL⟩
/-- What a round hands on. -/
def Next {ι : Type} (lI : ι → Kn) (LI : ι → List Ent) (good : ι → Prop) (m : ι → Nat) (k : Nat) (n : Nat) (p : Nat → Prop) (w0 : World) (a : Act) (w : World) : Prop := ∃ i, m i < k ∧ good i ∧ Has n a (lI i) ∧ St p w0 w (LI i)
theorem WC.loop {ι : Type} (lI : ι → Kn) (LI : ι → List Ent) (good : ι → Prop) (m : ι → Nat) {c : Code} (i0 : ι) (h0 : good i0) (hl : Sub l (lI i0)) (hL : (LI i0).Sublist L)
    (round : ∀ i, good i → WC P c (Exit.then (Next lI LI good m (m i) n p w0) Q) n p w0 (lI i) (LI i)) : WC P (.loop c) Q n p w0 l L := by
  intro a w ha hS
  refine wp_loop_ghost (fun k a w => ∃ i, m i = k ∧ good i ∧ Has n a (lI i) ∧ St p w0 w (LI i)) (m i0) ⟨i0, rfl, h0, ha.sub hl, hS.sub hL⟩ ?_
  rintro k a w ⟨i, rfl, hi, ha, hS⟩
  refine wp_mono (round i hi a w ha hS) ?_
  intro e a' w' hq
  cases e with
  | normal => obtain ⟨j, hj, hg, hA, hW⟩ := hq; exact ⟨m j, hj, j, rfl, hg, hA, hW⟩
  | _ => exact hq
theorem WE.next {ι : Type} {lI : ι → Kn} {LI : ι → List Ent} {good : ι → Prop} {m : ι → Nat} {k : Nat} (i : ι) (hm : m i < k) (hi : good i) (hl : Sub l (lI i)) (hL : (LI i).Sublist L) : WE (Exit.then (Next lI LI good m k n p w0) Q) .normal n p w0 l L :=
  fun _ _ ha hS => ⟨i, hm, hi, ha.sub hl, hS.sub hL⟩

/-! ### Entry and end -/
def argKn : Nat → List Value → Kn
  | _, [] => []
  | k, v :: vs => (k, v) :: argKn (k + 1) vs
theorem argKn_get : ∀ (vs : List Value) (k t : Nat) (v : Value), look (argKn k vs) t = some v → k ≤ t ∧ vs[t - k]? = some v
  | [], k, t, v, h => by simp [argKn, look] at h
  | u :: vs, k, t, v, h => by
    simp only [argKn, look] at h
    cases hb : Nat.beq k t
    · rw [hb] at h
      have := argKn_get vs (k + 1) t v h
      refine ⟨by omega, ?_⟩
      rw [show t - k = (t - (k + 1)) + 1 by omega]
      simpa using this.2
    · rw [hb] at h
      have : k = t := Nat.eq_of_beq_eq_true hb
      subst this
      simpa using h
theorem enter {f : FuncId} {fn : Func} {c : Code} {vs : List Value} {w : World} {R : Ending → World → Prop} (hf : P.funcs[f]? = some fn) (hb : fn.body = some c) (hn : fn.ntmps = n) (hle : Nat.ble vs.length n = true)
    (hS : St p w0 w L) (h : WC P c (bodyPost P fn R) n p w0 (argKn 0 vs) L) : Calls P f vs.toArray w R := by
  refine calls_of_wp hf hb (h _ _ ⟨?_, rfl, ?_⟩ hS)
  · have := Nat.le_of_ble_eq_true hle
    simp [hn]; omega
  · intro t v hv
    have h1 := (argKn_get vs 0 t v hv).2
    simp only [Nat.sub_zero] at h1
    simp only [Array.getD_eq_getD_getElem?]
    rw [Array.getElem?_append_left (by have := (List.getElem?_eq_some_iff.1 h1).1; simpa using this)]
    simp [h1]

/-- A result: a slot, or a block that a slot points to. -/
def ResOk (P : Program) (C : World → Prop) (l : Kn) (r : ResultVar) (v : Value) : Prop := match r with
  | .tmp t => look l t = some v
  | .cell t ty => ∃ a, look l t = some (.pointer (some a)) ∧ ∀ w, C w → (loadVar ty a).run P w = .ok v w
def resRun (_ : Program) (tmps : Array Value) : ResultVar → Sem Value
  | .tmp t => pure (tmps.getD t undef)
  | .cell a t => do loadVar t (← asAddr (tmps.getD a undef))
theorem ResOk.run {C : World → Prop} {r : ResultVar} {v : Value} {a : Act} {w : World} (h : ResOk P C l r v) (ha : Has n a l) (hC : C w) : (resRun P a.tmps r).run P w = .ok v w := by
  cases r with
  | tmp t => show (pure (a.tmps.getD t undef) : Sem Value).run P w = _; rw [ha.got t v h]; rfl
  | cell t ty =>
    obtain ⟨ad, h1, h2⟩ := h
    show (do loadVar ty (← asAddr (a.tmps.getD t undef)) : Sem Value).run P w = _
    rw [ha.got t _ h1]
    simp [asAddr, h2 w hC]
theorem results_eq (fn : Func) (tmps : Array Value) : results fn tmps = (do let vs ← fn.results.mapM (resRun P tmps); pure (if h : vs.size = 1 then vs[0] else .tuple vs)) := by
  unfold results
  congr 1
variable {fn : Func} {R : Ending → World → Prop} {e : Exit}
theorem WE.fin (he : e = .ret ∨ e = .normal) {v : Value} (hv : ∀ a w, Has n a l → St p w0 w L → (results fn a.tmps).run P w = .ok v w) (h : ∀ w, St p w0 w L → R (.returned v) w) : WE (bodyPost P fn R) e n p w0 l L := by
  intro a w ha hS
  rcases he with rfl | rfl
  · exact ⟨ha.defers, v, hv a w ha hS, h w hS⟩
  · exact ⟨ha.defers, v, hv a w ha hS, h w hS⟩
theorem WE.ret0 (he : e = .ret ∨ e = .normal) (hr : fn.results = #[]) (h : ∀ w, St p w0 w L → R (.returned (.tuple #[])) w) : WE (bodyPost P fn R) e n p w0 l L :=
  WE.fin he (fun a w ha hS => by rw [results_eq (P := P), hr]; simp) h
theorem WE.ret1 (he : e = .ret ∨ e = .normal) {r1 : ResultVar} {v1 : Value} (hr : fn.results = #[r1]) (h1 : ResOk P (fun w => St p w0 w L) l r1 v1) (h : ∀ w, St p w0 w L → R (.returned v1) w) : WE (bodyPost P fn R) e n p w0 l L :=
  WE.fin he (fun a w ha hS => by rw [results_eq (P := P), hr]; simp [h1.run ha hS]) h
theorem WE.ret2 (he : e = .ret ∨ e = .normal) {r1 r2 : ResultVar} {v1 v2 : Value} (hr : fn.results = #[r1, r2]) (h1 : ResOk P (fun w => St p w0 w L) l r1 v1) (h2 : ResOk P (fun w => St p w0 w L) l r2 v2)
    (h : ∀ w, St p w0 w L → R (.returned (.tuple #[v1, v2])) w) : WE (bodyPost P fn R) e n p w0 l L :=
  WE.fin he (fun a w ha hS => by rw [results_eq (P := P), hr]; simp [h1.run ha hS, h2.run ha hS]) h
theorem WE.ret3 (he : e = .ret ∨ e = .normal) {r1 r2 r3 : ResultVar} {v1 v2 v3 : Value} (hr : fn.results = #[r1, r2, r3]) (h1 : ResOk P (fun w => St p w0 w L) l r1 v1) (h2 : ResOk P (fun w => St p w0 w L) l r2 v2) (h3 : ResOk P (fun w => St p w0 w L) l r3 v3)
    (h : ∀ w, St p w0 w L → R (.returned (.tuple #[v1, v2, v3])) w) : WE (bodyPost P fn R) e n p w0 l L :=
  WE.fin he (fun a w ha hS => by rw [results_eq (P := P), hr]; simp [h1.run ha hS, h2.run ha hS, h3.run ha hS]) h
end
section
variable {P : Program} {ops : Array Oper} {Q : Exit → Act → World → Prop} {n : Nat} {p : Nat → Prop} {w0 : World} {o : Oper} {rest : List Oper} {l : Kn} {L : List Ent}
theorem WL.v {d : Nat} {v : Value} (hv : Val P (fun w => St p w0 w L) n l o v) (e : (o.guard, o.dst, Nat.blt d n) = (none, some d, true)) (h : WL P ops Q n p w0 rest ((d, v) :: l) L) : WL P ops Q n p w0 (o :: rest) l L := WL.val hv (.none (congrArg Prod.fst e)) (congrArg (fun x => x.2.1) e) (congrArg (fun x => x.2.2) e) h
theorem WL.nt {y : Code} (h : WC P y Q n p w0 l L) : WL P ops (Exit.then (y.wp P Q) Q) n p w0 [] l L := WL.nil (WE.then_n h)
theorem WL.sk {j dj d : Nat} {b : Bool} {v : Value} (e : (o.guard, (ops[j]?).bind (·.dst), look l dj, isB v b, o.dst, Nat.blt d n) = (some (j, b), some dj, some v, false, some d, true)) (h : WL P ops Q n p w0 rest ((d, undef) :: l) L) : WL P ops Q n p w0 (o :: rest) l L := WL.skip (congrArg Prod.fst e) (congrArg (fun x => x.2.1) e) (congrArg (fun x => x.2.2.1) e) (congrArg (fun x => x.2.2.2.1) e) (congrArg (fun x => x.2.2.2.2.1) e) (congrArg (fun x => x.2.2.2.2.2) e) h
end
end Go.Proofs.YtmhahajadgkolaaGreatDoor
/- The engine's operations: one law each. -/
namespace Go.Proofs.YtmhahajadgkolaaGreatDoor
open Go.RowKit

section
variable {P : Program} {C : World → Prop} {ops : Array Oper} {Q : Exit → Act → World → Prop} {n : Nat} {p : Nat → Prop} {w0 : World} {o : Oper} {rest : List Oper} {l : Kn} {L : List Ent}

/-! ### Types: closed facts -/
/-- A type whose values fill one cell. -/
def One (P : Program) (t : TypeId) : Prop := (∃ d, P.underlying t = some d ∧ d.isRow = false) ∧ (P.info? t).map (·.size) = some 1
def Many (P : Program) (t : TypeId) (m : Nat) : Prop := (∃ d, P.underlying t = some d ∧ d.isRow = true) ∧ (P.info? t).map (·.size) = some m
/-- Field i of a struct begins at cell k (its type is of one cell at least). -/
def FieldAt (P : Program) (s i k ft : Nat) : Prop := ∃ fs f m, P.underlying s = some (.struct fs) ∧ fs[i]? = some f ∧ f.offset = k ∧ f.type = ft ∧ (P.info? ft).map (·.size) = some (m + 1)
theorem FieldAt.mk {s i k ft m : Nat} {fs : Array Field} {f : Field} (hu : P.underlying s = some (.struct fs)) (hf : fs[i]? = some f) (hk : f.offset = k) (ht : f.type = ft) (hs : (P.info? ft).map (·.size) = some (m + 1)) : FieldAt P s i k ft := ⟨fs, f, m, hu, hf, hk, ht, hs⟩
def Zero (P : Program) (t : TypeId) (zs : List Value) : Prop := ∃ z, (P.info? t).bind (·.zero) = some z ∧ z.cells.toList = zs
theorem Zero.mk {t : TypeId} {zs : List Value} {z : Value} (h : (P.info? t).bind (·.zero) = some z) (hz : z.cells.toList = zs) : Zero P t zs := ⟨z, h, hz⟩
theorem One.mk {t : TypeId} {d : TypeDesc} (hu : P.underlying t = some d) (hd : d.isRow = false) (hs : (P.info? t).map (·.size) = some 1) : One P t := ⟨⟨d, hu, hd⟩, hs⟩
theorem Many.mk {t m : Nat} {d : TypeDesc} (hu : P.underlying t = some d) (hd : d.isRow = true) (hs : (P.info? t).map (·.size) = some m) : Many P t m := ⟨⟨d, hu, hd⟩, hs⟩

theorem run_sizeOf {t m : Nat} (hs : (P.info? t).map (·.size) = some m) (w : World) : (sizeOf t).run P w = .ok m w := by
  cases hq : P.info? t with
  | none => simp [hq] at hs
  | some i => simp [hq] at hs; simp [sizeOf, typeInfo, hq, hs]
theorem One.agg {t : TypeId} (h : One P t) (w : World) : (isAgg t).run P w = .ok false w := by
  obtain ⟨⟨d, hu, hd⟩, _⟩ := h
  unfold isAgg
  rw [Sem.run_bind, run_underlying hu w]
  cases d <;> simp_all
theorem Many.agg {t m : Nat} (h : Many P t m) (w : World) : (isAgg t).run P w = .ok true w := by
  obtain ⟨⟨d, hu, hd⟩, _⟩ := h
  unfold isAgg
  rw [Sem.run_bind, run_underlying hu w]
  cases d <;> simp_all
theorem run_zeroValue {t : TypeId} {z : Value} (h : (P.info? t).bind (·.zero) = some z) (w : World) : (zeroValue t).run P w = .ok z w := by
  cases hq : P.info? t with
  | none => simp [hq] at h
  | some i => simp [hq] at h; simp [zeroValue, typeInfo, hq, h]

/-! ### Moves -/
theorem v_move {x : Operand} {v : Value} (ho : o.op = .move x) (hx : ev l x = some v) : Val P C n l o v := fun a w ha _ => by unfold execOp; simp [ho, ha.ev hx]
theorem v_assign {x : Operand} {v : Value} (ho : o.op = .assign x) (hx : ev l x = some v) : Val P C n l o v := fun a w ha _ => by unfold execOp; simp [ho, ha.ev hx]
theorem v_pick_t {c x y : Operand} {v : Value} (ho : o.op = .pick c x y) (hc : ev l c = some (.bool true)) (hx : ev l x = some v) : Val P C n l o v := fun a w ha _ => by
  have h1 := ha.ev hc; have h2 := ha.ev hx
  unfold execOp; simp [ho, h1, h2, asBool]
theorem v_pick_f {c x y : Operand} {v : Value} (ho : o.op = .pick c x y) (hc : ev l c = some (.bool false)) (hx : ev l y = some v) : Val P C n l o v := fun a w ha _ => by
  have h1 := ha.ev hc; have h2 := ha.ev hx
  unfold execOp; simp [ho, h1, h2, asBool]
theorem v_extract {x : Operand} {i : Nat} {vs : List Value} {v : Value} (ho : o.op = .extract x i) (hx : ev l x = some (.tuple vs.toArray)) (hv : vs[i]? = some v) : Val P C n l o v := fun a w ha _ => by
  have h1 := ha.ev hx
  unfold execOp; simp [ho, h1, Instr.extract, hv]
theorem v_nilCheck {x : Operand} {ad : Addr} (ho : o.op = .nilCheck x) (hx : ev l x = some (.pointer (some ad))) : Val P C n l o (.pointer (some ad)) := fun a w ha _ => by
  have h1 := ha.ev hx
  unfold execOp; simp [ho, h1]
theorem v_not {t : TypeId} {x : Operand} {b c : Bool} (ho : o.op = .unOp .not t x) (hx : ev l x = some (.bool b)) (hc : (!b) = c) : Val P C n l o (.bool c) := fun a w ha _ => by
  have h1 := ha.ev hx
  subst hc
  unfold execOp; simp [ho, h1, Op.unary]
/-! ### Numbers -/
section
variable {t yt : TypeId} {x y : Operand} {k : IntKind} {A B r : Int}
theorem run_int2 {op : BinOp} {a : Act} {w : World} (ho : o.op = .binOp op t x y yt) (h1 : a.eval x = .int k A) (h2 : a.eval y = .int k B) :
    (execOp a.eval o).run P w = ((binOp op t (.int k A) (.int k B)).run P w).andThen (fun v w' => .ok (.value v) w') := by
  unfold execOp
  simp only [ho, h1, h2, eqGuard]
  split <;> simp [Result.andThen] <;> cases (binOp op t (.int k A) (.int k B)).run P w <;> rfl
theorem v_add (ho : o.op = .binOp .add t x y yt) (hx : ev l x = some (.int k A)) (hy : ev l y = some (.int k B)) (hr : k.wrap (A + B) = r) : Val P C n l o (.int k r) := fun a w ha _ => by
  rw [run_int2 ho (ha.ev hx) (ha.ev hy), ← hr]; simp [binOp, Op.intArith, Result.andThen]
theorem v_sub (ho : o.op = .binOp .sub t x y yt) (hx : ev l x = some (.int k A)) (hy : ev l y = some (.int k B)) (hr : k.wrap (A - B) = r) : Val P C n l o (.int k r) := fun a w ha _ => by
  rw [run_int2 ho (ha.ev hx) (ha.ev hy), ← hr]; simp [binOp, Op.intArith, Result.andThen]
theorem v_mul (ho : o.op = .binOp .mul t x y yt) (hx : ev l x = some (.int k A)) (hy : ev l y = some (.int k B)) (hr : k.wrap (A * B) = r) : Val P C n l o (.int k r) := fun a w ha _ => by
  rw [run_int2 ho (ha.ev hx) (ha.ev hy), ← hr]; simp [binOp, Op.intArith, Result.andThen]
theorem v_rem (ho : o.op = .binOp .rem t x y yt) (hx : ev l x = some (.int k A)) (hy : ev l y = some (.int k B)) (hA : 0 ≤ A) (hB : 0 < B) : Val P C n l o (.int k (A % B)) := fun a w ha _ => by
  have h : ¬ B = 0 := by omega
  rw [run_int2 ho (ha.ev hx) (ha.ev hy)]; simp [binOp, Op.intDiv, h, Result.andThen, Int.tmod_eq_emod_of_nonneg hA]
theorem v_and (ho : o.op = .binOp .and t x y yt) (hx : ev l x = some (.int k A)) (hy : ev l y = some (.int k B)) (hr : bits .and k A B = r) : Val P C n l o (.int k r) := fun a w ha _ => by
  rw [run_int2 ho (ha.ev hx) (ha.ev hy), ← hr]; simp [binOp, intBits_and, Result.andThen]
theorem v_or (ho : o.op = .binOp .or t x y yt) (hx : ev l x = some (.int k A)) (hy : ev l y = some (.int k B)) (hr : bits .or k A B = r) : Val P C n l o (.int k r) := fun a w ha _ => by
  rw [run_int2 ho (ha.ev hx) (ha.ev hy), ← hr]; simp [binOp, intBits_or, Result.andThen]
theorem v_xor (ho : o.op = .binOp .xor t x y yt) (hx : ev l x = some (.int k A)) (hy : ev l y = some (.int k B)) (hr : bits .xor k A B = r) : Val P C n l o (.int k r) := fun a w ha _ => by
  rw [run_int2 ho (ha.ev hx) (ha.ev hy), ← hr]; simp [binOp, intBits_xor, Result.andThen]
theorem v_andNot (ho : o.op = .binOp .andNot t x y yt) (hx : ev l x = some (.int k A)) (hy : ev l y = some (.int k B)) (hr : bits .andNot k A B = r) : Val P C n l o (.int k r) := fun a w ha _ => by
  rw [run_int2 ho (ha.ev hx) (ha.ev hy), ← hr]; simp [binOp, intBits_andNot, Result.andThen]
theorem v_lss (ho : o.op = .binOp .lss t x y yt) (hx : ev l x = some (.int k A)) (hy : ev l y = some (.int k B)) : Val P C n l o (.bool (decide (A < B))) := fun a w ha _ => by
  rw [run_int2 ho (ha.ev hx) (ha.ev hy)]; simp [binOp, Op.intCmp, Result.andThen]
theorem v_leq (ho : o.op = .binOp .leq t x y yt) (hx : ev l x = some (.int k A)) (hy : ev l y = some (.int k B)) : Val P C n l o (.bool (decide (A ≤ B))) := fun a w ha _ => by
  rw [run_int2 ho (ha.ev hx) (ha.ev hy)]; simp [binOp, Op.intCmp, Result.andThen]
theorem v_gtr (ho : o.op = .binOp .gtr t x y yt) (hx : ev l x = some (.int k A)) (hy : ev l y = some (.int k B)) : Val P C n l o (.bool (decide (B < A))) := fun a w ha _ => by
  rw [run_int2 ho (ha.ev hx) (ha.ev hy)]; simp [binOp, Op.intCmp, Result.andThen]
theorem v_geq (ho : o.op = .binOp .geq t x y yt) (hx : ev l x = some (.int k A)) (hy : ev l y = some (.int k B)) : Val P C n l o (.bool (decide (B ≤ A))) := fun a w ha _ => by
  rw [run_int2 ho (ha.ev hx) (ha.ev hy)]; simp [binOp, Op.intCmp, Result.andThen]
theorem v_eql (ho : o.op = .binOp .eql t x y yt) (hx : ev l x = some (.int k A)) (hy : ev l y = some (.int k B)) : Val P C n l o (.bool (decide (A = B))) := fun a w ha _ => by
  rw [run_int2 ho (ha.ev hx) (ha.ev hy)]; simp [binOp, Op.intCmp, Result.andThen]; rfl
theorem v_neq (ho : o.op = .binOp .neq t x y yt) (hx : ev l x = some (.int k A)) (hy : ev l y = some (.int k B)) : Val P C n l o (.bool (decide (A ≠ B))) := fun a w ha _ => by
  rw [run_int2 ho (ha.ev hx) (ha.ev hy)]; simp [binOp, Op.intCmp, Result.andThen, bne]; rfl
theorem run_shift {op : BinOp} {yk : IntKind} {a : Act} {w : World} (hop : op = .shl ∨ op = .shr) (ho : o.op = .binOp op t x y yt) (h1 : a.eval x = .int k A) (h2 : a.eval y = .int yk B) :
    (execOp a.eval o).run P w = ((Op.shift op k A yk B).run P w).andThen (fun v w' => .ok (.value v) w') := by
  unfold execOp
  rcases hop with rfl | rfl <;>
  (simp only [ho, h1, h2, eqGuard, binOp]
   simp [Result.andThen])
theorem v_shr {yk : IntKind} {m : Nat} {c : Int} (ho : o.op = .binOp .shr t x y yt) (hx : ev l x = some (.int k A)) (hy : ev l y = some (.int yk B)) (hm : B = (m : Int)) (hle : m ≤ k.bits) (hc : (2 : Int) ^ m = c) : Val P C n l o (.int k (A / c)) := fun a w ha _ => by
  subst hm hc
  rw [run_shift (.inr rfl) ho (ha.ev hx) (ha.ev hy), shift_shr k yk A m (by omega) (by omega)]; simp [Result.andThen]
theorem v_shl {yk : IntKind} {m : Nat} {c : Int} (ho : o.op = .binOp .shl t x y yt) (hx : ev l x = some (.int k A)) (hy : ev l y = some (.int yk B)) (hm : B = (m : Int)) (hle : m ≤ k.bits) (hc : (2 : Int) ^ m = c) (hr : k.wrap (A * c) = r) : Val P C n l o (.int k r) := fun a w ha _ => by
  subst hm hc hr
  rw [run_shift (.inl rfl) ho (ha.ev hx) (ha.ev hy), shift_shl k yk A m (by omega) (by omega)]; simp [Result.andThen]
theorem v_conv {s dst : TypeId} {k' : IntKind} (ho : o.op = .convert s dst x) (hx : ev l x = some (.int k' A)) (hd : P.underlying dst = some (.int k)) {ds : TypeDesc} (hs : P.underlying s = some ds) (hr : k.wrap A = r) : Val P C n l o (.int k r) := fun a w ha _ => by
  have h1 := ha.ev hx
  subst hr
  unfold execOp
  simp [ho, h1, convert, run_underlying hd, run_underlying hs, Conv.intToInt]
end
theorem w_i64 {z : Int} (h : -9223372036854775808 ≤ z) (h' : z ≤ 9223372036854775807) : IntKind.i64.wrap z = z := by rw [IntKind.wrap_i64]; omega
theorem w_u32 {z : Int} (h : 0 ≤ z) (h' : z ≤ 4294967295) : IntKind.u32.wrap z = z := by rw [IntKind.wrap_u32']; omega
theorem w_u64 {z : Int} (h : 0 ≤ z) (h' : z ≤ 18446744073709551615) : IntKind.u64.wrap z = z := by rw [IntKind.wrap_u64]; omega
theorem w_u8m (z : Int) : IntKind.u8.wrap z = z % 256 := IntKind.wrap_u8' z
/-- A test is decided on the spot. -/
theorem dT {q : Prop} [Decidable q] (h : q) : decide q = true := decide_eq_true h
theorem dF {q : Prop} [Decidable q] (h : ¬ q) : decide q = false := decide_eq_false h
theorem Val.eq {u v : Value} (h : Val P C n l o u) (e : u = v) : Val P C n l o v := e ▸ h
theorem Val.t {q : Prop} [Decidable q] (h : Val P C n l o (.bool (decide q))) (hq : q) : Val P C n l o (.bool true) := h.eq (by rw [dT hq])
theorem Val.f {q : Prop} [Decidable q] (h : Val P C n l o (.bool (decide q))) (hq : ¬ q) : Val P C n l o (.bool false) := h.eq (by rw [dF hq])
theorem Val.int {k : IntKind} {A B : Int} (h : Val P C n l o (.int k A)) (e : A = B) : Val P C n l o (.int k B) := h.eq (by rw [e])
theorem WL.test {q : Prop} [Decidable q] {d : Nat} (hv : Val P (fun w => St p w0 w L) n l o (.bool (decide q))) (hg : On ops o l) (hd : o.dst = some d) (hn : Nat.blt d n = true)
    (ht : q → WL P ops Q n p w0 rest ((d, .bool true) :: l) L) (hf : ¬ q → WL P ops Q n p w0 rest ((d, .bool false) :: l) L) : WL P ops Q n p w0 (o :: rest) l L := by
  by_cases hq : q
  · exact WL.val (hv.t hq) hg hd hn (ht hq)
  · exact WL.val (hv.f hq) hg hd hn (hf hq)
theorem WQ.test {K : Act → World → Prop} {q : Prop} [Decidable q] {d : Nat} (hv : Val P (fun w => St p w0 w L) n l o (.bool (decide q))) (hg : On ops o l) (hd : o.dst = some d) (hn : Nat.blt d n = true)
    (ht : q → WQ P ops K n p w0 rest ((d, .bool true) :: l) L) (hf : ¬ q → WQ P ops K n p w0 rest ((d, .bool false) :: l) L) : WQ P ops K n p w0 (o :: rest) l L := by
  by_cases hq : q
  · exact WQ.val (hv.t hq) hg hd hn (ht hq)
  · exact WQ.val (hv.f hq) hg hd hn (hf hq)

/-! ### Addresses and loads -/
theorem v_fieldAddr {s i g off k ft : Nat} {x : Operand} (ho : o.op = .fieldAddr s x i) (hx : ev l x = some (.pointer (some ⟨g, off, none⟩))) (hf : FieldAt P s i k ft) : Val P C n l o (.pointer (some ⟨g, off + k, none⟩)) := fun a w ha _ => by
  obtain ⟨fs, f, m, hu, hi, rfl, rfl, hs⟩ := hf
  have h1 := ha.ev hx
  unfold execOp
  simp only [ho, h1, Instr.fieldAt, Sem.run_bind, run_underlying hu, Result.andThen, hi, Instr.sureAddr, Sem.run_pure, fieldPlace, run_sizeOf hs]
  by_cases h0 : f.offset = 0
  · simp [Addr.add, h0]
  · simp [Addr.add, h0]
theorem v_fieldAddr0 {s i g k ft : Nat} {x : Operand} (ho : o.op = .fieldAddr s x i) (hx : ev l x = some (.pointer (some ⟨g, 0, none⟩))) (hf : FieldAt P s i k ft) : Val P C n l o (.pointer (some ⟨g, k, none⟩)) := by
  have := v_fieldAddr (C := C) (n := n) ho hx hf
  simpa using this
theorem v_load1 {ty g k : Nat} {x : Operand} {v : Value} (ho : o.op = .load ty x) (hx : ev l x = some (.pointer (some ⟨g, k, none⟩))) (ht : One P ty) (hc : ∀ w, C w → w.cell? ⟨g, k, none⟩ = some v) : Val P C n l o v := fun a w ha hC => by
  have h1 := ha.ev hx
  have h2 := hc w hC
  unfold execOp
  simp [ho, h1, Instr.loadAt, Instr.sureAddr, loadVar, ht.agg, load, Sem.run, h2]
theorem v_loadN {ty g k m : Nat} {x : Operand} {cs : List Value} (ho : o.op = .load ty x) (hx : ev l x = some (.pointer (some ⟨g, k, none⟩))) (ht : Many P ty m) (hm : cs.length = m) (hc : ∀ w, C w → w.rangeAt g k cs) : Val P C n l o (.agg cs.toArray) := fun a w ha hC => by
  subst hm
  have h1 := ha.ev hx
  obtain ⟨⟨d, hu, hd⟩, hs⟩ := ht
  have := run_loadVar_mid (P := P) w g k ty cs d (hc w hC) hu hd hs
  unfold execOp
  simp [ho, h1, Instr.loadAt, Instr.sureAddr, this]
theorem cellAt {g k : Nat} {cs : List Value} {v : Value} [At L g cs] (hv : cs[k]? = some v) : ∀ w, St p w0 w L → w.cell? ⟨g, k, none⟩ = some v := fun _ hS => hS.cell hv
theorem cellOld {g k : Nat} {v : Value} (hp : ¬ p g) (hv : w0.cell? ⟨g, k, none⟩ = some v) : ∀ w, St p w0 w L → w.cell? ⟨g, k, none⟩ = some v := fun _ hS => hS.old hp hv
def seg (cs : List Value) (k m : Nat) : List Value := (cs.drop k).take m
theorem segAt {g k m : Nat} {cs new : List Value} [At L g cs] (hnew : seg cs k m = new) : ∀ w, St p w0 w L → w.rangeAt g k new := fun w hS i v hi => by
  subst hnew
  refine hS.cell (g := g) (cs := cs) ?_
  unfold seg at hi
  rw [List.getElem?_take] at hi
  split at hi
  · rwa [List.getElem?_drop] at hi
  · cases hi
theorem allAt {g : Nat} {cs : List Value} [At L g cs] : ∀ w, St p w0 w L → w.rangeAt g 0 cs := fun w hS i v hi => by
  rw [Nat.zero_add]; exact hS.cell (g := g) hi
theorem resRow {t g m : Nat} {ty : TypeId} {cs : List Value} (hl : look l t = some (.pointer (some ⟨g, 0, none⟩))) (ht : Many P ty m) [At L g cs] (hm : cs.length = m) : ResOk P (fun w => St p w0 w L) l (.cell t ty) (.agg cs.toArray) := by
  subst hm
  obtain ⟨⟨d, hu, hd⟩, hs⟩ := ht
  exact ⟨_, hl, fun w hS => run_loadVar_mid (P := P) w g 0 ty cs d (allAt w hS) hu hd hs⟩
theorem v_field1 {s i k ft : Nat} {x : Operand} {cs : List Value} {v : Value} (ho : o.op = .field s x i) (hx : ev l x = some (.agg cs.toArray)) (hf : FieldAt P s i k ft) (ht : One P ft) (hv : cs[k]? = some v) : Val P C n l o v := fun a w ha _ => by
  obtain ⟨fs, f, m, hu, hi, rfl, rfl, hs⟩ := hf
  have h1 := ha.ev hx
  unfold execOp
  simp [ho, h1, Instr.field, run_underlying hu, hi, asAgg, part, ht.agg, hv]
theorem v_fieldN {s i k ft m : Nat} {x : Operand} {cs new : List Value} (ho : o.op = .field s x i) (hx : ev l x = some (.agg cs.toArray)) (hf : FieldAt P s i k ft) (ht : Many P ft m) (hnew : seg cs k m = new) : Val P C n l o (.agg new.toArray) := fun a w ha _ => by
  obtain ⟨fs, f, m, hu, hi, rfl, rfl, hs⟩ := hf
  have h1 := ha.ev hx
  subst hnew
  unfold execOp
  simp [ho, h1, Instr.field, run_underlying hu, hi, asAgg, part, ht.agg, run_sizeOf ht.2, seg, List.extract_eq_take_drop, Nat.add_sub_cancel_left]
end
end Go.Proofs.YtmhahajadgkolaaGreatDoor
/- The engine's operations that make memory, or write it; addresses in it. -/
namespace Go.Proofs.YtmhahajadgkolaaGreatDoor
open Go.RowKit

section
variable {P : Program} {C : World → Prop} {ops : Array Oper} {Q : Exit → Act → World → Prop} {n : Nat} {p : Nat → Prop} {w0 : World} {o : Oper} {rest : List Oper} {l : Kn} {L : List Ent}

/-! ### Stores -/
def one : Value → Bool | .agg _ => false | .tuple _ => false | _ => true
theorem run_store_one {w : World} {g k : Nat} {cs : List Value} {v : Value} (hR : Row w g cs) (hk : k < cs.length) (hv : one v = true) : (store ⟨g, k, none⟩ v).run P w = .ok () (w.setCell ⟨g, k, none⟩ v) := by
  have h1 := hR.cell (i := k) (v := cs[k]) (by simp [hk])
  have h2 := hR.frozen hk
  have := run_store P w ⟨g, k, none⟩ v .plain (by cases v <;> first | rfl | (simp [one] at hv))
  rw [this]
  simp [h1, h2]
theorem Frm.set {w : World} {g k : Nat} {v : Value} : Frm (fun b => b = g) w (w.setCell ⟨g, k, none⟩ v) := Frm.set1 (Frm.refl _ _)
theorem WL.store1 {ty g k : Nat} {x y : Operand} {v : Value} {cs : List Value} {L' : List Ent} (ho : o.op = .store ty x y) (hx : ev l x = some (.pointer (some ⟨g, k, none⟩))) (hy : ev l y = some v) (hv : one v = true) (ht : One P ty)
    [At L g cs] (hk : k < cs.length) [Put L g (.row g (cs.set k v)) L'] (hg : On ops o l) (hd : o.dst = none) (h : WL P ops Q n p w0 rest l L') : WL P ops Q n p w0 (o :: rest) l L := by
  refine WL.act hg hd fun a w ha hS => ?_
  have h1 := ha.ev hx
  have h2 := ha.ev hy
  have hR := hS.row (g := g)
  refine ⟨w.setCell ⟨g, k, none⟩ v, L', .inl ?_, hS.put (g := g) (e := .row g (cs.set k v)) rfl Frm.set hR.setCell, h⟩
  have hsz : v.cells.size = 1 := by cases v <;> simp_all [one, Value.cells]
  have hcl : v.cells.toList = [v] := by cases v <;> simp_all [one, Value.cells]
  unfold execOp
  simp [ho, h1, h2, Instr.storeAt, Instr.sureAddr, storeVar, run_sizeOf ht.2, hsz, hcl, storeCells, Addr.add, run_store_one hR hk hv]

/-- Cells laid over others from k on. -/
def splice : List Value → Nat → List Value → List Value
  | [], _, _ => []
  | c :: cs, _, [] => c :: cs
  | _ :: cs, 0, v :: vs => v :: splice cs 0 vs
  | c :: cs, k + 1, v :: vs => c :: splice cs k (v :: vs)
theorem splice_nil (cs : List Value) (k : Nat) : splice cs k [] = cs := by cases cs <;> rfl
theorem splice_eq : ∀ (cs : List Value) (k : Nat) (new : List Value), k + new.length ≤ cs.length → splice cs k new = cs.take k ++ new ++ cs.drop (k + new.length)
  | [], k, new, h => by
    simp only [List.length_nil, Nat.le_zero_eq, Nat.add_eq_zero_iff, List.length_eq_zero_iff] at h
    rw [h.1, h.2]; rfl
  | c :: cs, k, [], _ => by rw [splice_nil]; simp
  | c :: cs, 0, v :: vs, h => by
    have h' : 0 + vs.length ≤ cs.length := by simp at h ⊢; omega
    show v :: splice cs 0 vs = _
    rw [splice_eq cs 0 vs h']
    simp
  | c :: cs, k + 1, v :: vs, h => by
    have h' : k + (v :: vs).length ≤ cs.length := by simp at h ⊢; omega
    show c :: splice cs k (v :: vs) = _
    rw [splice_eq cs k (v :: vs) h', show k + 1 + (v :: vs).length = (k + (v :: vs).length) + 1 by omega]
    simp
theorem splice_cons (cs : List Value) (k : Nat) (v : Value) (new : List Value) (h : k + (new.length + 1) ≤ cs.length) : splice (cs.set k v) (k + 1) new = splice cs k (v :: new) := by
  rw [splice_eq _ _ _ (by rw [List.length_set]; omega), splice_eq _ _ _ (by simpa using h)]
  rw [List.drop_set_of_lt (by omega), List.take_set]
  have : (cs.take (k + 1)).set k v = cs.take k ++ [v] := by
    have hk : k < cs.length := by omega
    apply List.ext_getElem?
    intro i
    by_cases hi : i = k
    · subst hi
      have e : (List.take i cs).length = i := by rw [List.length_take]; omega
      rw [List.getElem?_set_self (by rw [List.length_take]; omega), List.getElem?_append_right (by omega), e, Nat.sub_self]
      rfl
    · rw [List.getElem?_set_ne (by omega)]
      by_cases hlt : i < k
      · rw [List.getElem?_append_left (by simp; omega), List.getElem?_take_of_lt (by omega), List.getElem?_take_of_lt hlt]
      · rw [List.getElem?_append_right (by simp; omega)]
        rw [List.getElem?_eq_none (by simp; omega), List.getElem?_eq_none (by simp; omega)]
  rw [this]
  simp [Nat.add_assoc, Nat.add_comm 1]
theorem splice_length (cs : List Value) (k : Nat) (new : List Value) (h : k + new.length ≤ cs.length) : (splice cs k new).length = cs.length := by rw [splice_eq _ _ _ h]; simp; omega
theorem run_storeCells_row {g : Nat} : ∀ (new : List Value) (i k : Nat) (cs : List Value) (w : World), Row w g cs → k + i + new.length ≤ cs.length → new.all one = true →
    ∃ w', (storeCells ⟨g, k, none⟩ new i).run P w = .ok () w' ∧ Row w' g (splice cs (k + i) new) ∧ Frm (fun b => b = g) w w'
  | [], i, k, cs, w, hR, _, _ => ⟨w, rfl, by rw [splice_nil]; exact hR, Frm.refl _ _⟩
  | v :: new, i, k, cs, w, hR, hle, h1 => by
    simp only [List.all_cons, Bool.and_eq_true] at h1
    simp only [List.length_cons] at hle
    obtain ⟨w', hr, hR', hF⟩ := run_storeCells_row new (i + 1) k (cs.set (k + i) v) _ (hR.setCell (i := k + i) (v := v)) (by rw [List.length_set]; omega) h1.2
    refine ⟨w', ?_, by rw [← splice_cons cs (k + i) v new (by omega)]; exact hR', Frm.set.trans hF⟩
    have ha : (⟨g, k, none⟩ : Addr).add i = ⟨g, k + i, none⟩ := by
      unfold Addr.add; split
      · rename_i h; subst h; rfl
      · rfl
    simp [storeCells, ha, run_store_one hR (show k + i < cs.length by omega) h1.1, hr]
theorem WL.storeN {ty g k m : Nat} {x y : Operand} {new cs : List Value} {L' : List Ent} (ho : o.op = .store ty x y) (hx : ev l x = some (.pointer (some ⟨g, k, none⟩))) (hy : ev l y = some (.agg new.toArray)) (hall : new.all one = true)
    (ht : Many P ty m) (hm : new.length = m) [At L g cs] (hk : k + m ≤ cs.length) [Put L g (.row g (splice cs k new)) L'] (hg : On ops o l) (hd : o.dst = none) (h : WL P ops Q n p w0 rest l L') : WL P ops Q n p w0 (o :: rest) l L := by
  subst hm
  refine WL.act hg hd fun a w ha hS => ?_
  have h1 := ha.ev hx
  have h2 := ha.ev hy
  have hR := hS.row (g := g)
  obtain ⟨w', hr, hR', hF⟩ := run_storeCells_row (P := P) new 0 k cs w hR (by omega) hall
  refine ⟨w', L', .inl ?_, hS.put (g := g) (e := .row g (splice cs k new)) rfl hF (show Row _ _ _ by simpa using hR'), h⟩
  unfold execOp
  simp [ho, h1, h2, Instr.storeAt, Instr.sureAddr, storeVar, run_sizeOf ht.2, Value.cells, hr]
/-- The whole block anew. -/
theorem WL.storeW {ty g m : Nat} {x y : Operand} {new cs : List Value} {L' : List Ent} (ho : o.op = .store ty x y) (hx : ev l x = some (.pointer (some ⟨g, 0, none⟩))) (hy : ev l y = some (.agg new.toArray)) (hall : new.all one = true)
    (ht : Many P ty m) (hm : new.length = m) [At L g cs] (hk : cs.length = m) [Put L g (.row g new) L'] (hg : On ops o l) (hd : o.dst = none) (h : WL P ops Q n p w0 rest l L') : WL P ops Q n p w0 (o :: rest) l L := by
  have e : splice cs 0 new = new := by rw [splice_eq _ _ _ (by omega)]; simp; omega
  have i : Put L g (.row g (splice cs 0 new)) L' := by rw [e]; infer_instance
  exact WL.storeN (cs := cs) (k := 0) ho hx hy hall ht hm (by omega) hg hd h

/-! ### New memory -/
theorem Frm.new {w : World} {ob : Obj} : Frm (fun _ => False) w (w.alloc ob) := Frm.alloc (Frm.refl _ _)
theorem St.new {w : World} {cs : List Value} {T : TypeId} (hS : St p w0 w L) : St p w0 (w.alloc (.cells cs.toArray T)) (.row w.heap.size cs :: L) := hS.add Frm.new (Nat.le_refl _) (Row.new (cs := cs.toArray))
theorem St.newObj {w : World} {ob : Obj} (hS : St p w0 w L) (hn : Obj.noCells ob) : St p w0 (w.alloc ob) (.obj w.heap.size ob :: L) := hS.add Frm.new (Nat.le_refl _) ⟨heap_alloc_new w ob, hn⟩
theorem WL.alloc {ty d : Nat} {zs : List Value} (ho : o.op = .alloc ty) (hz : Zero P ty zs) (hg : On ops o l) (hd : o.dst = some d) (hn : Nat.blt d n = true)
    (h : ∀ g, w0.heap.size ≤ g → WL P ops Q n p w0 rest ((d, .pointer (some ⟨g, 0, none⟩)) :: l) (.row g zs :: L)) : WL P ops Q n p w0 (o :: rest) l L := by
  refine WL.op hg hd hn fun a w ha hS => ?_
  obtain ⟨z, hz, rfl⟩ := hz
  refine ⟨_, _, _, ?_, St.new (T := ty) hS, h _ hS.frm.size⟩
  unfold execOp
  simp [ho, Instr.alloc, run_zeroValue hz, newVar, newRow, newObj, Sem.run]
theorem WL.box {ty d : Nat} {x : Operand} {v : Value} {cs : List Value} (ho : o.op = .box ty x) (hx : ev l x = some v) (hc : v.cells = cs.toArray) (hg : On ops o l) (hd : o.dst = some d) (hn : Nat.blt d n = true)
    (h : ∀ g, w0.heap.size ≤ g → WL P ops Q n p w0 rest ((d, .pointer (some ⟨g, 0, none⟩)) :: l) (.row g cs :: L)) : WL P ops Q n p w0 (o :: rest) l L := by
  refine WL.op hg hd hn fun a w ha hS => ?_
  have h1 := ha.ev hx
  refine ⟨_, _, _, ?_, St.new (cs := cs) (T := ty) hS, h _ hS.frm.size⟩
  unfold execOp
  simp [ho, h1, Instr.box, newVar, newRow, newObj, Sem.run, hc]
/-! ### Slices -/
def sAddr (off l cap s : Nat) : Nat := if cap = l then off else off + l * s
theorem addr_add (g off k : Nat) : (⟨g, off, none⟩ : Addr).add k = ⟨g, off + k, none⟩ := by
  unfold Addr.add; split
  · rename_i h; subst h; rfl
  · rfl
theorem slice_addr (b off lo cap s : Nat) : (if cap = lo then some (⟨b, off, none⟩ : Addr) else (some (⟨b, off, none⟩ : Addr)).map (·.add (lo * s))) = some ⟨b, sAddr off lo cap s, none⟩ := by
  unfold sAddr; split <;> simp [addr_add]
section
variable {t e s b off len cap lo hi : Nat} {x xl xh : Operand} {k : IntKind} {A B : Int}
/-- x[lo:] of a slice. -/
theorem v_slice_lo (ho : o.op = .slice t x (some xl) none none) (hx : ev l x = some (.slice (some ⟨b, off, none⟩) len cap)) (hl : ev l xl = some (.int k A)) (hu : P.underlying t = some (.slice e)) (hs : (P.info? e).map (·.size) = some s) (hA : A = (lo : Int)) (hle : lo ≤ len) :
    Val P C n l o (.slice (some ⟨b, sAddr off lo cap s, none⟩) (len - lo) (cap - lo)) := fun a w ha _ => by
  have h1 := ha.ev hx; have h2 := ha.ev hl
  subst hA
  have hi : (0 : Int) ≤ lo ∧ (lo : Int) ≤ len := by omega
  unfold execOp
  simp [ho, h1, h2, Instr.sliceAt, run_underlying hu, Instr.slice, Instr.sliceBounds, Instr.sliceBound, asIntOf, hle, run_sizeOf hs]
  simpa using slice_addr b off lo cap s
/-- .. that does not begin at the capacity's end. -/
theorem v_slice_loS (ho : o.op = .slice t x (some xl) none none) (hx : ev l x = some (.slice (some ⟨b, off, none⟩) len cap)) (hl : ev l xl = some (.int k A)) (hu : P.underlying t = some (.slice e)) (hs : (P.info? e).map (·.size) = some s) (hA : A = (lo : Int)) (hle : lo ≤ len) (hlt : lo < cap) :
    Val P C n l o (.slice (some ⟨b, off + lo * s, none⟩) (len - lo) (cap - lo)) := by
  have := v_slice_lo (C := C) (n := n) ho hx hl hu hs hA hle
  rwa [show sAddr off lo cap s = off + lo * s by unfold sAddr; rw [if_neg (by omega)]] at this
/-- x[:hi] of a slice. -/
theorem v_slice_hi {ad : Option Addr} (ho : o.op = .slice t x none (some xh) none) (hx : ev l x = some (.slice ad len cap)) (hh : ev l xh = some (.int k B)) (hu : P.underlying t = some (.slice e)) (hs : (P.info? e).map (·.size) = some s) (hB : B = (hi : Int)) (hle : hi ≤ cap) :
    Val P C n l o (.slice ad hi cap) := fun a w ha _ => by
  have h1 := ha.ev hx; have h2 := ha.ev hh
  subst hB
  have hi' : (0 : Int) ≤ hi ∧ (hi : Int) ≤ cap := by omega
  unfold execOp
  simp [ho, h1, h2, Instr.sliceAt, run_underlying hu, Instr.slice, Instr.sliceBounds, Instr.sliceBound, asIntOf, hle, run_sizeOf hs]
  cases ad <;> simp [Addr.add]
/-- x[lo:hi] of a slice. -/
theorem v_slice_lh {kh : IntKind} (ho : o.op = .slice t x (some xl) (some xh) none) (hx : ev l x = some (.slice (some ⟨b, off, none⟩) len cap)) (hl : ev l xl = some (.int k A)) (hh : ev l xh = some (.int kh B)) (hu : P.underlying t = some (.slice e)) (hs : (P.info? e).map (·.size) = some s)
    (hA : A = (lo : Int)) (hB : B = (hi : Int)) (hle : lo ≤ hi) (hle' : hi ≤ cap) :
    Val P C n l o (.slice (some ⟨b, sAddr off lo cap s, none⟩) (hi - lo) (cap - lo)) := fun a w ha _ => by
  have h1 := ha.ev hx; have h2 := ha.ev hl; have h3 := ha.ev hh
  subst hA hB
  have hi1 : (0 : Int) ≤ hi ∧ (hi : Int) ≤ cap := by omega
  have hi2 : (0 : Int) ≤ lo ∧ (lo : Int) ≤ hi := by omega
  unfold execOp
  simp [ho, h1, h2, h3, Instr.sliceAt, run_underlying hu, Instr.slice, Instr.sliceBounds, Instr.sliceBound, asIntOf, hle, hle', run_sizeOf hs]
  simpa using slice_addr b off lo cap s
/-- A whole array, sliced. -/
theorem v_slice_arr {m : Nat} (ho : o.op = .slice t x none none none) (hx : ev l x = some (.pointer (some ⟨b, off, none⟩))) (hu : P.underlying t = some (.array m e)) (hs : (P.info? e).map (·.size) = some s) :
    Val P C n l o (.slice (some ⟨b, off, none⟩) m m) := fun a w ha _ => by
  have h1 := ha.ev hx
  unfold execOp
  simp [ho, h1, Instr.sliceAt, run_underlying hu, Instr.sureAddr, Instr.sliceBounds, run_sizeOf hs, Addr.add]
/-- &x[i] of a slice. -/
theorem v_indexAddr (ho : o.op = .indexAddr t x xl) (hx : ev l x = some (.slice (some ⟨b, off, none⟩) len cap)) (hl : ev l xl = some (.int k A)) (hu : P.underlying t = some (.slice e)) (hs : (P.info? e).map (·.size) = some s) (hA : A = (lo : Int)) (hlt : lo < len) :
    Val P C n l o (.pointer (some ⟨b, off + lo * s, none⟩)) := fun a w ha _ => by
  have h1 := ha.ev hx; have h2 := ha.ev hl
  subst hA
  have hi : (0 : Int) ≤ lo ∧ (lo : Int) < len := by omega
  unfold execOp
  simp [ho, h1, h2, Instr.indexAt, run_underlying hu, asIntOf, hlt, run_sizeOf hs, addr_add]
/-- &x[i] of an array. -/
theorem v_indexAddrA {m : Nat} (ho : o.op = .indexAddr t x xl) (hx : ev l x = some (.pointer (some ⟨b, off, none⟩))) (hl : ev l xl = some (.int k A)) (hu : P.underlying t = some (.array m e)) (hs : (P.info? e).map (·.size) = some s) (hA : A = (lo : Int)) (hlt : lo < m) :
    Val P C n l o (.pointer (some ⟨b, off + lo * s, none⟩)) := fun a w ha _ => by
  have h1 := ha.ev hx; have h2 := ha.ev hl
  subst hA
  have hi : (0 : Int) ≤ lo ∧ (lo : Int) < m := by omega
  unfold execOp
  simp [ho, h1, h2, Instr.indexAt, run_underlying hu, asIntOf, hlt, run_sizeOf hs, addr_add, Instr.sureAddr]
/-- x[i] of an array's value, an element one cell. -/
theorem v_indexV {m : Nat} {cs : List Value} {v : Value} (ho : o.op = .index t x xl) (hx : ev l x = some (.agg cs.toArray)) (hl : ev l xl = some (.int k A)) (hu : P.underlying t = some (.array m e)) (he : One P e) (hA : A = (lo : Int)) (hlt : lo < m) (hv : cs[lo]? = some v) :
    Val P C n l o v := fun a w ha _ => by
  have h1 := ha.ev hx; have h2 := ha.ev hl
  subst hA
  have hi : (0 : Int) ≤ lo ∧ (lo : Int) < m := by omega
  unfold execOp
  simp [ho, h1, h2, Instr.index, run_underlying hu, asIntOf, hlt, run_sizeOf he.2, part, he.agg, hv]
end
/-! ### len -/
theorem run_builtin {a : Act} {w : World} {bi : Builtin} {xs : List Operand} {ts : Array TypeId} {vs : List Value} (ho : o.op = .call { callee := .builtin bi, args := xs.toArray, argTypes := ts }) (hx : evs l xs = some vs) (ha : Has n a l) :
    ∃ consts, (execOp a.eval o).run P w = (builtin bi ts o.type consts vs.toArray).run P w := by
  have h2 := ha.evs hx
  refine ⟨xs.toArray.map (fun | .const _ => true | _ => false), ?_⟩
  unfold execOp
  simp [ho, resolve, invoke, ← h2]
  rfl
theorem v_len_slice {t e len cap : Nat} {ad : Option Addr} {x : Operand} (ho : o.op = .call { callee := .builtin .len, args := #[x], argTypes := #[t] }) (hx : ev l x = some (.slice ad len cap)) (hu : P.underlying t = some (.slice e)) : Val P C n l o (.int .i64 len) := fun a w ha _ => by
  have hx' : evs l [x] = some [.slice ad len cap] := by simp [evs, hx]
  obtain ⟨cs, h⟩ := run_builtin (P := P) (w := w) (xs := [x]) ho hx' ha
  rw [h]
  simp [builtin, Builtin.len_, run_underlying hu, goInt]
end
end Go.Proofs.YtmhahajadgkolaaGreatDoor
/- More operations: literals, copy, append, strings, tests for equality. -/
namespace Go.Proofs.YtmhahajadgkolaaGreatDoor
open Go.RowKit

section
variable {P : Program} {C : World → Prop} {ops : Array Oper} {Q : Exit → Act → World → Prop} {n : Nat} {p : Nat → Prop} {w0 : World} {o : Oper} {rest : List Oper} {l : Kn} {L : List Ent}

theorem mask_i64' {i : Nat} {x c m : Int} (hi : i ≤ 62) (hc : (2 : Int) ^ i - 1 = c) (hm : (2 : Int) ^ i = m) : bits .and .i64 x c = x % m := by
  subst hc hm
  have hp : (2 : Int) ^ i = ((2 ^ i : Nat) : Int) := by simp
  have hpos : 0 < 2 ^ i := Nat.two_pow_pos i
  have hle : 2 ^ i ≤ 2 ^ 62 := Nat.pow_le_pow_right (by decide) hi
  have hc : ((2 : Int) ^ i - 1) = ((2 ^ i - 1 : Nat) : Int) := by rw [Int.natCast_sub hpos]; simp
  have key : (BitVec.ofInt 64 x &&& BitVec.ofInt 64 ((2 ^ i - 1 : Nat) : Int)).toNat = (x % 18446744073709551616).toNat % 2 ^ i := by
    rw [BitVec.toNat_and, BitVec.toNat_ofInt, BitVec.ofInt_natCast, BitVec.toNat_ofNat, Nat.mod_eq_of_lt (a := 2 ^ i - 1) (by omega), Nat.and_two_pow_sub_one_eq_mod]
    rfl
  rw [hc]
  show IntKind.i64.wrap ((BitVec.ofInt 64 x &&& BitVec.ofInt 64 ((2 ^ i - 1 : Nat) : Int)).toNat : Int) = _
  rw [key]
  have h2 : ((x % 18446744073709551616).toNat : Int) = x % 18446744073709551616 := Int.toNat_of_nonneg (by omega)
  have h3 : (((x % 18446744073709551616).toNat % 2 ^ i : Nat) : Int) = x % ((2 ^ i : Nat) : Int) := by
    rw [Int.natCast_emod, h2]
    refine Int.emod_emod_of_dvd x ?_
    have : (18446744073709551616 : Int) = ((2 ^ 64 : Nat) : Int) := by decide
    rw [this]
    exact Int.natCast_dvd_natCast.2 (Nat.pow_dvd_pow 2 (by omega : i ≤ 64))
  rw [h3, ← hp]
  have h4 := Int.emod_nonneg x (b := (2 : Int) ^ i) (by rw [hp]; omega)
  have h5 := Int.emod_lt_of_pos x (b := (2 : Int) ^ i) (by rw [hp]; omega)
  have h6 : (2 : Int) ^ i ≤ 4611686018427387904 := by rw [hp]; omega
  rw [IntKind.wrap_i64]
  omega
/-! ### Struct and array literals -/
def evp (l : Kn) : List (Nat × Operand) → Option (List (Nat × Value))
  | [] => some []
  | (i, x) :: xs => match ev l x, evp l xs with | some v, some vs => some ((i, v) :: vs) | _, _ => none
theorem Has.evp {a : Act} (h : Has n a l) : ∀ {xs : List (Nat × Operand)} {vs : List (Nat × Value)}, evp l xs = some vs → xs.map (fun (i, x) => (i, a.eval x)) = vs
  | [], vs, hx => by simpa [YtmhahajadgkolaaGreatDoor.evp] using hx
  | (i, x) :: xs, vs, hx => by
    unfold YtmhahajadgkolaaGreatDoor.evp at hx
    split at hx
    · rename_i v vs' h1 h2
      simp only [Option.some.injEq] at hx
      subst hx
      simp only [List.map_cons, h.ev h1, h.evp h2]
    · cases hx
def fillL (place : Nat → Option (Nat × Nat)) (cs : List Value) : List (Nat × Value) → Option (List Value)
  | [] => some cs
  | (i, v) :: r => match place i with
    | none => none
    | some (off, sz) => cond (Nat.beq v.cells.toList.length sz && Nat.ble (off + sz) cs.length) (fillL place (splice cs off v.cells.toList) r) none
theorem fold_splice (off : Nat) : ∀ (vs : List Value) (j : Nat) (cs : List Value), off + j + vs.length ≤ cs.length →
    (vs.zipIdx j).foldl (fun (c : Array Value) (x : Value × Nat) => c.setIfInBounds (off + x.2) x.1) cs.toArray = (splice cs (off + j) vs).toArray
  | [], j, cs, _ => by simp [splice_nil]
  | v :: vs, j, cs, h => by
    simp only [List.length_cons] at h
    simp only [List.zipIdx_cons, List.foldl_cons]
    have e : cs.toArray.setIfInBounds (off + j) v = (cs.set (off + j) v).toArray := by simp
    rw [e, fold_splice off vs (j + 1) (cs.set (off + j) v) (by rw [List.length_set]; omega), ← splice_cons cs (off + j) v vs (by omega)]
    rfl
theorem fill_eq (place : Nat → Option (Nat × Nat)) : ∀ (ps : List (Nat × Value)) (cs out : List Value), fillL place cs ps = some out → Instr.fill place cs.toArray ps = some out.toArray
  | [], cs, out, h => by simp only [fillL, Option.some.injEq] at h; subst h; rfl
  | (i, v) :: r, cs, out, h => by
    unfold fillL at h
    unfold Instr.fill
    cases hp : place i with
    | none => rw [hp] at h; cases h
    | some q =>
      obtain ⟨off, sz⟩ := q
      rw [hp] at h
      simp only at h ⊢
      cases hb : (Nat.beq v.cells.toList.length sz && Nat.ble (off + sz) cs.length) with
      | false => rw [hb] at h; cases h
      | true =>
        rw [hb] at h
        simp only [cond_true] at h
        simp only [Bool.and_eq_true] at hb
        have h1 := Nat.eq_of_beq_eq_true hb.1
        have h2 := Nat.le_of_ble_eq_true hb.2
        have h3 : v.cells.size = sz := by simpa using h1
        rw [if_neg (by simp [h3]; omega)]
        have hf := fold_splice off v.cells.toList 0 cs (by omega)
        have e : v.cells.zipIdx.foldl (fun (c : Array Value) (x : Value × Nat) => c.setIfInBounds (off + x.2) x.1) cs.toArray = (splice cs off v.cells.toList).toArray := by
          rw [← Array.foldl_toList, Array.toList_zipIdx]; simpa using hf
        exact (congrArg (fun c => Instr.fill place c r) e).trans (fill_eq place r _ out h)
/-- Where a struct's fields lie: offset and size, field by field. -/
def Places (P : Program) (t : TypeId) (pl : List (Nat × Nat)) : Prop := ∃ fs, P.underlying t = some (.struct fs) ∧ ∀ w, (fs.mapM (fun f => do pure (f.offset, ← sizeOf f.type) : Field → Sem (Nat × Nat))).run P w = .ok pl.toArray w
theorem v_build {t : TypeId} {parts : List (Nat × Operand)} {vs : List (Nat × Value)} {zs out : List Value} {pl : List (Nat × Nat)} (ho : o.op = .build t parts.toArray) (hx : evp l parts = some vs) (hz : Zero P t zs) (hp : Places P t pl)
    (hf : fillL (fun i => pl[i]?) zs vs = some out) : Val P C n l o (.agg out.toArray) := fun a w ha _ => by
  obtain ⟨z, hz, hzs⟩ := hz
  obtain ⟨fs, hu, hm⟩ := hp
  have h1 := ha.evp hx
  have h2 := fill_eq _ _ _ _ hf
  have hzc : z.cells = zs.toArray := by rw [← hzs]
  have hm' : ∀ w, (fs.mapM (fun f => Prod.mk f.offset <$> sizeOf f.type)).run P w = .ok pl.toArray w := fun w => by
    have := hm w
    simpa using this
  unfold execOp
  simp [ho, Instr.build, run_zeroValue hz, run_underlying hu, hm', hzc, h1, h2]
theorem v_buildA {t e m s : Nat} {parts : List (Nat × Operand)} {vs : List (Nat × Value)} {zs out : List Value} (ho : o.op = .build t parts.toArray) (hx : evp l parts = some vs) (hz : Zero P t zs) (hu : P.underlying t = some (.array m e)) (hs : (P.info? e).map (·.size) = some s)
    (hf : fillL (fun i => some (i * s, s)) zs vs = some out) : Val P C n l o (.agg out.toArray) := fun a w ha _ => by
  obtain ⟨z, hz, hzs⟩ := hz
  have h1 := ha.evp hx
  have h2 := fill_eq _ _ _ _ hf
  have hzc : z.cells = zs.toArray := by rw [← hzs]
  unfold execOp
  simp [ho, Instr.build, run_zeroValue hz, run_underlying hu, run_sizeOf hs, hzc, h1, h2]

/-! ### Equality -/
/-- What a cell holds that is compared. -/
inductive CK | b | i (k : IntKind) | s
def CK.fits : CK → Value → Bool
  | .b, .bool _ => true
  | .i k, .int k' _ => decide (k' = k)
  | .s, .string _ => true
  | _, _ => false
def fitsAll : List CK → List Value → Bool
  | [], [] => true
  | c :: cs, v :: vs => c.fits v && fitsAll cs vs
  | _, _ => false
theorem fitsAll_length : ∀ {ks : List CK} {vs : List Value}, fitsAll ks vs = true → vs.length = ks.length
  | [], [], _ => rfl
  | [], _ :: _, h => by simp [fitsAll] at h
  | _ :: _, [], h => by simp [fitsAll] at h
  | k :: ks, v :: vs, h => by
    simp only [fitsAll, Bool.and_eq_true] at h
    simp [fitsAll_length h.2]
theorem fitsAll_take : ∀ {k1 k2 : List CK} {vs : List Value}, fitsAll (k1 ++ k2) vs = true → fitsAll k1 (vs.take k1.length) = true ∧ fitsAll k2 (vs.drop k1.length) = true
  | [], k2, vs, h => by simpa [fitsAll] using h
  | k :: k1, k2, [], h => by simp [fitsAll] at h
  | k :: k1, k2, v :: vs, h => by
    simp only [List.cons_append, fitsAll, Bool.and_eq_true] at h
    have := fitsAll_take h.2
    simp [fitsAll, h.1, this]
/-- The value of a type's cells. -/
def mkV (row : Bool) (vs : List Value) : Value := match row, vs with | false, [v] => v | _, vs => .agg vs.toArray
structure EqK (P : Program) (d : Nat) (t : TypeId) (row : Bool) (ks : List CK) : Prop where
  size : (P.info? t).map (·.size) = some ks.length
  agg : ∃ dd, P.underlying t = some dd ∧ dd.isRow = row
  one : row = false → ks.length = 1
  eq : ∀ (w : World) (xs ys : List Value), fitsAll ks xs = true → fitsAll ks ys = true → ∃ r : Bool, (Op.equalIn d t (mkV row xs) (mkV row ys)).run P w = .ok r w ∧ (r = true ↔ xs = ys)
theorem EqK.int {d t : Nat} {k : IntKind} (hu : P.underlying t = some (.int k)) (hs : (P.info? t).map (·.size) = some 1) : EqK P (d + 1) t false [.i k] := by
  refine ⟨hs, ⟨_, hu, rfl⟩, fun _ => rfl, ?_⟩
  intro w xs ys hx hy
  have one : ∀ zs : List Value, fitsAll [.i k] zs = true → ∃ a, zs = [.int k a] := fun zs h => by
    match zs, h with
    | [.int k' a], h =>
      simp only [fitsAll, CK.fits, Bool.and_true, decide_eq_true_eq] at h
      exact ⟨a, by rw [h]⟩
    | [], h => simp [fitsAll] at h
    | v :: v' :: vs, h => simp [fitsAll] at h
    | [.bool _], h => simp [fitsAll, CK.fits] at h
    | [.float _ _], h => simp [fitsAll, CK.fits] at h
    | [.complex _ _ _], h => simp [fitsAll, CK.fits] at h
    | [.string _], h => simp [fitsAll, CK.fits] at h
    | [.pointer _], h => simp [fitsAll, CK.fits] at h
    | [.slice _ _ _], h => simp [fitsAll, CK.fits] at h
    | [.map _], h => simp [fitsAll, CK.fits] at h
    | [.chan _], h => simp [fitsAll, CK.fits] at h
    | [.func _ _ _], h => simp [fitsAll, CK.fits] at h
    | [.nilFunc], h => simp [fitsAll, CK.fits] at h
    | [.iface _ _], h => simp [fitsAll, CK.fits] at h
    | [.nilIface], h => simp [fitsAll, CK.fits] at h
    | [.agg _], h => simp [fitsAll, CK.fits] at h
    | [.tuple _], h => simp [fitsAll, CK.fits] at h
  obtain ⟨a, rfl⟩ := one xs hx
  obtain ⟨b, rfl⟩ := one ys hy
  exact ⟨a == b, run_equalIn_int w d t k k a b hu, by simp⟩
theorem run_part_k {d t : Nat} {row : Bool} {ks : List CK} (h : EqK P d t row ks) (w : World) (all : List Value) (off : Nat) (hf : fitsAll ks ((all.drop off).take ks.length) = true) :
    (part t all.toArray off).run P w = .ok (mkV row ((all.drop off).take ks.length)) w := by
  obtain ⟨dd, hu, hr⟩ := h.agg
  have hl := fitsAll_length hf
  cases row with
  | true =>
    have ha := (Many.mk hu hr h.size).agg w
    simp [part, ha, run_sizeOf h.size, mkV, List.extract_eq_take_drop, Nat.add_sub_cancel_left]
  | false =>
    have h1 := h.one rfl
    rw [h1] at hl hf ⊢
    have ha := (One.mk hu hr (by rw [h.size, h1])).agg w
    obtain ⟨v, hv⟩ : ∃ v, (all.drop off).take 1 = [v] := by
      match hq : (all.drop off).take 1, hl with
      | [v], _ => exact ⟨v, rfl⟩
    have hg : all[off]? = some v := by
      have : ((all.drop off).take 1)[0]? = some v := by rw [hv]; rfl
      rw [List.getElem?_take_of_lt (by omega), List.getElem?_drop] at this
      simpa using this
    rw [hv]
    simp [part, ha, hg, mkV]
inductive FieldsK (P : Program) (d : Nat) : List Field → Nat → List CK → Prop
  | nil {off : Nat} : FieldsK P d [] off []
  | cons {f : Field} {fs : List Field} {off : Nat} {row : Bool} {k1 k2 : List CK} (hn : (f.name == "_") = false) (ho : f.offset = off) (h : EqK P d f.type row k1) (r : FieldsK P d fs (off + k1.length) k2) : FieldsK P d (f :: fs) off (k1 ++ k2)
theorem eqFields_k {d : Nat} {fs : List Field} {off : Nat} {ks : List CK} (h : FieldsK P d fs off ks) : ∀ (w : World) (xs ys : List Value), fitsAll ks (xs.drop off) = true → fitsAll ks (ys.drop off) = true →
    ∃ r : Bool, (Op.eqFields d xs.toArray ys.toArray fs).run P w = .ok r w ∧ (r = true ↔ xs.drop off = ys.drop off) := by
  induction h with
  | nil => 
    intro w xs ys hx hy
    have h1 := fitsAll_length hx; have h2 := fitsAll_length hy
    simp only [List.length_nil, List.length_eq_zero_iff] at h1 h2
    exact ⟨true, by simp [Op.eqFields], by simp [h1, h2]⟩
  | @cons f fs off row k1 k2 hn ho hE r ih =>
    intro w xs ys hx hy
    obtain ⟨hx1, hx2⟩ := fitsAll_take hx
    obtain ⟨hy1, hy2⟩ := fitsAll_take hy
    have p1 := run_part_k hE w xs off hx1
    have p2 := run_part_k hE w ys off hy1
    obtain ⟨r1, e, he⟩ := hE.eq w _ _ hx1 hy1
    have hn' : f.name ≠ "_" := by simpa using hn
    rw [List.drop_drop] at hx2 hy2
    obtain ⟨r2, i, hi⟩ := ih w xs ys hx2 hy2
    simp only [Op.eqFields, hn', ne_eq, not_false_eq_true, if_true, Sem.run_bind, ho, p1, p2, e, Result.andThen_ok]
    have hsp : ∀ zs : List Value, zs.drop off = (zs.drop off).take k1.length ++ zs.drop (off + k1.length) := fun zs => by rw [← List.drop_drop]; exact (List.take_append_drop _ _).symm
    have hlx := fitsAll_length hx1
    have hly := fitsAll_length hy1
    cases r1 with
    | true =>
      have hq := he.1 rfl
      refine ⟨r2, by simpa using i, ?_⟩
      rw [hi, hsp xs, hsp ys, hq]
      exact ⟨fun h => by rw [h], fun h => List.append_cancel_left h⟩
    | false =>
      refine ⟨false, by simp, ?_⟩
      constructor
      · intro h; simp at h
      · intro h
        rw [hsp xs, hsp ys] at h
        have := he.2 (List.append_inj_left h (by rw [hlx, hly]))
        simp at this
theorem EqK.struct {d t : Nat} {fs : Array Field} {ks : List CK} (hu : P.underlying t = some (.struct fs)) (hp : P.stoodInHeld t = false) (hs : (P.info? t).map (·.size) = some ks.length) (h : FieldsK P d fs.toList 0 ks) : EqK P (d + 1) t true ks := by
  refine ⟨hs, ⟨_, hu, rfl⟩, fun h => by simp at h, ?_⟩
  intro w xs ys hx hy
  have hfs : P.fieldsOf t = fs := by simp [Program.fieldsOf, hu]
  obtain ⟨r, h1, h2⟩ := eqFields_k h w xs ys (by simpa using hx) (by simpa using hy)
  refine ⟨r, ?_, by simpa using h2⟩
  show (Op.equalIn (d + 1) t (.agg xs.toArray) (.agg ys.toArray)).run P w = _
  rw [run_equalIn_struct w d t xs.toArray ys.toArray (by rw [hfs]; exact hu) hp, hfs]
  exact h1
theorem eqItems_k {d e : Nat} {row : Bool} {k1 : List CK} (hE : EqK P d e row k1) (w : World) (xs ys : List Value) : ∀ (m j : Nat), fitsAll ((List.replicate m k1).flatten) (xs.drop (j * k1.length)) = true → fitsAll ((List.replicate m k1).flatten) (ys.drop (j * k1.length)) = true →
    ∃ r : Bool, (Op.eqItems d e k1.length xs.toArray ys.toArray (List.range' j m)).run P w = .ok r w ∧ (r = true ↔ xs.drop (j * k1.length) = ys.drop (j * k1.length))
  | 0, j, hx, hy => by
    have h1 := fitsAll_length hx; have h2 := fitsAll_length hy
    simp only [List.replicate_zero, List.flatten_nil, List.length_nil, List.length_eq_zero_iff] at h1 h2
    exact ⟨true, by simp [Op.eqItems], by simp [h1, h2]⟩
  | m + 1, j, hx, hy => by
    rw [List.replicate_succ, List.flatten_cons] at hx hy
    obtain ⟨hx1, hx2⟩ := fitsAll_take hx
    obtain ⟨hy1, hy2⟩ := fitsAll_take hy
    have p1 := run_part_k hE w xs (j * k1.length) hx1
    have p2 := run_part_k hE w ys (j * k1.length) hy1
    obtain ⟨r1, e1, he⟩ := hE.eq w _ _ hx1 hy1
    have hj : j * k1.length + k1.length = (j + 1) * k1.length := by rw [Nat.add_mul, Nat.one_mul]
    rw [List.drop_drop, hj] at hx2 hy2
    obtain ⟨r2, i, hi⟩ := eqItems_k hE w xs ys m (j + 1) hx2 hy2
    simp only [List.range'_succ, Op.eqItems, Sem.run_bind, p1, p2, e1, Result.andThen_ok]
    have hsp : ∀ zs : List Value, zs.drop (j * k1.length) = (zs.drop (j * k1.length)).take k1.length ++ zs.drop ((j + 1) * k1.length) := fun zs => by rw [← hj, ← List.drop_drop]; exact (List.take_append_drop _ _).symm
    have hlx := fitsAll_length hx1
    have hly := fitsAll_length hy1
    cases r1 with
    | true =>
      have hq := he.1 rfl
      refine ⟨r2, by simpa using i, ?_⟩
      rw [hi, hsp xs, hsp ys, hq]
      exact ⟨fun h => by rw [h], fun h => List.append_cancel_left h⟩
    | false =>
      refine ⟨false, by simp, ?_⟩
      constructor
      · intro h; simp at h
      · intro h
        rw [hsp xs, hsp ys] at h
        have := he.2 (List.append_inj_left h (by rw [hlx, hly]))
        simp at this
theorem EqK.array {d t e m : Nat} {row : Bool} {k1 ks : List CK} (hu : P.underlying t = some (.array m e)) (hs : (P.info? t).map (·.size) = some ks.length) (hE : EqK P d e row k1) (hks : (List.replicate m k1).flatten = ks) : EqK P (d + 1) t true ks := by
  subst hks
  refine ⟨hs, ⟨_, hu, rfl⟩, fun h => by simp at h, ?_⟩
  intro w xs ys hx hy
  obtain ⟨r, h1, h2⟩ := eqItems_k hE w xs ys m 0 (by simpa using hx) (by simpa using hy)
  refine ⟨r, ?_, by simpa using h2⟩
  have hi := hE.size
  cases hq : P.info? e with
  | none => simp [hq] at hi
  | some i =>
    have hc : P.cellsOf e = k1.length := by simp [Program.cellsOf, hi]
    show (Op.equalIn (d + 1) t (.agg xs.toArray) (.agg ys.toArray)).run P w = _
    rw [run_equalIn_array w d xs.toArray ys.toArray hu hq, hc, List.range_eq_range']
    exact h1
section
variable {t yt : TypeId} {x y : Operand} {xs ys : List Value} {ks : List CK}
theorem run_eql_agg {a : Act} {w : World} (ho : o.op = .binOp .eql t x y yt) (h1 : a.eval x = .agg xs.toArray) (h2 : a.eval y = .agg ys.toArray) (hE : EqK P 10000 t true ks) (hg : P.eqGuardType P.depth t = false)
    (fx : fitsAll ks xs = true) (fy : fitsAll ks ys = true) : ∃ r : Bool, (execOp a.eval o).run P w = .ok (.value (.bool r)) w ∧ (r = true ↔ xs = ys) := by
  obtain ⟨r, h, hr⟩ := hE.eq w xs ys fx fy
  have h' : (Op.equalIn 10000 t (.agg xs.toArray) (.agg ys.toArray)).run P w = .ok r w := h
  refine ⟨r, ?_, hr⟩
  unfold execOp
  simp only [ho, h1, h2, Sem.run_bind, run_eqGuard_agg w _ t _ _ _ _ hg, Result.andThen_ok, run_eql_struct, h']
  rfl
theorem run_neq_agg {a : Act} {w : World} (ho : o.op = .binOp .neq t x y yt) (h1 : a.eval x = .agg xs.toArray) (h2 : a.eval y = .agg ys.toArray) (hE : EqK P 10000 t true ks) (hg : P.eqGuardType P.depth t = false)
    (fx : fitsAll ks xs = true) (fy : fitsAll ks ys = true) : ∃ r : Bool, (execOp a.eval o).run P w = .ok (.value (.bool (!r))) w ∧ (r = true ↔ xs = ys) := by
  obtain ⟨r, h, hr⟩ := hE.eq w xs ys fx fy
  have h' : (Op.equalIn 10000 t (.agg xs.toArray) (.agg ys.toArray)).run P w = .ok r w := h
  refine ⟨r, ?_, hr⟩
  unfold execOp
  simp only [ho, h1, h2, Sem.run_bind, run_eqGuard_agg w _ t _ _ _ _ hg, Result.andThen_ok, run_neq_struct, h']
  rfl
theorem v_eql_aggT (ho : o.op = .binOp .eql t x y yt) (hx : ev l x = some (.agg xs.toArray)) (hy : ev l y = some (.agg ys.toArray)) (hE : EqK P 10000 t true ks) (hg : P.eqGuardType P.depth t = false)
    (fx : fitsAll ks xs = true) (fy : fitsAll ks ys = true) (e : xs = ys) : Val P C n l o (.bool true) := fun a w ha _ => by
  obtain ⟨r, h, hr⟩ := run_eql_agg (w := w) ho (ha.ev hx) (ha.ev hy) hE hg fx fy
  rw [hr.2 e] at h; exact h
theorem v_eql_aggF (ho : o.op = .binOp .eql t x y yt) (hx : ev l x = some (.agg xs.toArray)) (hy : ev l y = some (.agg ys.toArray)) (hE : EqK P 10000 t true ks) (hg : P.eqGuardType P.depth t = false)
    (fx : fitsAll ks xs = true) (fy : fitsAll ks ys = true) (e : ¬ xs = ys) : Val P C n l o (.bool false) := fun a w ha _ => by
  obtain ⟨r, h, hr⟩ := run_eql_agg (w := w) ho (ha.ev hx) (ha.ev hy) hE hg fx fy
  cases r
  · exact h
  · exact absurd (hr.1 rfl) e
theorem v_neq_aggF (ho : o.op = .binOp .neq t x y yt) (hx : ev l x = some (.agg xs.toArray)) (hy : ev l y = some (.agg ys.toArray)) (hE : EqK P 10000 t true ks) (hg : P.eqGuardType P.depth t = false)
    (fx : fitsAll ks xs = true) (fy : fitsAll ks ys = true) (e : xs = ys) : Val P C n l o (.bool false) := fun a w ha _ => by
  obtain ⟨r, h, hr⟩ := run_neq_agg (w := w) ho (ha.ev hx) (ha.ev hy) hE hg fx fy
  rw [hr.2 e] at h; exact h
theorem v_neq_aggT (ho : o.op = .binOp .neq t x y yt) (hx : ev l x = some (.agg xs.toArray)) (hy : ev l y = some (.agg ys.toArray)) (hE : EqK P 10000 t true ks) (hg : P.eqGuardType P.depth t = false)
    (fx : fitsAll ks xs = true) (fy : fitsAll ks ys = true) (e : ¬ xs = ys) : Val P C n l o (.bool true) := fun a w ha _ => by
  obtain ⟨r, h, hr⟩ := run_neq_agg (w := w) ho (ha.ev hx) (ha.ev hy) hE hg fx fy
  cases r
  · exact h
  · exact absurd (hr.1 rfl) e
end
theorem run_eq2 {op : BinOp} {t yt : TypeId} {x y : Operand} {u v : Value} {b : Bool} {a : Act} {w : World} (ho : o.op = .binOp op t x y yt) (h1 : a.eval x = u) (h2 : a.eval y = v) (hg : (eqGuard op t x y u v).run P w = .ok () w) (hb : (binOp op t u v).run P w = .ok (.bool b) w) :
    (execOp a.eval o).run P w = .ok (.value (.bool b)) w := by
  unfold execOp
  simp only [ho, h1, h2, Sem.run_bind, hg, Result.andThen_ok, hb]
  rfl
end
end Go.Proofs.YtmhahajadgkolaaGreatDoor
/- The engine: copy, append, literals of slices, strings as bytes. -/
namespace Go.Proofs.YtmhahajadgkolaaGreatDoor
open Go.RowKit

section
variable {P : Program} {C : World → Prop} {ops : Array Oper} {Q : Exit → Act → World → Prop} {n : Nat} {p : Nat → Prop} {w0 : World} {o : Oper} {rest : List Oper} {l : Kn} {L : List Ent}

instance {E L : List Ent} {g : Nat} {cs : List Value} [h : At L g cs] : At (E ++ L) g cs := ⟨List.mem_append_right _ h.mem⟩
instance {E L : List Ent} {g : Nat} {ob : Obj} [h : AtO L g ob] : AtO (E ++ L) g ob := ⟨List.mem_append_right _ h.mem⟩
instance {E L L' : List Ent} {g : Nat} {e : Ent} [h : Put L g e L'] : Put (E ++ L) g e (E ++ L') :=
  ⟨fun he => let ⟨A, B, e', h1, h2, h3⟩ := h.ok he; ⟨E ++ A, B, e', by rw [h1, List.append_assoc], by rw [h2, List.append_assoc], h3⟩⟩

theorem run_loadRange {w : World} {g off m : Nat} {cs : List Value} (hm : cs.length = m) (hc : w.rangeAt g off cs) : (loadCells ⟨g, off, none⟩ m).run P w = .ok cs.toArray w := by
  subst hm
  exact run_loadCells_list (P := P) w ⟨g, off, none⟩ cs (fun j v hv => by rw [addr_add]; exact hc j v hv)

/-! ### copy -/
theorem WL.copyL {t ts e d g off dl dc b so sl sc : Nat} {x y : Operand} {cs new : List Value} {L' : List Ent} (ho : o.op = .call { callee := .builtin .copy, args := #[x, y], argTypes := #[t, ts] })
    (hx : ev l x = some (.slice (some ⟨g, off, none⟩) dl dc)) (hy : ev l y = some (.slice (some ⟨b, so, none⟩) sl sc)) (hu : P.underlying t = some (.slice e)) (hs : (P.info? e).map (·.size) = some 1)
    (hlen : new.length = min sl dl) (hc : ∀ w, St p w0 w L → w.rangeAt b so new) (hall : new.all one = true) [At L g cs] (hle : off + new.length ≤ cs.length) [Put L g (.row g (splice cs off new)) L'] (hg : On ops o l) (hd : o.dst = some d) (hn : Nat.blt d n = true)
    (h : WL P ops Q n p w0 rest ((d, .int .i64 new.length) :: l) L') : WL P ops Q n p w0 (o :: rest) l L := by
  refine WL.op hg hd hn fun a w ha hS => ?_
  have hxy : evs l [x, y] = some [.slice (some ⟨g, off, none⟩) dl dc, .slice (some ⟨b, so, none⟩) sl sc] := by simp [evs, hx, hy]
  obtain ⟨cc, hr⟩ := run_builtin (P := P) (w := w) (xs := [x, y]) ho hxy ha
  obtain ⟨w', hst, hR', hF⟩ := run_storeCells_row (P := P) new 0 off cs w (hS.row (g := g)) (by omega) hall
  refine ⟨_, w', L', ?_, hS.put (g := g) (e := .row g (splice cs off new)) rfl hF (show Row _ _ _ by simpa using hR'), h⟩
  rw [hr]
  have hl := run_loadRange (P := P) hlen (hc w hS)
  simp [builtin, Builtin.copy_, run_underlying hu, Builtin.lenOf, run_sizeOf hs, Builtin.firstCells, hl, hst, goInt, hlen]
def bcell (b : UInt8) : Value := .int .u8 b.toNat
/-! ### append -/
/-- A slice of the call's own, from its block's beginning: k elements of s cells each, xs in all; nil: none. -/
def Vec (s : Nat) (ad : Option Addr) (k c : Nat) (xs : List Value) (E : List Ent) : Prop :=
  (ad = none ∧ k = 0 ∧ c = 0 ∧ xs = [] ∧ E = []) ∨ (∃ g cs, ad = some ⟨g, 0, none⟩ ∧ E = [.row g cs] ∧ cs.take (k * s) = xs ∧ cs.length = c * s ∧ k ≤ c)
theorem Vec.nil (s : Nat) : Vec s none 0 0 [] [] := .inl ⟨rfl, rfl, rfl, rfl, rfl⟩
theorem Vec.row {s g k c : Nat} {cs xs : List Value} (hx : cs.take (k * s) = xs) (hl : cs.length = c * s) (hk : k ≤ c) : Vec s (some ⟨g, 0, none⟩) k c xs [.row g cs] := .inr ⟨g, cs, rfl, rfl, hx, hl, hk⟩
theorem Vec.len {s k c : Nat} {ad : Option Addr} {xs : List Value} {E : List Ent} (h : Vec s ad k c xs E) : xs.length = k * s ∧ k ≤ c := by
  rcases h with ⟨_, rfl, rfl, rfl, _⟩ | ⟨g, cs, _, _, rfl, hl, hk⟩
  · simp
  · refine ⟨?_, hk⟩
    rw [List.length_take, hl]
    have := Nat.mul_le_mul_right s hk
    omega
theorem growBy_le (m : Nat) (c : Nat) : Builtin.growBy m 4 c ≤ 3 * c + 1200 := by
  have h0 : ∀ c, Builtin.growBy m 0 c = c := fun c => rfl
  have h1 : ∀ c, Builtin.growBy m 1 c ≤ max c (c + (c + 768) / 4) := fun c => by
    rw [Builtin.growBy, h0]; split <;> omega
  have h2 : ∀ c, Builtin.growBy m 2 c ≤ max c (Builtin.growBy m 1 (c + (c + 768) / 4)) := fun c => by
    rw [Builtin.growBy]; split <;> omega
  have h3 : ∀ c, Builtin.growBy m 3 c ≤ max c (Builtin.growBy m 2 (c + (c + 768) / 4)) := fun c => by
    rw [Builtin.growBy]; split <;> omega
  have h4 : ∀ c, Builtin.growBy m 4 c ≤ max c (Builtin.growBy m 3 (c + (c + 768) / 4)) := fun c => by
    rw [Builtin.growBy]; split <;> omega
  have a4 := h4 c
  have a3 := h3 (c + (c + 768) / 4)
  have a2 := h2 (c + (c + 768) / 4 + (c + (c + 768) / 4 + 768) / 4)
  have a1 := h1 (c + (c + 768) / 4 + (c + (c + 768) / 4 + 768) / 4 + (c + (c + 768) / 4 + (c + (c + 768) / 4 + 768) / 4 + 768) / 4)
  omega
theorem nextslicecap_le (m c : Nat) (h : c < m) : Builtin.nextslicecap m c ≤ 3 * m + 1200 := by
  unfold Builtin.nextslicecap
  have := growBy_le m c
  split
  · omega
  · split <;> omega
theorem zeroCells_length (z : Array Value) (k : Nat) : (Builtin.zeroCells z k).toList.length = k * z.size := by simp [Builtin.zeroCells]

theorem append_run {t tx e s by_ k c m : Nat} {ad : Option Addr} {xs new zs : List Value} {E L0 : List Ent} {w : World} {y : Value} {ty : TypeId} {dx : TypeDesc}
    (hu : P.underlying t = some (.slice e)) (hux : P.underlying tx = some dx) (hxi : ∀ k, dx ≠ .int k) (hs : (P.info? e).map (·.size) = some s) (hb : (P.info? e).map (·.bytes) = some by_) (hz : Zero P e zs) (hzl : zs.length = s)
    (hby : 0 < by_) (hV : Vec s ad k c xs E) (hS : St p w0 w (E ++ L0)) (hlen : (Builtin.lenOf y).run P w = .ok m w) (hfc : ∀ w', St p w0 w' (E ++ L0) → (Builtin.firstCells s m y).run P w' = .ok new.toArray w') (hnl : new.length = m * s) (hall : new.all one = true)
    (hbig : (3 * (k + m) + 1200) * by_ ≤ 281474976710656) :
    ∃ ad' c' E' w', (Builtin.append_ #[t, tx] ty #[.slice ad k c, y]).run P w = .ok (.slice ad' (k + m) c') w' ∧ Vec s ad' (k + m) c' (xs ++ new) E' ∧ St p w0 w' (E' ++ L0) ∧ (k + m ≤ c → ad' = ad ∧ c' = c) := by
  have hq : ∃ i, P.info? e = some i ∧ i.bytes = by_ := by
    cases hq : P.info? e with
    | none => simp [hq] at hb
    | some i => exact ⟨i, rfl, by simpa [hq] using hb⟩
  obtain ⟨ti, hi, hib⟩ := hq
  have hzi : (match dx with | .int _ => true | _ => false) = false := by
    cases dx <;> first | rfl | (exact absurd rfl (hxi _))
  have hask : ∀ (k : Nat) (w : World), (askRoom k).run P w = .ok () w := fun k w => by
    unfold askRoom
    by_cases h : k > roomBytes
    · rw [if_pos h]; rfl
    · rw [if_neg h]; rfl
  by_cases hroom : k + m ≤ c
  · rcases hV with ⟨rfl, rfl, rfl, rfl, rfl⟩ | ⟨g, cs, rfl, rfl, rfl, hcl, hk⟩
    · obtain rfl : m = 0 := by omega
      have hn0 : new = [] := List.length_eq_zero_iff.1 (by omega)
      subst hn0
      refine ⟨none, 0, [], w, ?_, .inl ⟨rfl, rfl, rfl, rfl, rfl⟩, hS, fun _ => ⟨rfl, rfl⟩⟩
      simp [Builtin.append_, run_underlying hu, run_underlying hux, run_sizeOf hs, hlen, hfc w hS]
    · replace hS : St p w0 w (.row g cs :: L0) := hS
      have hmul : (k + m) * s ≤ c * s := Nat.mul_le_mul_right s hroom
      rw [Nat.add_mul] at hmul
      obtain ⟨w', hst, hR', hF⟩ := run_storeCells_row (P := P) new 0 (k * s) cs w (hS.row (g := g) (cs := cs)) (by omega) hall
      have hsp : (splice cs (k * s) new).take ((k + m) * s) = cs.take (k * s) ++ new := by
        rw [splice_eq _ _ _ (by omega), Nat.add_mul, List.take_append_of_le_length (by simp; omega)]
        rw [List.take_of_length_le (by simp; omega)]
      refine ⟨some ⟨g, 0, none⟩, c, [.row g (splice cs (k * s) new)], w', ?_, Vec.row hsp (by rw [splice_length _ _ _ (by omega), hcl]) hroom,
        hS.put (L' := .row g (splice cs (k * s) new) :: L0) (g := g) (e := .row g (splice cs (k * s) new)) rfl hF (show Row _ _ _ by simpa using hR'), fun _ => ⟨rfl, rfl⟩⟩
      simp [Builtin.append_, run_underlying hu, run_underlying hux, run_sizeOf hs, hlen, hfc w hS, hroom, addr_add, hst]
  · have hle := nextslicecap_le (k + m) c (by omega)
    have hmul : Builtin.nextslicecap (k + m) c * by_ ≤ (3 * (k + m) + 1200) * by_ := Nat.mul_le_mul_right by_ hle
    have hcap : ¬ (Builtin.nextslicecap (k + m) c * by_ > 2 ^ 48) := by omega
    have hvl := hV.len
    have hold : ∀ w', St p w0 w' (E ++ L0) → (Builtin.firstCells s k (.slice ad k c)).run P w' = .ok xs.toArray w' := fun w' hS' => by
      rcases hV with ⟨rfl, rfl, rfl, rfl, rfl⟩ | ⟨g, cs, rfl, rfl, rfl, hcl, hk⟩
      · simp [Builtin.firstCells]
      · replace hS' : St p w0 w' (.row g cs :: L0) := hS'
        refine run_loadRange (P := P) hvl.1 ?_
        intro i v hv
        rw [Nat.zero_add]
        refine hS'.cell (g := g) (cs := cs) ?_
        rw [List.getElem?_take] at hv
        split at hv
        · exact hv
        · cases hv
    obtain ⟨z, hz, hzs⟩ := hz
    have hzc : z.cells = zs.toArray := by rw [← hzs]
    have hd := hS.drew
    let nc := (Question.appendCap (k + m) c e).cut (w.tape w.drawn (.appendCap (k + m) c e))
    have hnc : k + m ≤ nc := by show k + m ≤ (k + m) + _; omega
    let rs := (Builtin.zeroCells zs.toArray (nc - (k + m))).toList
    have hrl : rs.length = (nc - (k + m)) * s := by rw [zeroCells_length]; simp [hzl]
    have hnew : St p w0 (w.drew.alloc (.cells (xs ++ new ++ rs).toArray e)) (.row w.drew.heap.size (xs ++ new ++ rs) :: L0) := by
      have : St p w0 w.drew L0 := by
        refine hd.sub ?_
        exact List.sublist_append_right E L0
      exact St.new this
    refine ⟨some ⟨w.drew.heap.size, 0, none⟩, nc, [.row w.drew.heap.size (xs ++ new ++ rs)], _, ?_, Vec.row ?_ ?_ hnc, hnew, fun h => absurd h hroom⟩
    · have hcut : (choose (.appendCap (k + m) c e)).run P w = .ok nc w.drew := rfl
      have hi64 : ¬ ((k : Int) + (m : Int) > IntKind.i64.max ∧ (false = true ∨ by_ = 0)) := fun h => by
        rcases h.2 with h | h
        · cases h
        · omega
      simp only [Builtin.append_, List.getElem?_toArray, List.getElem?_cons_zero, List.getElem?_cons_succ, Sem.run_bind, run_underlying hu, run_underlying hux, Result.andThen_ok, run_sizeOf hs, Sem.run_pure]
      simp only [Bool.false_eq_true, if_false, hlen, Result.andThen_ok, hroom, typeInfo, program, Sem.run, hi, Sem.run_bind, false_or]
      have hby0 : ¬ (by_ = 0) := by omega
      simp only [hby0, and_false, if_false, Result.andThen_ok, Sem.run_pure, hcap, hcut, hask, hold _ hd, hfc _ hd, run_zeroValue hz, hzc, Bool.not_false, if_true, Sem.run_bind, newRow, newObj, Sem.run, hi, hib]
      have ee : xs.toArray ++ new.toArray ++ Builtin.zeroCells zs.toArray (nc - (k + m)) = (xs ++ new ++ rs).toArray := by simp [rs]
      rw [ee]
      rfl
    · rw [Nat.add_mul, List.append_assoc, ← List.append_assoc, List.take_append_of_le_length (by simp; omega), List.take_of_length_le (by simp; omega)]
    · simp only [List.length_append, hvl.1, hnl, hrl]
      rw [← Nat.add_mul, ← Nat.add_mul]
      congr 1
      omega
section
variable {t tx e s by_ k c d m : Nat} {ad : Option Addr} {xs new zs : List Value} {E L0 : List Ent} {x y : Operand} {dx : TypeDesc}
/-- append(x, y...): y a slice whose cells are known. -/
theorem WL.appendL {sa : Option Addr} {mc : Nat} (ho : o.op = .call { callee := .builtin .append, args := #[x, y], argTypes := #[t, tx] }) (hx : ev l x = some (.slice ad k c)) (hy : ev l y = some (.slice sa m mc))
    (hu : P.underlying t = some (.slice e)) {e' : TypeId} (hux : P.underlying tx = some (.slice e')) (hs : (P.info? e).map (·.size) = some s) (hb : (P.info? e).map (·.bytes) = some by_) (hz : Zero P e zs) (hzl : zs.length = s) (hby : Nat.blt 0 by_ = true)
    (hV : Vec s ad k c xs E) (hc : 0 < m → ∃ b so, sa = some ⟨b, so, none⟩ ∧ ∀ w, St p w0 w (E ++ L0) → w.rangeAt b so new) (hnl : new.length = m * s) (hall : new.all one = true) (hbig : (3 * (k + m) + 1200) * by_ ≤ 281474976710656)
    (hg : On ops o l) (hd : o.dst = some d) (hn : Nat.blt d n = true)
    (h : ∀ ad' c' E', Vec s ad' (k + m) c' (xs ++ new) E' → (k + m ≤ c → ad' = ad ∧ c' = c) → WL P ops Q n p w0 rest ((d, .slice ad' (k + m) c') :: l) (E' ++ L0)) : WL P ops Q n p w0 (o :: rest) l (E ++ L0) := by
  refine WL.op hg hd hn fun a w ha hS => ?_
  have hxy : evs l [x, y] = some [.slice ad k c, .slice sa m mc] := by simp [evs, hx, hy]
  obtain ⟨cc, hr⟩ := run_builtin (P := P) (w := w) (xs := [x, y]) ho hxy ha
  have hfc : ∀ w', St p w0 w' (E ++ L0) → (Builtin.firstCells s m (.slice sa m mc)).run P w' = .ok new.toArray w' := fun w' hS' => by
    by_cases hm : 0 < m
    · obtain ⟨b, so, rfl, hcs⟩ := hc hm
      exact run_loadRange (P := P) hnl (hcs w' hS')
    · obtain rfl : m = 0 := by omega
      have hn0 : new = [] := List.length_eq_zero_iff.1 (by omega)
      subst hn0
      cases sa with
      | none => rfl
      | some q => simp [Builtin.firstCells, loadCells, loadCellsFrom]
  obtain ⟨ad', c', E', w', h1, h2, h3, h4⟩ := append_run (P := P) (ty := o.type) hu hux (fun _ => by simp) hs hb hz hzl (by simpa using hby) hV hS (by simp [Builtin.lenOf]) hfc hnl hall hbig
  refine ⟨_, w', E' ++ L0, ?_, h3, h ad' c' E' h2 h4⟩
  rw [hr]
  simp [builtin, h1]
end

/-! ### Literals of slices -/
theorem flat_get {zs : List Value} {s : Nat} (hzl : zs.length = s) : ∀ (len i : Nat), i < len * s → ((List.replicate len zs).flatten)[i]? = zs[i % s]?
  | 0, i, h => by simp at h
  | k + 1, i, h => by
    rw [List.replicate_succ, List.flatten_cons]
    rw [Nat.add_mul] at h
    by_cases hlt : i < s
    · rw [List.getElem?_append_left (by omega), Nat.mod_eq_of_lt hlt]
    · rw [List.getElem?_append_right (by omega), hzl, flat_get hzl k (i - s) (by omega), ← Nat.mod_eq_sub_mod (by omega)]
theorem flat_len {zs : List Value} {s : Nat} (hzl : zs.length = s) (len : Nat) : ((List.replicate len zs).flatten).length = len * s := by simp [hzl]
theorem zero_row {zs : List Value} {s : Nat} (hzl : zs.length = s) (len : Nat) : (Array.range (len * s)).map (zs.toArray[· % zs.toArray.size]!) = ((List.replicate len zs).flatten).toArray := by
  apply Array.ext
  · simp [hzl]
  · intro i hi1 hi2
    have hi : i < len * s := by simpa using hi1
    have hs0 : 0 < s := by
      rcases Nat.eq_zero_or_pos s with h | h
      · subst h; simp at hi
      · exact h
    have hmod : i % s < zs.length := by rw [hzl]; exact Nat.mod_lt _ hs0
    have h := flat_get hzl len i hi
    rw [List.getElem?_eq_getElem (by simpa using hi2), List.getElem?_eq_getElem hmod] at h
    simp only [Array.getElem_map, Array.getElem_range, List.size_toArray, hzl, List.getElem_toArray]
    rw [getElem!_pos _ _ (by simpa using hmod)]
    simpa using h.symm
theorem WL.buildSlice {t e s len d : Nat} {parts : List (Nat × Operand)} {vs : List (Nat × Value)} {zs out : List Value} (ho : o.op = .buildSlice t len parts.toArray) (hx : evp l parts = some vs) (hu : P.underlying t = some (.slice e)) (hs : (P.info? e).map (·.size) = some s)
    (hz : Zero P e zs) (hzl : zs.length = s) (hbig : len * s ≤ 16777216) (hf : fillL (fun i => some (i * s, s)) ((List.replicate len zs).flatten) vs = some out) (hg : On ops o l) (hd : o.dst = some d) (hn : Nat.blt d n = true)
    (h : ∀ g, w0.heap.size ≤ g → WL P ops Q n p w0 rest ((d, .slice (some ⟨g, 0, none⟩) len len) :: l) (.row g out :: L)) : WL P ops Q n p w0 (o :: rest) l L := by
  refine WL.op hg hd hn fun a w ha hS => ?_
  obtain ⟨z, hz, hzs⟩ := hz
  have hzc : z.cells = zs.toArray := by rw [← hzs]
  have h1 := ha.evp hx
  have h2 := fill_eq _ _ _ _ hf
  refine ⟨_, _, _, ?_, St.new (cs := out) (T := e) hS, h _ hS.frm.size⟩
  have hrow := zero_row hzl len
  have hnb : ¬ (len * s > 2 ^ 24) := by omega
  have hz' : ∀ w : World, (if len * s = 0 then (pure #[] : Sem (Array Value)) else do pure (← zeroValue e).cells).run P w = .ok (if len * s = 0 then #[] else zs.toArray) w := fun w => by
    split <;> simp [run_zeroValue hz, hzc]
  have hrow' : (Array.range (len * s)).map ((if len * s = 0 then (#[] : Array Value) else zs.toArray)[· % (if len * s = 0 then (#[] : Array Value) else zs.toArray).size]!) = ((List.replicate len zs).flatten).toArray := by
    by_cases h0 : len * s = 0
    · have hl := flat_len hzl len
      have : (List.replicate len zs).flatten = [] := List.length_eq_zero_iff.1 (by omega)
      rw [this, h0]
      exact Array.ext (by simp) (fun i h => by simp at h)
    · simp only [h0, if_false]; exact hrow
  unfold execOp
  simp only [ho, Instr.buildSlice, Sem.run_bind, run_underlying hu, Result.andThen_ok, run_sizeOf hs, hnb, if_false, Sem.run_pure]
  by_cases h0 : len * s = 0
  · simp only [h0, if_true] at hrow' ⊢
    have hl := flat_len hzl len
    have hnil : (List.replicate len zs).flatten = [] := List.length_eq_zero_iff.1 (by omega)
    have hz0 : ∀ f : Nat → Value, Array.map f (Array.range 0) = #[] := fun f => Array.ext (by simp) (fun i h => by simp at h)
    rw [hnil] at h2
    simp [h1, hz0, h2, newRow, newObj, Sem.run]
  · simp only [h0, if_false] at hrow' ⊢
    have hr2 : Array.map (fun x => zs[x % zs.length]?.getD default) (Array.range (len * s)) = ((List.replicate len zs).flatten).toArray := by
      rw [← hrow']; simp
    simp [run_zeroValue hz, hzc, h1, hr2, h2, newRow, newObj, Sem.run]
end
end Go.Proofs.YtmhahajadgkolaaGreatDoor
/- The engine: strings and bytes, one made of the other; arrays out of slices; interface values; functions as values. -/
namespace Go.Proofs.YtmhahajadgkolaaGreatDoor
open Go.RowKit

section
variable {P : Program} {C : World → Prop} {ops : Array Oper} {Q : Exit → Act → World → Prop} {n : Nat} {p : Nat → Prop} {w0 : World} {o : Oper} {rest : List Oper} {l : Kn} {L : List Ent}

/-! ### Bytes that read as a function says -/
def bl (f : Nat → Int) (n : Nat) : List Int := (List.range n).map f
theorem bl_len (f : Nat → Int) (n : Nat) : (bl f n).length = n := by simp [bl]
theorem bl_get (f : Nat → Int) (n i : Nat) (h : i < n) : (bl f n).getD i 0 = f i := by simp [bl, List.getD, h]
theorem Rd.list {w : World} {b off n : Nat} {f : Nat → Int} (h : Rd w b off n f) : ∀ i, i < n → w.cell? ⟨b, off + i, none⟩ = some (.int .u8 ((bl f n).getD i 0)) := fun i hi => by
  rw [bl_get f n i hi]; exact h i hi
def str (f : Nat → Int) (n : Nat) : ByteArray := strOfNums (bl f n)
/-- n bytes of a slice that may be nil. -/
def RdO (w : World) (a : Option Addr) (n : Nat) (f : Nat → Int) : Prop := 0 < n → ∃ b off, a = some ⟨b, off, none⟩ ∧ Rd w b off n f
/-- The cells of n bytes. -/
def bcs (f : Nat → Int) (n : Nat) : List Value := (List.range n).map fun i => .int .u8 (f i)
theorem bcs_len (f : Nat → Int) (n : Nat) : (bcs f n).length = n := by simp [bcs]
/-! ### Conversions -/
theorem run_convBS {s d e cap k : Nat} {a : Option Addr} {f : Nat → Int} {w : World} (hs : P.underlying s = some (.slice e)) (he : P.underlying e = some (.int .u8)) (hd : P.underlying d = some .string) (hr : RdO w a k f) :
    (convert s d (.slice a k cap)).run P w = .ok (.string (str f k)) w := by
  by_cases hn : 0 < k
  · obtain ⟨b, off, rfl, hr'⟩ := hr hn
    exact run_convert_bytes_arg w s e hs he b off k cap (bl f k) (bl_len _ _) hr'.list d hd
  · obtain rfl : k = 0 := by omega
    cases a with
    | none => exact run_convert_bytes_nil w s e hs he 0 cap d hd
    | some ad =>
      rw [run_convert_bytes_string w s d e (some ad) 0 cap hs he hd, run_bytesToString w ad 0 cap [] (by rfl)]
      rfl
theorem v_convBS {s d e cap k : Nat} {a : Option Addr} {x : Operand} (f : Nat → Int) (ho : o.op = .convert s d x) (hx : ev l x = some (.slice a k cap)) (hs : P.underlying s = some (.slice e)) (he : P.underlying e = some (.int .u8)) (hd : P.underlying d = some .string)
    (hr : ∀ w, C w → RdO w a k f) : Val P C n l o (.string (str f k)) := fun ac w ha hC => by
  have h1 := ha.ev hx
  unfold execOp
  simp [ho, h1, run_convBS hs he hd (hr w hC)]
/-- []byte(s): a block of its own, noughts behind. -/
theorem WL.convSB {s d e dd m : Nat} {x : Operand} {bs : ByteArray} {cs0 : List Value} (ho : o.op = .convert s d x) (hx : ev l x = some (.string bs)) (hm : bs.size = m) (hcs0 : bs.data.toList.map bcell = cs0) {ds : TypeDesc} (hs : P.underlying s = some ds) (hd : P.underlying d = some (.slice e)) (he : P.underlying e = some (.int .u8)) (hg : On ops o l) (hdst : o.dst = some dd) (hn : Nat.blt dd n = true)
    (h : ∀ g c, w0.heap.size ≤ g → m ≤ c → WL P ops Q n p w0 rest ((dd, .slice (some ⟨g, 0, none⟩) m c) :: l) (.row g (cs0 ++ List.replicate (c - m) (.int .u8 0)) :: L)) : WL P ops Q n p w0 (o :: rest) l L := by
  subst hm hcs0
  refine WL.op hg hdst hn fun a w ha hS => ?_
  have h1 := ha.ev hx
  let c := (Question.appendCap bs.size 0 e).cut (w.tape w.drawn (.appendCap bs.size 0 e))
  have hcc : bs.size ≤ c := by show bs.size ≤ bs.size + _; omega
  let cs := bs.data.toList.map bcell ++ List.replicate (c - bs.size) (.int .u8 0)
  have hcl : cs.length = c := by
    have : bs.data.toList.length = bs.size := rfl
    simp only [cs, List.length_append, List.length_map, List.length_replicate, this]; omega
  have hcut : (choose (.appendCap bs.size 0 e)).run P w = .ok c w.drew := rfl
  have hd1 := hS.drew
  let w1 := w.drew.alloc (.cells cs.toArray e)
  let w2 := w1.freeze ⟨w.drew.heap.size, cs.length, none⟩ 1
  have hb1 : w1.heap[w.drew.heap.size]? = some (.cells cs.toArray e) := heap_alloc_new w.drew _
  have hb2 : w2.heap[w.drew.heap.size]? = some (.cells cs.toArray e (cs.length, cs.length + 1)) := by
    simp only [w2, World.freeze, Nat.succ_ne_self, if_false]
    simp only [Array.getElem?_modify, if_true, hb1, Option.map_some]
    simp
  have hF : Frm (fun _ => False) w.drew w2 := by
    refine ⟨rfl, rfl, rfl, ?_, fun k hk _ => ?_, Nat.le_refl _⟩
    · simp only [w2, World.freeze, Nat.succ_ne_self, if_false, Array.size_modify]
      show _ ≤ (w.drew.heap.push _).size
      simp
    · simp only [w2, World.freeze, Nat.succ_ne_self, if_false]
      rw [Array.getElem?_modify, if_neg (by omega)]
      exact Below.heap_alloc _ _ _ hk
  have hRow : Row w2 w.drew.heap.size cs := ⟨e, cs.length, cs.length + 1, hb2, fun i hi h => by omega⟩
  have hS2 : St p w0 w2 (.row w.drew.heap.size cs :: L) := hd1.add hF (Nat.le_refl _) hRow
  refine ⟨_, w2, _, ?_, hS2, h _ c hd1.frm.size hcc⟩
  have hcells : (bs.data.map fun b => Value.int .u8 b.toNat) ++ Array.replicate (c - bs.size) (.int .u8 0) = cs.toArray := by
    apply Array.toList_inj.1
    simp [cs]
    exact fun _ _ => rfl
  unfold execOp
  simp only [ho, h1, convert, Sem.run_bind, run_underlying hs, run_underlying hd, Result.andThen_ok, run_underlying he, Conv.stringToBytes, hcut, hcells, newRow, newObj, Sem.run, Sem.run_pure]
  have hsh : (({ heap := w.drew.heap.push (.cells cs.toArray e), tape := w.drew.tape, drawn := w.drew.drawn, os := w.drew.os, output := w.drew.output } : World).shape? w.drew.heap.size) = some (e, cs.length) := by
    show (match (w.drew.heap.push (.cells cs.toArray e))[w.drew.heap.size]? with | some (.cells c elem _) => some (elem, c.size) | _ => none) = _
    rw [show (w.drew.heap.push (.cells cs.toArray e))[w.drew.heap.size]? = some (.cells cs.toArray e) from hb1]
    simp
  simp only [markStringish, Sem.run_bind, shape, Sem.run, hsh, Result.andThen_ok, freeze]
  rfl
/-- A slice as an array: the pointer to the array that it begins with. -/
theorem v_arrayAt {t e m k cap : Nat} {a : Option Addr} {x : Operand} (ho : o.op = .sliceToArrayPointer t x) (hx : ev l x = some (.slice a k cap)) (hu : P.underlying t = some (.array m e)) (hm : m ≤ k) : Val P C n l o (.pointer a) := fun ac w ha _ => by
  have h1 := ha.ev hx
  unfold execOp
  simp [ho, h1, run_arrayAt w t e m k cap a hu hm]
theorem v_makeInterface {t : Nat} {x : Operand} {v : Value} {d : TypeDesc} (ho : o.op = .makeInterface t x) (hx : ev l x = some v) (hu : P.underlying t = some d) (hd : (match d with | .interface _ => true | _ => false) = false) : Val P C n l o (.iface t v) := fun ac w ha _ => by
  have h1 := ha.ev hx
  unfold execOp
  simp only [ho, h1, Instr.makeInterface, Sem.run_bind, run_underlying hu, Result.andThen_ok]
  cases d <;> simp_all
theorem v_makeFunc {fn : Fn} {fi cap : List Operand} {vf vc : List Value} (ho : o.op = .makeFunc fn fi.toArray cap.toArray) (hf : evs l fi = some vf) (hc : evs l cap = some vc) : Val P C n l o (.func fn vf.toArray vc.toArray) := fun ac w ha _ => by
  have h1 := ha.evs hf; have h2 := ha.evs hc
  unfold execOp
  simp [ho, Instr.makeFunc, ← h1, ← h2]
end
end Go.Proofs.YtmhahajadgkolaaGreatDoor
/- The engine: maps with integer keys. -/
namespace Go.Proofs.YtmhahajadgkolaaGreatDoor
open Go.RowKit

section
variable {P : Program} {C : World → Prop} {ops : Array Oper} {Q : Exit → Act → World → Prop} {n : Nat} {p : Nat → Prop} {w0 : World} {o : Oper} {rest : List Oper} {l : Kn} {L : List Ent}

/-- What keys of a type may be relied on for: K says which values are keys. -/
structure KeyP (P : Program) (kt : TypeId) (K : Value → Prop) : Prop where
  check : ∀ b w v, K v → (Instr.checkKey b 10000 kt v).run P w = .ok () w
  find : ∀ w x (es : List MapEntry), K x → (∀ e ∈ es, K e.key) →
    ((Instr.findKey kt x es).run P w = .ok none w ∧ ∀ e ∈ es, e.key ≠ x) ∨ ∃ j e0, (Instr.findKey kt x es).run P w = .ok (some (j, e0.val)) w ∧ es[j]? = some e0 ∧ e0.key = x
  stays : ∀ w v, K v → (Instr.keyThatStays v v).run P w = .ok v w
def KInt (k : IntKind) : Value → Prop := fun v => ∃ x, v = .int k x
theorem keyI {kt : TypeId} {k : IntKind} (hk : P.underlying kt = some (.int k)) : KeyP P kt (KInt k) where
  check := by rintro b w v ⟨x, rfl⟩; exact MapKept.run_checkKey hk (by rfl) b 9999
  find := by
    rintro w v es ⟨x, rfl⟩ h
    rcases MapKept.findNow_spec (d := .int k) (k := .int k x) rfl es 0 (fun e he => by obtain ⟨y, hy⟩ := h e he; rw [hy]; rfl) with ⟨h1, h2⟩ | ⟨j, e, h1, h2, h3⟩
    · exact .inl ⟨MapKept.run_findKey hk h1, h2⟩
    · exact .inr ⟨j, e, by rw [MapKept.run_findKey hk h1, Nat.zero_add], h2, h3⟩
  stays := by rintro w v ⟨x, rfl⟩; exact MapKept.run_keyThatStays (d := .int k) rfl
/-- The entries of a map, each once, read as m. -/
structure IMap (K : Value → Prop) (es : Array MapEntry) (m : Value → Option Value) : Prop where
  keys : ∀ e ∈ es.toList, K e.key
  nodup : (es.toList.map (·.key)).Nodup
  get : ∀ x v, m x = some v ↔ ∃ e ∈ es.toList, e.key = x ∧ e.val = v
theorem Frm.keep_obj {p : Nat → Prop} {w w' : World} {g : Nat} {ob : Obj} (h : Frm p w w') (hp : ¬ p g) (hb : w.heap[g]? = some ob) : w'.heap[g]? = some ob := by
  rw [h.block g (Array.getElem?_eq_some_iff.1 hb).1 hp]; exact hb
theorem St.oldRow {p : Nat → Prop} {w0 w : World} {L : List Ent} {g : Nat} {cs : List Value} (h : St p w0 w L) (hp : ¬ p g) (hr : Row w0 g cs) : Row w g cs := by
  obtain ⟨T, lo, hi, h1, h2⟩ := hr
  exact ⟨T, lo, hi, by rw [h.frm.block g (Array.getElem?_eq_some_iff.1 h1).1 hp]; exact h1, h2⟩
theorem IMap.empty (K : Value → Prop) : IMap K #[] (fun _ => none) := ⟨by simp, by simp, by simp⟩
theorem IMap.none_of {K : Value → Prop} {es : Array MapEntry} {m : Value → Option Value} (h : IMap K es m) {x : Value} (hf : ∀ e ∈ es.toList, e.key ≠ x) : m x = none := by
  cases hm : m x with
  | none => rfl
  | some v =>
    obtain ⟨e, he, hx, _⟩ := (h.get x v).1 hm
    exact absurd hx (hf e he)
open Classical in
noncomputable def updM {α β : Type} (m : α → Option β) (x : α) (v : Option β) : α → Option β := fun y => if y = x then v else m y
theorem updM_eq {α β : Type} (m : α → Option β) (x : α) (v : Option β) : updM m x v x = v := by unfold updM; rw [if_pos rfl]
theorem updM_ne {α β : Type} (m : α → Option β) {x y : α} (v : Option β) (h : y ≠ x) : updM m x v y = m y := by unfold updM; rw [if_neg h]
theorem findKey_or {kt : Nat} {K : Value → Prop} (hk : KeyP P kt K) {x : Value} (hx : K x) {es : Array MapEntry} {m : Value → Option Value} (hM : IMap K es m) (w : World) :
    (m x = none ∧ (∀ e ∈ es.toList, e.key ≠ x) ∧ (Instr.findKey kt x es.toList).run P w = .ok none w) ∨
    ∃ j e0, m x = some e0.val ∧ es.toList[j]? = some e0 ∧ e0.key = x ∧ (Instr.findKey kt x es.toList).run P w = .ok (some (j, e0.val)) w := by
  rcases hk.find w x es.toList hx hM.keys with ⟨h1, h2⟩ | ⟨j, e0, h1, h2, h3⟩
  · exact .inl ⟨hM.none_of h2, h2, h1⟩
  · exact .inr ⟨j, e0, (hM.get _ _).2 ⟨e0, List.mem_of_getElem? h2, h3, rfl⟩, h2, h3, h1⟩

/-- Where in the list a block stands; what the list is with another in its place. -/
class Loc (L : List Ent) (g : Nat) (e : outParam Ent) (F : outParam (Ent → List Ent)) : Prop where
  ok : ∃ A B, L = A ++ e :: B ∧ F = fun x => A ++ x :: B
instance {L : List Ent} {g : Nat} {cs : List Value} : Loc (.row g cs :: L) g (.row g cs) (fun x => x :: L) := ⟨⟨[], L, rfl, rfl⟩⟩
instance {L : List Ent} {g : Nat} {ob : Obj} : Loc (.obj g ob :: L) g (.obj g ob) (fun x => x :: L) := ⟨⟨[], L, rfl, rfl⟩⟩
instance {d : Ent} {L : List Ent} {g : Nat} {e : Ent} {F : Ent → List Ent} [h : Loc L g e F] : Loc (d :: L) g e (fun x => d :: F x) := ⟨let ⟨A, B, h1, h2⟩ := h.ok; ⟨d :: A, B, by rw [h1]; rfl, by rw [h2]; rfl⟩⟩
instance {E L : List Ent} {g : Nat} {e : Ent} {F : Ent → List Ent} [h : Loc L g e F] : Loc (E ++ L) g e (fun x => E ++ F x) := ⟨let ⟨A, B, h1, h2⟩ := h.ok; ⟨E ++ A, B, by rw [h1, List.append_assoc], by rw [h2]; funext x; simp⟩⟩
/-- A map's value: nil, or a block. -/
def MapV (r : Option Nat) (es : Array MapEntry) (L : List Ent) : Prop := (r = none ∧ es = #[]) ∨ ∃ g c, r = some g ∧ Ent.obj g (.map es c) ∈ L
/-- A map's value in a world: nil, or a block. -/
def MapW (w : World) (r : Option Nat) (es : Array MapEntry) : Prop := (r = none ∧ es = #[]) ∨ ∃ g c, r = some g ∧ w.heap[g]? = some (.map es c)
theorem mapOld {r : Option Nat} {es : Array MapEntry} (hp : ∀ g, ¬ p g) (h : MapW w0 r es) : ∀ w, St p w0 w L → MapW w r es := fun _ hS => h.imp id fun ⟨g, c, e, hm⟩ => ⟨g, c, e, hS.frm.keep_obj (hp g) hm⟩
section
variable {t kt et d : Nat} {x xi : Operand} {K : Value → Prop} {A : Value} {r : Option Nat} {es : Array MapEntry} {m : Value → Option Value} {z : Value}
theorem run_lookup {ok : Bool} {a : Act} {w : World} (ho : o.op = .lookup t x xi ok) (h1 : a.eval x = .map r) (h2 : a.eval xi = A) (hu : P.underlying t = some (.map kt et)) (hk : KeyP P kt K) (hA : K A) (hz : (P.info? et).bind (·.zero) = some z)
    (hV : MapW w r es) (hM : IMap K es m) : (execOp a.eval o).run P w = .ok (.value (if ok then .tuple #[(m A).getD z, .bool (m A).isSome] else (m A).getD z)) w := by
  have hc : ∀ b, (Instr.checkKey b 10000 kt A).run P w = .ok () w := fun b => hk.check b w A hA
  have hz' : (zeroValue et).run P w = .ok z w := run_zeroValue hz w
  rcases findKey_or hk hA hM w with ⟨hm, _, hf⟩ | ⟨j, e0, hm, _, _, hf⟩
  · rcases hV with ⟨rfl, rfl⟩ | ⟨g, c, rfl, hmem⟩
    · have hf' : (Instr.findKey kt A []).run P w = .ok none w := hf
      cases ok <;> simp [execOp, ho, h1, h2, Instr.lookup, run_underlying hu, hc, hf', hm, hz', Result.andThen]
    · have hob := hmem
      cases ok <;> simp [execOp, ho, h1, h2, Instr.lookup, run_underlying hu, MapKept.run_getObj_map hob, hc, hf, hm, hz', Result.andThen]
  · rcases hV with ⟨rfl, rfl⟩ | ⟨g, c, rfl, hmem⟩
    · have hf' : (Instr.findKey kt A []).run P w = .ok (some (j, e0.val)) w := hf
      cases ok <;> simp [execOp, ho, h1, h2, Instr.lookup, run_underlying hu, hc, hf', hm, Result.andThen]
    · have hob := hmem
      cases ok <;> simp [execOp, ho, h1, h2, Instr.lookup, run_underlying hu, MapKept.run_getObj_map hob, hc, hf, hm, Result.andThen]
theorem v_lookup (ho : o.op = .lookup t x xi false) (hx : ev l x = some (.map r)) (hi : ev l xi = some A) (hu : P.underlying t = some (.map kt et)) (hk : KeyP P kt K) (hA : K A) (hz : (P.info? et).bind (·.zero) = some z)
    (hV : ∀ w, C w → MapW w r es) (hM : IMap K es m) : Val P C n l o ((m A).getD z) := fun a w ha hS => by
  simpa using run_lookup ho (ha.ev hx) (ha.ev hi) hu hk hA hz (hV _ hS) hM
theorem v_lookup2 (ho : o.op = .lookup t x xi true) (hx : ev l x = some (.map r)) (hi : ev l xi = some A) (hu : P.underlying t = some (.map kt et)) (hk : KeyP P kt K) (hA : K A) (hz : (P.info? et).bind (·.zero) = some z)
    (hV : ∀ w, C w → MapW w r es) (hM : IMap K es m) : Val P C n l o (.tuple #[(m A).getD z, .bool (m A).isSome]) := fun a w ha hS => by
  simpa using run_lookup ho (ha.ev hx) (ha.ev hi) hu hk hA hz (hV _ hS) hM
theorem v_len_map (ho : o.op = .call { callee := .builtin .len, args := #[x], argTypes := #[t] }) (hx : ev l x = some (.map r)) (hu : P.underlying t = some (.map kt et)) (hV : ∀ w, C w → MapW w r es) : Val P C n l o (.int .i64 es.size) := fun a w ha hS => by
  have hx' : evs l [x] = some [.map r] := by simp [evs, hx]
  obtain ⟨cs, h⟩ := run_builtin (P := P) (w := w) (xs := [x]) ho hx' ha
  rw [h]
  rcases hV w hS with ⟨rfl, rfl⟩ | ⟨g, c, rfl, hob⟩
  · simp [builtin, Builtin.len_, run_underlying hu, goInt]
  · simp [builtin, Builtin.len_, run_underlying hu, goInt, getObj, Sem.run, hob]
theorem WL.makeMap (ho : o.op = .makeMap t none) (hg : On ops o l) (hd : o.dst = some d) (hn : Nat.blt d n = true)
    (h : ∀ g, w0.heap.size ≤ g → WL P ops Q n p w0 rest ((d, .map (some g)) :: l) (.obj g (.map #[] 0) :: L)) : WL P ops Q n p w0 (o :: rest) l L := by
  refine WL.op hg hd hn fun a w ha hS => ?_
  refine ⟨_, _, _, ?_, St.newObj (ob := .map #[] 0) hS trivial, h _ hS.frm.size⟩
  unfold execOp
  simp [ho, Instr.makeMap, newObj, Sem.run]
theorem Frm.setObj {w : World} {g : Nat} {ob : Obj} : Frm (fun b => b = g) w { w with heap := w.heap.setIfInBounds g ob } :=
  ⟨rfl, rfl, rfl, by simp, fun k _ hn => by simp [Ne.symm hn], Nat.le_refl _⟩
theorem run_mapUpdate {c g : Nat} {v : Value} {w : World} (hu : P.underlying t = some (.map kt et)) (hk : KeyP P kt K) (hA : K A) (hob : w.heap[g]? = some (.map es c)) (hM : IMap K es m) :
    ∃ es' c', (Instr.mapUpdate t (.map (some g)) A v).run P w = .ok () { w with heap := w.heap.setIfInBounds g (.map es' c') } ∧ IMap K es' (updM m A (some v)) ∧ es'.size = (if (m A).isSome then es.size else es.size + 1) ∧ (MapKept.Stamped es c → MapKept.Stamped es' c') := by
  have hc : ∀ b, (Instr.checkKey b 10000 kt A).run P w = .ok () w := fun b => hk.check b w A hA
  rcases findKey_or hk hA hM w with ⟨hm, hn, hf⟩ | ⟨j, e0, hm, hj, hke, hf⟩
  · refine ⟨es.push { key := A, val := v, born := c }, c + 1, ?_, ⟨?_, ?_, ?_⟩, by simp [hm], fun h => MapKept.stamped_push h hn⟩
    · simp [Instr.mapUpdate, run_underlying hu, MapKept.run_getObj_map hob, MapKept.run_setObj_map _ hob, hc, hf, Result.andThen]
    · intro e he
      rw [Array.toList_push] at he
      rcases List.mem_append.1 he with he | he
      · exact hM.keys e he
      · simp only [List.mem_singleton] at he; subst he; exact hA
    · rw [Array.toList_push, List.map_append, List.nodup_append]
      refine ⟨hM.nodup, by simp, ?_⟩
      intro a ha b hb e
      simp only [List.map_cons, List.map_nil, List.mem_singleton] at hb
      obtain ⟨e1, he1, rfl⟩ := List.mem_map.1 ha
      exact hn e1 he1 (by rw [e, hb])
    · intro y u
      rw [Array.toList_push]
      unfold updM
      by_cases hy : y = A
      · subst hy
        rw [if_pos rfl]
        constructor
        · intro h; cases h; exact ⟨_, List.mem_append_right _ (List.mem_singleton.2 rfl), rfl, rfl⟩
        · rintro ⟨e, he, h1, rfl⟩
          rcases List.mem_append.1 he with he | he
          · exact absurd h1 (hn e he)
          · rw [List.mem_singleton.1 he]
      · rw [if_neg hy, hM.get y u]
        constructor
        · rintro ⟨e, he, h1, h2⟩; exact ⟨e, List.mem_append_left _ he, h1, h2⟩
        · rintro ⟨e, he, h1, h2⟩
          rcases List.mem_append.1 he with he | he
          · exact ⟨e, he, h1, h2⟩
          · rw [List.mem_singleton.1 he] at h1; exact absurd h1.symm hy
  · have hjl := (List.getElem?_eq_some_iff.1 hj).1
    have hej : es[j]? = some e0 := by simpa using hj
    have hlen : ∀ i, (es.toList.modify j fun e => { e with key := A, val := v })[i]? = (es.toList[i]?).map fun e => if j = i then { e with key := A, val := v } else e := fun i => by
      rw [List.getElem?_modify]; cases es.toList[i]? <;> simp
    refine ⟨es.modify j fun e => { e with key := A, val := v }, c, ?_, ⟨?_, ?_, ?_⟩, by simp [hm], fun h => MapKept.stamped_modify h j _ (fun _ _ => rfl) (fun e _ he => by rw [hej] at he; cases he; exact hke.symm)⟩
    · simp [Instr.mapUpdate, run_underlying hu, MapKept.run_getObj_map hob, MapKept.run_setObj_map _ hob, hc, hf, hej, hke, hk.stays w A hA, Result.andThen]
    · intro e he
      rw [Array.toList_modify] at he
      obtain ⟨i, hi⟩ := List.mem_iff_getElem?.1 he
      rw [hlen] at hi
      cases hq : es.toList[i]? with
      | none => simp [hq] at hi
      | some e1 =>
        simp only [hq, Option.map_some, Option.some.injEq] at hi
        split at hi
        · subst hi; exact hA
        · subst hi; exact hM.keys _ (List.mem_of_getElem? hq)
    · have : (es.modify j fun e => { e with key := A, val := v }).toList.map (·.key) = es.toList.map (·.key) := by
        apply List.ext_getElem?
        intro i
        rw [Array.toList_modify, List.getElem?_map, List.getElem?_map, hlen]
        by_cases hi : j = i
        · subst hi; simp [hj, hke]
        · simp [hi]
      rw [this]; exact hM.nodup
    · intro y u
      rw [Array.toList_modify]
      have huniq : ∀ i e, es.toList[i]? = some e → e.key = A → i = j := fun i e hi hA' => by
        have h1 : (es.toList.map (·.key))[i]? = some A := by rw [List.getElem?_map, hi]; simp [hA']
        have h2 : (es.toList.map (·.key))[j]? = some A := by rw [List.getElem?_map, hj]; simp [hke]
        have hil := (List.getElem?_eq_some_iff.1 h1).1
        have hjl := (List.getElem?_eq_some_iff.1 h2).1
        exact (List.getElem?_inj hil hM.nodup).1 (by rw [h1, h2])
      unfold updM
      by_cases hy : y = A
      · subst hy
        rw [if_pos rfl]
        constructor
        · intro h; cases h
          refine ⟨{ e0 with key := y, val := v }, List.mem_iff_getElem?.2 ⟨j, by rw [hlen, hj]; simp⟩, rfl, rfl⟩
        · rintro ⟨e, he, h1, rfl⟩
          obtain ⟨i, hi⟩ := List.mem_iff_getElem?.1 he
          rw [hlen] at hi
          cases hq : es.toList[i]? with
          | none => simp [hq] at hi
          | some e1 =>
            simp only [hq, Option.map_some, Option.some.injEq] at hi
            split at hi
            · subst hi; rfl
            · rename_i hne
              subst hi
              exact absurd (huniq i _ hq h1).symm hne
      · rw [if_neg hy, hM.get y u]
        constructor
        · rintro ⟨e, he, h1, h2⟩
          obtain ⟨i, hi⟩ := List.mem_iff_getElem?.1 he
          refine ⟨e, List.mem_iff_getElem?.2 ⟨i, ?_⟩, h1, h2⟩
          rw [hlen, hi, Option.map_some, if_neg]
          intro e'; subst e'
          rw [hj] at hi; cases hi
          exact hy (h1.symm.trans hke)
        · rintro ⟨e, he, h1, h2⟩
          obtain ⟨i, hi⟩ := List.mem_iff_getElem?.1 he
          rw [hlen] at hi
          cases hq : es.toList[i]? with
          | none => simp [hq] at hi
          | some e1 =>
            simp only [hq, Option.map_some, Option.some.injEq] at hi
            split at hi
            · subst hi; exact absurd h1.symm hy
            · subst hi; exact ⟨_, List.mem_of_getElem? hq, h1, h2⟩
theorem WL.mapUpdate {g c : Nat} {xv : Operand} {v : Value} {F : Ent → List Ent} (ho : o.op = .mapUpdate t x xi xv) (hx : ev l x = some (.map (some g))) (hi : ev l xi = some A) (hv : ev l xv = some v) (hu : P.underlying t = some (.map kt et)) (hk : KeyP P kt K) (hA : K A)
    [hL : Loc L g (.obj g (.map es c)) F] (hM : IMap K es m) (hg : On ops o l) (hd : o.dst = none)
    (h : ∀ es' c', IMap K es' (updM m A (some v)) → es'.size = (if (m A).isSome then es.size else es.size + 1) → WL P ops Q n p w0 rest l (F (.obj g (.map es' c')))) : WL P ops Q n p w0 (o :: rest) l L := by
  refine WL.act hg hd fun a w ha hS => ?_
  obtain ⟨A', B', rfl, rfl⟩ := hL.ok
  have hob := (hS.holds (.obj g (.map es c)) (by simp)).1
  obtain ⟨es', c', hr, hM', hsz, _⟩ := run_mapUpdate (P := P) (A := A) (v := v) (w := w) hu hk hA hob hM
  refine ⟨{ w with heap := w.heap.setIfInBounds g (.map es' c') }, A' ++ .obj g (.map es' c') :: B', .inl ?_, ?_, h es' c' hM' hsz⟩
  · have h1 := ha.ev hx; have h2 := ha.ev hi; have h3 := ha.ev hv
    unfold execOp
    simp [ho, h1, h2, h3, hr]
  · exact hS.put (g := g) (e := .obj g (.map es' c')) (hp := ⟨fun _ => ⟨A', B', _, rfl, rfl, rfl⟩⟩) rfl Frm.setObj ⟨by
      have hlt := (Array.getElem?_eq_some_iff.1 hob).1
      simp [hlt], trivial⟩
end
/-! ### A thing that may be nil, and nil -/
def nilEq : TypeDesc → Value → Value → Option Bool
  | .pointer _, .pointer a, .pointer none => some a.isNone
  | .slice _, .slice a _ _, .slice none _ _ => some a.isNone
  | .map _ _, .map a, .map none => some a.isNone
  | .func _ _ _, .nilFunc, .nilFunc => some true
  | .func _ _ _, .func _ _ _, .nilFunc => some false
  | _, _, _ => none
theorem run_nilEq {t d : Nat} {ds : TypeDesc} {u v : Value} {b : Bool} {w : World} (hu : P.underlying t = some ds) (hn : nilEq ds u v = some b) : (Op.equalIn (d + 1) t u v).run P w = .ok b w := by
  unfold nilEq at hn
  rw [Op.equalIn, Sem.run_bind, run_underlying hu, Result.andThen_ok]
  split at hn <;> first
    | (cases hn; done)
    | (simp only [Option.some.injEq] at hn; subst hn; rfl)
    | (simp only [Option.some.injEq] at hn; subst hn; rename_i a; cases a <;> rfl)
    | (simp only [Option.some.injEq] at hn; subst hn; rename_i a _ _ _ _; cases a <;> rfl)
theorem v_eql_nil {t yt : TypeId} {ds : TypeDesc} {x : Operand} {u v : Value} (b : Bool) (ho : o.op = .binOp .eql t x (.const v) yt) (hx : ev l x = some u) (hu : P.underlying t = some ds) (hn : nilEq ds u v = some b) : Val P C n l o (.bool b) := fun a w ha _ => by
  have h' : (Op.equal t u v).run P w = .ok b w := run_nilEq (d := 9999) hu hn
  refine run_eq2 (v := v) ho (ha.ev hx) rfl ?_ ?_
  · unfold nilEq at hn; split at hn <;> first | (cases hn; done) | simp [eqGuard]
  · unfold nilEq at hn; split at hn <;> first | (cases hn; done) | (simp only [binOp]; simp [h'])
theorem v_neq_nil {t yt : TypeId} {ds : TypeDesc} {x : Operand} {u v : Value} (b : Bool) (ho : o.op = .binOp .neq t x (.const v) yt) (hx : ev l x = some u) (hu : P.underlying t = some ds) (hn : nilEq ds u v = some (!b)) : Val P C n l o (.bool b) := fun a w ha _ => by
  have h' : (Op.equal t u v).run P w = .ok (!b) w := run_nilEq (d := 9999) hu hn
  refine run_eq2 (v := v) ho (ha.ev hx) rfl ?_ ?_
  · unfold nilEq at hn; split at hn <;> first | (cases hn; done) | simp [eqGuard]
  · unfold nilEq at hn; split at hn <;> first | (cases hn; done) | (simp only [binOp]; simp [h'])
end
end Go.Proofs.YtmhahajadgkolaaGreatDoor
/- The engine: a region that draws its order, walked in an order of one's own: what yields the same in every world first, what only reads next, each alone that comes alone. -/
namespace Go.Proofs.YtmhahajadgkolaaGreatDoor
open Go.RowKit

section
variable {P : Program} {ops : Array Oper} {md : Region.Mode} {C : World → Prop}

/-! ### The orders: what waits for what -/
def waitsB (md : Region.Mode) (ops : Array Oper) (h : Nat) : Nat → Nat → Bool
  | 0, _ => false
  | f + 1, t => Region.waitsFor md ops t h || (match ops[t]? with
    | some ot => ot.after.any fun e => Region.binds md e && waitsB md ops h f e.on
    | none => false)
def Closed (md : Region.Mode) (ops : Array Oper) (listed : Array Bool) : Prop :=
  ∀ j oj, ops[j]? = some oj → listed.getD j false = true → ∀ e ∈ oj.after, Region.binds md e = true → listed.getD e.on false = true
def closedB (md : Region.Mode) (ops : Array Oper) (listed : Array Bool) : Bool :=
  (List.range ops.size).all fun j => !listed.getD j false || (match ops[j]? with
    | some oj => oj.after.all fun e => !Region.binds md e || listed.getD e.on false
    | none => true)
theorem closedB_spec {listed : Array Bool} (h : closedB md ops listed = true) : Closed md ops listed := fun j oj hj hl e he hb => by
  have h1 := List.all_eq_true.1 h j (List.mem_range.2 (Array.getElem?_eq_some_iff.1 hj).1)
  rw [hl, hj] at h1
  simp only [Bool.not_true, Bool.false_or] at h1
  have h2 := Array.all_eq_true'.1 h1 e he
  rw [hb] at h2
  simpa using h2
theorem Closed.set {listed : Array Bool} {i : Nat} (hc : Closed md ops listed) (hi : i ∈ Region.ready md ops listed) : Closed md ops (listed.setIfInBounds i true) := fun j oj hj hl e he hb => by
  obtain ⟨_, oi, hoi, hall⟩ := mem_ready.1 hi
  by_cases hij : i = j
  · subst hij
    have : oj = oi := Option.some.inj (hj.symm.trans hoi)
    subst this
    exact getD_set_true (hall e he hb)
  · rw [getD_set_ne false hij] at hl
    exact getD_set_true (hc j oj hj hl e he hb)
theorem waits_spec {listed : Array Bool} {h : Nat} (hc : Closed md ops listed) (hun : listed.getD h false = false) : ∀ (f t : Nat), waitsB md ops h f t = true → listed.getD t false = false ∧ t ∉ Region.ready md ops listed
  | 0, _, hw => by cases hw
  | f + 1, t, hw => by
    simp only [waitsB, Bool.or_eq_true] at hw
    have key : ∃ ot, ops[t]? = some ot ∧ ∃ e ∈ ot.after, Region.binds md e = true ∧ listed.getD e.on false = false := by
      rcases hw with hw | hw
      · obtain ⟨ot, hot, e, he, hb, hon⟩ := Region.waitsFor_spec hw
        exact ⟨ot, hot, e, he, hb, by rw [hon]; exact hun⟩
      · split at hw
        · rename_i ot hot
          obtain ⟨e, he, hb⟩ := Array.any_eq_true'.1 hw
          simp only [Bool.and_eq_true] at hb
          exact ⟨ot, hot, e, he, hb.1, (waits_spec hc hun f e.on hb.2).1⟩
        · cases hw
    obtain ⟨ot, hot, e, he, hb, hon⟩ := key
    refine ⟨?_, fun hr => ?_⟩
    · cases hl : listed.getD t false with
      | false => rfl
      | true => have := hc t ot hot hl e he hb; rw [hon] at this; cases this
    · obtain ⟨_, o', ho', hall⟩ := mem_ready.1 hr
      have : o' = ot := Option.some.inj (ho'.symm.trans hot)
      subst this
      have := hall e he hb
      rw [hon] at this; cases this

/-! ### What only reads, in an order of one's own -/
def HeadQ (P : Program) (md : Region.Mode) (ops : Array Oper) (C : World → Prop) (Lq : Array Bool → Act → Prop) : Nat → Array Bool → Act → Prop
  | 0, listed, a => Lq listed a
  | f + 1, listed, a => Region.ready md ops listed ≠ [] ∧ ∀ i ∈ Region.ready md ops listed, qOp P ops C i (HeadQ P md ops C Lq f (listed.setIfInBounds i true)) a
theorem any_of_HeadQ {g : Nat} {Lq : Array Bool → Act → Prop} {Q' : Exit → Act → World → Prop} (hL : ∀ listed a w, C w → Lq listed a → wpAny P md ops Q' g listed a w) :
    ∀ (f : Nat) (listed : Array Bool) (a : Act) (w : World), C w → HeadQ P md ops C Lq f listed a → wpAny P md ops Q' (f + g) listed a w
  | 0, listed, a, w, hC, h => by rw [Nat.zero_add]; exact hL _ _ _ hC h
  | f + 1, listed, a, w, hC, h => by
    rw [show f + 1 + g = (f + g) + 1 by omega]
    exact ⟨fun h0 => absurd h0 h.1, fun i hi => wpOp_of_qOp hC (fun a' w' hC' h' => any_of_HeadQ hL f _ a' w' hC' h') (h.2 i hi)⟩
/-- tails: all that is not of the head and not done. Each of them waits for each of the head. -/
def sinkAll (md : Region.Mode) (ops : Array Oper) (hs : List Nat) (listed : Array Bool) : Bool :=
  (List.range ops.size).all fun t => listed.getD t false || hs.contains t || hs.all fun h => waitsB md ops h ops.size t
/-- A state of the head: closed; done are only the old ones and some of the head. -/
structure Inv (md : Region.Mode) (ops : Array Oper) (hs : List Nat) (listed0 listed : Array Bool) : Prop where
  closed : Closed md ops listed
  only : ∀ j, listed.getD j false = true → listed0.getD j false = true ∨ j ∈ hs
  size : listed.size = ops.size
theorem Inv.set {hs : List Nat} {listed0 listed : Array Bool} {i : Nat} (inv : Inv md ops hs listed0 listed) (hi : i ∈ Region.ready md ops listed) (hh : i ∈ hs) : Inv md ops hs listed0 (listed.setIfInBounds i true) :=
  ⟨inv.closed.set hi, fun j hj => by
    by_cases hij : i = j
    · subst hij; exact .inr hh
    · rw [getD_set_ne false hij] at hj; exact inv.only j hj, by simp [inv.size]⟩
theorem Inv.ready {hs : List Nat} {listed0 listed : Array Bool} {i : Nat} (inv : Inv md ops hs listed0 listed) (hmono : ∀ j, listed0.getD j false = true → listed.getD j false = true)
    (hsk : sinkAll md ops hs listed0 = true) (hh : i ∈ hs) (hun : listed.getD i false = false) : ∀ j ∈ Region.ready md ops listed, j ∈ hs := fun j hj => by
  obtain ⟨hju, oj, hoj, _⟩ := mem_ready.1 hj
  have hlt := (Array.getElem?_eq_some_iff.1 hoj).1
  have h1 := List.all_eq_true.1 hsk j (List.mem_range.2 hlt)
  simp only [Bool.or_eq_true] at h1
  rcases h1 with (h1 | h1) | h1
  · have := hmono j h1
    rw [getD_both hju] at this; cases this
  · simpa using h1
  · exact absurd hj (waits_spec inv.closed hun _ _ (List.all_eq_true.1 h1 i hh)).2

theorem HeadQ_first {hs : List Nat} {listed0 : Array Bool} {i : Nat} {oi : Oper} {v : Value} {Lq : Array Bool → Act → Prop} (hi : ops[i]? = some oi) (hsel : ∀ (j : Nat) (o : Oper) cs b, ops[j]? = some o → o.op ≠ .select cs b)
    (hsk : sinkAll md ops hs listed0 = true) (hh : i ∈ hs) (hdone : ∀ listed a, Lq listed a → ∀ j ∈ hs, listed.getD j false = true) :
    ∀ (f : Nat) (listed : Array Bool) (a : Act), Inv md ops hs listed0 listed → (∀ j, listed0.getD j false = true → listed.getD j false = true) →
      (∀ j oj, ops[j]? = some oj → j ≠ i → listed.getD j true = false → (∀ e ∈ oj.after, Region.binds md e = true → e.on ≠ i) → oi.apart ops oj = true) →
      i ∈ Region.ready md ops listed → YieldsIn P ops C oi v a →
      HeadQ P md ops C Lq f (listed.setIfInBounds i true) (a.put oi.dst v) → HeadQ P md ops C Lq (f + 1) listed a := by
  intro f
  induction f with
  | zero =>
    intro listed a inv hm _ hr hy H
    have hun := getD_both (mem_ready.1 hr).1
    refine ⟨fun h => (by rw [h] at hr; cases hr), fun j hj => ?_⟩
    have hjh := inv.ready hm hsk hh hun j hj
    by_cases hji : j = i
    · subst hji; exact hy.qOp hi H
    · have h1 := hdone _ _ H j hjh
      rw [getD_set_ne false (Ne.symm hji)] at h1
      have := getD_both (mem_ready.1 hj).1
      rw [h1] at this; cases this
  | succ f ih =>
    intro listed a inv hm hfree hr hy H
    have hun := getD_both (mem_ready.1 hr).1
    refine ⟨fun h => (by rw [h] at hr; cases hr), fun j hj => ?_⟩
    have hjh := inv.ready hm hsk hh hun j hj
    by_cases hji : j = i
    · subst hji; exact hy.qOp hi H
    · have h1 := H.2 j (ready_mono hj hji)
      obtain ⟨hjun, oj, hoj, hall⟩ := mem_ready.1 hj
      have hnot : ∀ e ∈ oj.after, Region.binds md e = true → e.on ≠ i := fun e he hb heq => by
        have h1 := hall e he hb
        rw [heq, hun] at h1
        cases h1
      have h2 := qOp_put hoj (hfree j oj hoj hji hjun hnot) (fun cs b => hsel i oi cs b hi) (fun cs b => hsel j oj cs b hoj) hy h1
      have hfree' : ∀ k ok, ops[k]? = some ok → k ≠ i → (listed.setIfInBounds j true).getD k true = false →
          (∀ e ∈ ok.after, Region.binds md e = true → e.on ≠ i) → oi.apart ops ok = true := fun k ok hk hki hun hno => by
        refine hfree k ok hk hki ?_ hno
        by_cases hjk : j = k
        · subst hjk; exact hjun
        · rw [getD_set_ne true hjk] at hun; exact hun
      refine qOp_mono (fun a' h3 => ih (listed.setIfInBounds j true) a' (inv.set hj hjh) (fun k hk => getD_set_true (hm k hk)) hfree' (ready_mono hr (Ne.symm hji)) h3.1 ?_) h2
      rw [Array.setIfInBounds_comm _ _ hji]
      exact h3.2

/-- The list with these marked. -/
def marks (listed : Array Bool) : List Nat → Array Bool
  | [] => listed
  | i :: is => marks (listed.setIfInBounds i true) is
def takesB (md : Region.Mode) (ops : Array Oper) : List Nat → Array Bool → Bool
  | [], _ => true
  | i :: is, listed => (Region.ready md ops listed).contains i && Region.free md ops listed i && takesB md ops is (listed.setIfInBounds i true)
def onesB (md : Region.Mode) (ops : Array Oper) : List Nat → Array Bool → Bool
  | [], _ => true
  | i :: is, listed => decide (Region.ready md ops listed = [i]) && onesB md ops is (listed.setIfInBounds i true)
/-- These operations, out of a region's. -/
def at_ (os : List Oper) (i : Nat) : Oper := os.getD i { op := .assign (.const .nilIface), dst := none, guard := none, after := #[], type := 0, pos := "" }
theorem at_some {os : List Oper} {i : Nat} {listed : Array Bool} (h : i ∈ Region.ready md os.toArray listed) : os.toArray[i]? = some (at_ os i) := by
  obtain ⟨_, o, ho, _⟩ := mem_ready.1 h
  rw [ho]
  have h2 : os[i]? = some o := by simpa using ho
  unfold at_
  rw [List.getD_eq_getElem?_getD, h2]; rfl

theorem marks_size : ∀ (js : List Nat) (listed : Array Bool), (marks listed js).size = listed.size
  | [], _ => rfl
  | i :: is, listed => by rw [marks, marks_size is]; simp

def wpPure (P : Program) (ops : Array Oper) (K : Act → Prop) : List Oper → Act → Prop
  | [], a => K a
  | o :: rest, a => ∃ v, Yields P ops o v a ∧ wpPure P ops K rest (a.put o.dst v)
/-- Q, but never at a panic. -/
def NP (Q : Exit → Act → World → Prop) : Exit → Act → World → Prop
  | .panic _, _, _ => False
  | e, a, w => Q e a w
theorem NP.imp {Q : Exit → Act → World → Prop} : ∀ (e : Exit) (a : Act) (w : World), NP Q e a w → Q e a w := fun e a w h => by
  cases e <;> first | exact h | exact (h : False).elim
/-- Q, but K where the operations have come to their end. -/
def RQ (K : Act → World → Prop) (Q : Exit → Act → World → Prop) : Exit → Act → World → Prop
  | .normal, a, w => K a w
  | e, a, w => Q e a w
theorem RQ.out {K : Act → World → Prop} {Q : Exit → Act → World → Prop} (h : LetsOut (RQ K Q)) : LetsOut Q := h
theorem wpRQ {K K' : Act → World → Prop} {Q : Exit → Act → World → Prop} {o : Oper} {a : Act} {w : World} (h : o.wp P a w K' (RQ K Q)) : o.wp P a w K' Q := by
  unfold Oper.wp at *
  generalize (execOp a.eval o).run P w = r at *
  cases r with
  | ok n w' =>
    cases n <;> simp only [Oper.upon] at h ⊢ <;>
      first
        | exact h
        | exact Calls.mono h (fun e w'' he => by cases e <;> first | exact he | exact RQ.out he)
  | halt x w' => cases x <;> simp only [Oper.upon] at h ⊢ <;> exact h
theorem any_of_pure {Q : Exit → Act → World → Prop} {os : List Oper} {K : Act → Prop} {w : World} {g : Nat} (hsel : Region.noSelect os.toArray = true) : ∀ (js : List Nat) (listed : Array Bool) (a : Act), takesB .any os.toArray js listed = true →
    wpPure P os.toArray K (js.map (at_ os)) a → (∀ a, K a → wpAny P .any os.toArray (NP Q) g (marks listed js) a w) → wpAny P .any os.toArray (NP Q) (js.length + g) listed a w
  | [], listed, a, _, h, hK => by simpa [marks] using hK a h
  | i :: is, listed, a, hB, h, hK => by
    simp only [takesB, Bool.and_eq_true] at hB
    obtain ⟨⟨hr, hf⟩, hB'⟩ := hB
    obtain ⟨v, hy, h'⟩ := h
    have hr' : i ∈ Region.ready .any os.toArray listed := by simpa using hr
    rw [List.length_cons, show is.length + 1 + g = (is.length + g) + 1 by omega]
    exact wpAny_take (at_some hr') hsel hf hr (fun c a w hh => hh) hy (any_of_pure hsel is _ _ hB' h' hK)
theorem any_of_ones {Q : Exit → Act → World → Prop} {os : List Oper} {K : Act → World → Prop} {g : Nat} : ∀ (js : List Nat) (listed : Array Bool) (a : Act) (w : World), onesB .any os.toArray js listed = true →
    wpList P os.toArray (RQ K Q) (js.map (at_ os)) a w → (∀ a w, K a w → wpAny P .any os.toArray Q g (marks listed js) a w) → wpAny P .any os.toArray Q (js.length + g) listed a w
  | [], listed, a, w, _, h, hK => by simpa [marks] using hK a w h
  | i :: is, listed, a, w, hB, h, hK => by
    simp only [onesB, Bool.and_eq_true, decide_eq_true_eq] at hB
    rw [List.length_cons, show is.length + 1 + g = (is.length + g) + 1 by omega]
    refine ⟨fun h1 => (by rw [hB.1] at h1; cases h1), fun j hj => ?_⟩
    have ho := at_some hj
    rw [hB.1] at hj
    have hji : j = i := by simpa using hj
    subst hji
    have hw : wpOp P os.toArray Q j (wpList P os.toArray (RQ K Q) (is.map (at_ os))) a w := by
      unfold wpOp
      simp only [ho]
      have h2 : wpList P os.toArray (RQ K Q) (at_ os j :: is.map (at_ os)) a w := h
      unfold wpList at h2
      split
      · rename_i hwd
        rw [if_pos hwd] at h2
        exact h2.imp wpRQ (fun h => ⟨h.1, RQ.out h.2⟩)
      · rename_i hwd
        rw [if_neg hwd] at h2
        exact h2
    exact wpOp_mono (fun a' w' h' => any_of_ones is _ a' w' hB.2 h' hK) hw
theorem HeadQ_list {os : List Oper} {C : World → Prop} {hs : List Nat} {listed0 : Array Bool} {Lq : Act → Prop} (hsel : Region.noSelect os.toArray = true) (hsk : sinkAll .any os.toArray hs listed0 = true) :
    ∀ (js : List Nat) (listed : Array Bool) (a : Act), (∀ j ∈ js, j ∈ hs) → Inv .any os.toArray hs listed0 listed → (∀ j, listed0.getD j false = true → listed.getD j false = true) → (∀ j ∈ hs, j ∈ js ∨ listed.getD j false = true) →
    takesB .any os.toArray js listed = true → wpQuiet P os.toArray C Lq (js.map (at_ os)) a →
    HeadQ P .any os.toArray C (fun listed' a' => (∀ j ∈ hs, listed'.getD j false = true) ∧ Inv .any os.toArray hs listed0 listed' ∧ (∀ j, listed0.getD j false = true → listed'.getD j false = true) ∧ Lq a') js.length listed a
  | [], listed, a, _, inv, hm, hd, _, h => ⟨fun j hj => (hd j hj).resolve_left (by simp), inv, hm, h⟩
  | i :: is, listed, a, hj, inv, hm, hd, hB, h => by
    simp only [takesB, Bool.and_eq_true] at hB
    obtain ⟨⟨hr, hf⟩, hB'⟩ := hB
    have hr' : i ∈ Region.ready .any os.toArray listed := by simpa using hr
    have h0 := at_some hr'
    have hst : qOp P os.toArray C i (wpQuiet P os.toArray C Lq (is.map (at_ os))) a := by unfold qOp; simp only [h0]; exact h
    obtain ⟨v, hy, hK⟩ := yieldsIn_of_qOp h0 hst
    have hih := hj i (by simp)
    refine HeadQ_first (hs := hs) (listed0 := listed0) h0 (Region.noSelect_spec hsel) hsk hih (fun _ _ h j hj => h.1 j hj) is.length listed a inv hm (Region.free_spec h0 hf) hr' hy ?_
    have := HeadQ_list hsel hsk is (listed.setIfInBounds i true) (a.put (at_ os i).dst v) (fun j h => hj j (by simp [h])) (inv.set hr' hih) (fun j h => getD_set_true (hm j h)) (fun j h => by
      rcases hd j h with h1 | h1
      · rcases List.mem_cons.1 h1 with rfl | h1
        · right
          have hlt : j < listed.size := by
            have := (mem_ready.1 hr').1
            rcases Nat.lt_or_ge j listed.size with h' | h'
            · exact h'
            · simp [Array.getElem?_eq_none h'] at this
          simp [hlt]
        · exact .inl h1
      · exact .inr (getD_set_true h1)) hB' hK
    exact this
theorem marks_get : ∀ (js : List Nat) (listed : Array Bool) (j : Nat), (marks listed js).getD j false = true ↔ listed.getD j false = true ∨ (j ∈ js ∧ j < listed.size)
  | [], listed, j => by simp [marks]
  | i :: is, listed, j => by
    rw [marks, marks_get is]
    have hsz : (listed.setIfInBounds i true).size = listed.size := by simp
    rw [hsz]
    by_cases hij : i = j
    · subst hij
      by_cases hlt : i < listed.size
      · simp [hlt]
      · simp [hlt]
    · rw [getD_set_ne false hij]
      have : j ≠ i := fun e => hij e.symm
      simp [this]
theorem marks_eq {hs : List Nat} {listed0 listed : Array Bool} (hl : ∀ j, listed.getD j false = true ↔ listed0.getD j false = true ∨ (j ∈ hs ∧ j < listed0.size)) (hsz : listed.size = listed0.size) : listed = marks listed0 hs := by
  apply Array.ext
  · rw [hsz, marks_size]
  · intro j h1 h2
    have e := (hl j).trans (marks_get hs listed0 j).symm
    rw [Array.getD_eq_getD_getElem?, Array.getD_eq_getD_getElem?, Array.getElem?_eq_getElem h1, Array.getElem?_eq_getElem h2] at e
    simp only [Option.getD_some] at e
    cases ha : listed[j] <;> cases hb : (marks listed0 hs)[j] <;> simp_all

/-! ### The steps -/
variable {Q : Exit → Act → World → Prop} {n : Nat} {p : Nat → Prop} {w0 : World} {o : Oper} {rest os : List Oper} {l : Kn} {L : List Ent} {K : Act → World → Prop}
/-- What is left of a region, of which these are done. -/
def WR (P : Program) (os : List Oper) (Q : Exit → Act → World → Prop) (n : Nat) (p : Nat → Prop) (w0 : World) (g : Nat) (listed : Array Bool) (l : Kn) (L : List Ent) : Prop :=
  ∀ a w, Has n a l → St p w0 w L → wpAny P .any os.toArray (NP Q) g listed a w
def WP (P : Program) (ops : Array Oper) (K : Act → World → Prop) (n : Nat) (p : Nat → Prop) (w0 : World) (rest : List Oper) (l : Kn) (L : List Ent) : Prop :=
  ∀ a, Has n a l → wpPure P ops (fun a' => ∀ w, St p w0 w L → K a' w) rest a
theorem WC.orders {id : Nat} (hm : P.follows .mixedOrders = true) (h : WR P os Q n p w0 os.length (Array.replicate os.length false) l L) : WC P (.region id os.toArray true) Q n p w0 l L := fun a w ha hS =>
  Code.wp_mono NP.imp (wp_region_any hm (by simpa using h a w.drew ha hS.drew))
/-- What is left of the region, as what follows. -/
def Rest (P : Program) (os : List Oper) (Q : Exit → Act → World → Prop) (g : Nat) (listed : Array Bool) : Act → World → Prop := fun a w => wpAny P .any os.toArray (NP Q) g listed a w
theorem WR.first {listed : Array Bool} {g : Nat} (js : List Nat) (hsel : Region.noSelect os.toArray = true) (hB : takesB .any os.toArray js listed = true) (h : WP P os.toArray (Rest P os Q g (marks listed js)) n p w0 (js.map (at_ os)) l L) : WR P os Q n p w0 (js.length + g) listed l L := fun a w ha hS =>
  any_of_pure (K := fun a' => ∀ w, St p w0 w L → Rest P os Q g (marks listed js) a' w) hsel js listed a hB (h a ha) (fun _ h => h w hS)
theorem WR.read {listed : Array Bool} {g : Nat} (js : List Nat) (hsel : Region.noSelect os.toArray = true) (hB : takesB .any os.toArray js listed = true) (hc : closedB .any os.toArray listed = true) (hsk : sinkAll .any os.toArray js listed = true) (hsz : listed.size = os.length)
    (h : WQ P os.toArray (Rest P os Q g (marks listed js)) n p w0 (js.map (at_ os)) l L) : WR P os Q n p w0 (js.length + g) listed l L := fun a w ha hS => by
  have hsz' : listed.size = os.toArray.size := by simpa using hsz
  have H := HeadQ_list (P := P) (C := fun w => St p w0 w L) hsel hsk js listed a (fun _ h => h) ⟨closedB_spec hc, fun _ h => .inl h, hsz'⟩ (fun _ h => h) (fun _ h => .inl h) hB (h a ha)
  refine any_of_HeadQ (g := g) ?_ js.length listed a w hS H
  rintro listed' a' w' hC ⟨h1, inv, hm, hK⟩
  have e : listed' = marks listed js := marks_eq (fun j => by
    constructor
    · intro hj
      rcases inv.only j hj with h2 | h2
      · exact .inl h2
      · refine .inr ⟨h2, ?_⟩
        rcases Nat.lt_or_ge j listed'.size with h' | h'
        · rw [inv.size, ← hsz'] at h'; exact h'
        · simp [Array.getElem?_eq_none h'] at hj
    · rintro (h2 | ⟨h2, _⟩)
      · exact hm j h2
      · exact h1 j h2) (inv.size.trans hsz'.symm)
  rw [e]
  exact hK w' hC
theorem WR.ones {listed : Array Bool} {g : Nat} (js : List Nat) (hB : onesB .any os.toArray js listed = true) (h : WL P os.toArray (RQ (Rest P os Q g (marks listed js)) (NP Q)) n p w0 (js.map (at_ os)) l L) : WR P os Q n p w0 (js.length + g) listed l L := fun a w ha hS =>
  any_of_ones js listed a w hB (h a w ha hS) (fun _ _ h => h)
theorem WR.done {listed : Array Bool} (hB : Region.ready .any os.toArray listed = []) (h : WE Q .normal n p w0 l L) : WR P os Q n p w0 0 listed l L := fun a w ha hS => ⟨hB, h a w ha hS⟩
theorem WP.nil {listed : Array Bool} {g : Nat} (h : WR P os Q n p w0 g listed l L) : WP P os.toArray (Rest P os Q g listed) n p w0 [] l L := fun a ha w hS => h a w ha hS
theorem WQ.nilR {listed : Array Bool} {g : Nat} (h : WR P os Q n p w0 g listed l L) : WQ P os.toArray (Rest P os Q g listed) n p w0 [] l L := fun a ha w hS => h a w ha hS
theorem WL.nilR {listed : Array Bool} {g : Nat} (h : WR P os Q n p w0 g listed l L) : WL P os.toArray (RQ (Rest P os Q g listed) (NP Q)) n p w0 [] l L := fun a w ha hS => h a w ha hS
theorem WP.val {d : Nat} {v : Value} (hv : Val P (fun _ => True) n l o v) (hg : On ops o l) (hd : o.dst = some d) (hn : Nat.blt d n = true)
    (h : WP P ops K n p w0 rest ((d, v) :: l) L) : WP P ops K n p w0 (o :: rest) l L := fun a ha =>
  ⟨v, .inl ⟨hg.ok ha, fun w => hv a w ha trivial⟩, h _ (ha.put_any hd hn v)⟩
theorem WL.as {L' : List Ent} {Q : Exit → Act → World → Prop} (e : L = L') (h : WL P ops Q n p w0 rest l L') : WL P ops Q n p w0 rest l L := e ▸ h
theorem WE.as {L' : List Ent} {e : Exit} (he : L = L') (h : WE Q e n p w0 l L') : WE Q e n p w0 l L := he ▸ h
end
end Go.Proofs.YtmhahajadgkolaaGreatDoor
/- The engine: ranges over maps. -/
namespace Go.Proofs.YtmhahajadgkolaaGreatDoor
open Go.RowKit

section
variable {P : Program} {C : World → Prop} {ops : Array Oper} {Q : Exit → Act → World → Prop} {n : Nat} {p : Nat → Prop} {w0 : World} {o : Oper} {rest : List Oper} {l : Kn} {L : List Ent}
variable {t kt et d : Nat} {x xi : Operand} {K : Value → Prop} {A : Value} {es : Array MapEntry} {m : Value → Option Value}

theorem WL.mapUpdateS {g c : Nat} {xv : Operand} {v : Value} {F : Ent → List Ent} (ho : o.op = .mapUpdate t x xi xv) (hx : ev l x = some (.map (some g))) (hi : ev l xi = some A) (hv : ev l xv = some v) (hu : P.underlying t = some (.map kt et)) (hk : KeyP P kt K) (hA : K A)
    [hL : Loc L g (.obj g (.map es c)) F] (hM : IMap K es m) (hg : On ops o l) (hd : o.dst = none)
    (h : ∀ es' c', IMap K es' (updM m A (some v)) → es'.size = (if (m A).isSome then es.size else es.size + 1) → (MapKept.Stamped es c → MapKept.Stamped es' c') → WL P ops Q n p w0 rest l (F (.obj g (.map es' c')))) : WL P ops Q n p w0 (o :: rest) l L := by
  refine WL.act hg hd fun a w ha hS => ?_
  obtain ⟨A', B', rfl, rfl⟩ := hL.ok
  have hob := (hS.holds (.obj g (.map es c)) (by simp)).1
  obtain ⟨es', c', hr, hM', hsz, hst⟩ := run_mapUpdate (P := P) (A := A) (v := v) (w := w) hu hk hA hob hM
  refine ⟨{ w with heap := w.heap.setIfInBounds g (.map es' c') }, A' ++ .obj g (.map es' c') :: B', .inl ?_, ?_, h es' c' hM' hsz hst⟩
  · have h1 := ha.ev hx; have h2 := ha.ev hi; have h3 := ha.ev hv
    unfold execOp
    simp [ho, h1, h2, h3, hr]
  · exact hS.put (g := g) (e := .obj g (.map es' c')) (hp := ⟨fun _ => ⟨A', B', _, rfl, rfl, rfl⟩⟩) rfl Frm.setObj ⟨by
      have hlt := (Array.getElem?_eq_some_iff.1 hob).1
      simp [hlt], trivial⟩

theorem WL.range {g c : Nat} (ho : o.op = .range t x) (hx : ev l x = some (.map (some g))) (hu : P.underlying t = some (.map kt et)) (hm : Ent.obj g (.map es c) ∈ L) (hg : On ops o l) (hd : o.dst = some d) (hn : Nat.blt d n = true)
    (h : ∀ r, w0.heap.size ≤ r → WL P ops Q n p w0 rest ((d, .pointer (some ⟨r, 0, none⟩)) :: l) (.obj r (.mapIter (some g) c #[] c) :: L)) : WL P ops Q n p w0 (o :: rest) l L := by
  refine WL.op hg hd hn fun a w ha hS => ?_
  have hob := (hS.holds _ hm).1
  refine ⟨_, _, _, ?_, St.newObj (ob := .mapIter (some g) c #[] c) hS trivial, h _ hS.frm.size⟩
  have h1 := ha.ev hx
  unfold execOp
  simp [ho, h1, Instr.range, run_underlying hu, MapKept.run_getObj_map hob, newObj, Sem.run, Result.andThen]
theorem WL.rangeNil (ho : o.op = .range t x) (hx : ev l x = some (.map none)) (hu : P.underlying t = some (.map kt et)) (hg : On ops o l) (hd : o.dst = some d) (hn : Nat.blt d n = true)
    (h : ∀ r, w0.heap.size ≤ r → WL P ops Q n p w0 rest ((d, .pointer (some ⟨r, 0, none⟩)) :: l) (.obj r (.mapIter none 0 #[] 0) :: L)) : WL P ops Q n p w0 (o :: rest) l L := by
  refine WL.op hg hd hn fun a w ha hS => ?_
  refine ⟨_, _, _, ?_, St.newObj (ob := .mapIter none 0 #[] 0) hS trivial, h _ hS.frm.size⟩
  have h1 := ha.ev hx
  unfold execOp
  simp [ho, h1, Instr.range, run_underlying hu, newObj, Sem.run, Result.andThen]

theorem run_choose_next (k : Nat) (hk : 0 < k) (w : World) : ∃ i w', (choose (.mapNext k)).run P w = .ok i w' ∧ i < k ∧ (w' = w ∨ w' = w.drew) := by
  rw [run_choose_drew]
  by_cases h : k ≤ 1
  · exact ⟨0, w, by simp [Question.forced, h], hk, .inl rfl⟩
  · exact ⟨_, w.drew, by simp only [Question.forced, decide_eq_true_eq, h, if_false]; rfl, Nat.mod_lt _ hk, .inr rfl⟩
theorem run_next {r g c ty : Nat} {seen : Array Nat} {w : World} (hi : w.heap[r]? = some (.mapIter (some g) c seen c)) (hm : w.heap[g]? = some (.map es c)) (hst : MapKept.Stamped es c) :
    ((∀ e ∈ es.toList, e.born ∈ seen.toList) ∧ ∃ w', (w' = w ∨ w' = w.drew) ∧ (Instr.next (.pointer (some ⟨r, 0, none⟩)) false ty).run P w = .ok (.tuple #[.bool false]) w') ∨
    ∃ e w', e ∈ es.toList ∧ e.born ∉ seen.toList ∧ (w' = w ∨ w' = w.drew) ∧ (Instr.next (.pointer (some ⟨r, 0, none⟩)) false ty).run P w = .ok (.tuple #[.bool true, e.key, e.val]) { w' with heap := w'.heap.setIfInBounds r (.mapIter (some g) c (seen.push e.born) c) } := by
  have hno : (!seen.isEmpty && !es.isEmpty && es.all fun e => decide (e.born ≥ c)) = false := by
    cases hes : es.isEmpty with
    | true => simp
    | false =>
      have hne : es.toList ≠ [] := by
        intro e
        have : es = #[] := by simpa using e
        rw [this] at hes; simp at hes
      obtain ⟨e, he⟩ := List.exists_mem_of_ne_nil _ hne
      have hlt := hst.1 e he
      have : (es.all fun e => decide (e.born ≥ c)) = false := by
        cases h : es.all fun e => decide (e.born ≥ c) with
        | false => rfl
        | true =>
          have := Array.all_eq_true'.1 h e (by simpa using he)
          simp only [ge_iff_le, decide_eq_true_eq] at this; omega
      rw [this]; simp
  have hold : ((es.filter fun e => !seen.contains e.born).filter fun e => decide (e.born < c)) = es.filter fun e => !seen.contains e.born := by
    apply Array.toList_inj.1
    rw [Array.toList_filter]
    refine List.filter_eq_self.2 fun e he => ?_
    have : e ∈ es.toList := by
      rw [Array.toList_filter] at he
      exact (List.mem_filter.1 he).1
    simpa using hst.1 e this
  have hnew : ((es.filter fun e => !seen.contains e.born).filter fun e => decide (e.born ≥ c)) = #[] := by
    apply Array.toList_inj.1
    rw [Array.toList_filter]
    refine List.filter_eq_nil_iff.2 fun e he => ?_
    have : e ∈ es.toList := by
      rw [Array.toList_filter] at he
      exact (List.mem_filter.1 he).1
    have := hst.1 e this
    simp; omega
  by_cases hall : ∀ e ∈ es.toList, e.born ∈ seen.toList
  · left
    refine ⟨hall, ?_⟩
    have hemp : (es.filter fun e => !seen.contains e.born) = #[] := by
      apply Array.toList_inj.1
      rw [Array.toList_filter]
      refine List.filter_eq_nil_iff.2 fun e he => ?_
      have := hall e he
      simpa using this
    refine ⟨w, .inl rfl, ?_⟩
    rw [hemp] at hold hnew
    simp only [Instr.next, Sem.run_bind]
    rw [show (getObj r).run P w = .ok (.mapIter (some g) c seen c) w by simp [getObj, Sem.run, hi]]
    simp only [Result.andThen_ok, Sem.run_bind, MapKept.run_getObj_map hm, hno, hemp, Bool.false_eq_true, if_false]
    simp [choose, Sem.run, Question.forced]
  · right
    have hne : (es.filter fun e => !seen.contains e.born).isEmpty = false := by
      cases h : (es.filter fun e => !seen.contains e.born).isEmpty with
      | false => rfl
      | true =>
        exfalso
        apply hall
        intro e he
        have h0 : es.filter (fun e => !seen.contains e.born) = #[] := by simpa using h
        have : e ∉ (es.filter fun e => !seen.contains e.born).toList := by rw [h0]; simp
        rw [Array.toList_filter, List.mem_filter] at this
        by_cases hb : e.born ∈ seen.toList
        · exact hb
        · exact absurd ⟨he, by simpa using hb⟩ this
    generalize hLf : (es.filter fun e => !seen.contains e.born) = lf at *
    have hpos : 0 < lf.size := by
      cases hsz : lf.size with
      | zero => have := Array.eq_empty_of_size_eq_zero hsz; rw [this] at hne; simp at hne
      | succ k => omega
    have hcand : ((if lf.isEmpty = true then #[none] else #[]) ++ (lf ++ #[]).map some : Array (Option MapEntry)) = lf.map some := by rw [hne]; simp
    obtain ⟨i, w', hch, hil, hw'⟩ := run_choose_next (P := P) (lf.map some).size (by simpa using hpos) w
    have hil' : i < lf.size := by simpa using hil
    have hget : (lf.map some)[i]? = some (some lf[i]) := by simp [hil']
    have hmem : lf[i] ∈ es.toList ∧ lf[i].born ∉ seen.toList := by
      have h1 : lf[i] ∈ (es.filter fun e => !seen.contains e.born).toList := by rw [hLf]; simp
      rw [Array.toList_filter] at h1
      have h2 := List.mem_filter.1 h1
      exact ⟨h2.1, by simpa using h2.2⟩
    refine ⟨lf[i], w', hmem.1, hmem.2, hw', ?_⟩
    have hi' : w'.heap[r]? = some (.mapIter (some g) c seen c) := by rcases hw' with rfl | rfl <;> exact hi
    simp only [Instr.next, Sem.run_bind]
    rw [show (getObj r).run P w = .ok (.mapIter (some g) c seen c) w by simp [getObj, Sem.run, hi]]
    simp only [Result.andThen_ok, Sem.run_bind, MapKept.run_getObj_map hm, hno, hLf, hold, hnew, Bool.false_eq_true, if_false, hcand, hch, hget]
    simp [setObj, Sem.run, hi']

theorem WL.next {r g c : Nat} {seen : Array Nat} {F : Ent → List Ent} (ho : o.op = .next x false) (hx : ev l x = some (.pointer (some ⟨r, 0, none⟩))) [hL : Loc L r (.obj r (.mapIter (some g) c seen c)) F] (hm : Ent.obj g (.map es c) ∈ L) (hst : MapKept.Stamped es c)
    (hg : On ops o l) (hd : o.dst = some d) (hn : Nat.blt d n = true)
    (hover : (∀ e ∈ es.toList, e.born ∈ seen.toList) → WL P ops Q n p w0 rest ((d, .tuple #[.bool false]) :: l) L)
    (hnext : ∀ e ∈ es.toList, e.born ∉ seen.toList → WL P ops Q n p w0 rest ((d, .tuple #[.bool true, e.key, e.val]) :: l) (F (.obj r (.mapIter (some g) c (seen.push e.born) c)))) : WL P ops Q n p w0 (o :: rest) l L := by
  refine WL.op hg hd hn fun a w ha hS => ?_
  obtain ⟨A', B', rfl, rfl⟩ := hL.ok
  have h1 := ha.ev hx
  have hi := (hS.holds (.obj r (.mapIter (some g) c seen c)) (by simp)).1
  have hob := (hS.holds _ hm).1
  rcases run_next (P := P) (ty := o.type) hi hob hst with ⟨hall, w', hw', hr⟩ | ⟨e, w', he, hb, hw', hr⟩
  · refine ⟨_, w', _, ?_, ?_, hover hall⟩
    · unfold execOp; simp [ho, h1, hr]
    · rcases hw' with rfl | rfl
      · exact hS
      · exact hS.drew
  · have hS' : St p w0 w' (A' ++ .obj r (.mapIter (some g) c seen c) :: B') := by
      rcases hw' with rfl | rfl
      · exact hS
      · exact hS.drew
    refine ⟨_, { w' with heap := w'.heap.setIfInBounds r (.mapIter (some g) c (seen.push e.born) c) }, _, ?_, ?_, hnext e he hb⟩
    · unfold execOp; simp [ho, h1, hr]
    · exact hS'.put (g := r) (e := .obj r (.mapIter (some g) c (seen.push e.born) c)) (hp := ⟨fun _ => ⟨A', B', _, rfl, rfl, rfl⟩⟩) rfl Frm.setObj ⟨by
        have hlt := (Array.getElem?_eq_some_iff.1 (hS'.holds (.obj r (.mapIter (some g) c seen c)) (by simp)).1).1
        simp [hlt], trivial⟩
theorem find_born {es : Array MapEntry} {c : Nat} (hst : MapKept.Stamped es c) {e : MapEntry} (he : e ∈ es.toList) : es.find? (fun x => x.born == e.born) = some e := by
  cases h : es.find? (fun x => x.born == e.born) with
  | none =>
    have := Array.find?_eq_none.1 h e (by simpa using he)
    simp at this
  | some y =>
    have h1 : y ∈ es.toList := by simpa using Array.mem_of_find?_eq_some h
    have h2 : y.born = e.born := by simpa using Array.find?_some h
    obtain ⟨i, hi⟩ := List.mem_iff_getElem?.1 h1
    obtain ⟨j, hj⟩ := List.mem_iff_getElem?.1 he
    have hi' : (es.toList.map (·.born))[i]? = some e.born := by rw [List.getElem?_map, hi]; simp [h2]
    have hj' : (es.toList.map (·.born))[j]? = some e.born := by rw [List.getElem?_map, hj]; rfl
    have : i = j := (List.getElem?_inj (List.getElem?_eq_some_iff.1 hi').1 hst.2.1).1 (by rw [hi', hj'])
    subst this
    rw [hi] at hj; exact hj
theorem v_entry {r g c since : Nat} {seen : Array Nat} {e : MapEntry} (ho : o.op = .entry x) (hx : ev l x = some (.pointer (some ⟨r, 0, none⟩))) (hi : Ent.obj r (.mapIter (some g) since (seen.push e.born) c) ∈ L) (hm : Ent.obj g (.map es c) ∈ L) (hst : MapKept.Stamped es c) (he : e ∈ es.toList) :
    Val P (fun w => St p w0 w L) n l o (.tuple #[e.key, e.val]) := fun a w ha hS => by
  have h1 := ha.ev hx
  have hi' := (hS.holds _ hi).1
  have hm' := (hS.holds _ hm).1
  unfold execOp
  simp only [ho, h1, Instr.entry, Sem.run_bind]
  rw [show (getObj r).run P w = .ok (.mapIter (some g) since (seen.push e.born) c) w by simp [getObj, Sem.run, hi']]
  simp [MapKept.run_getObj_map hm', find_born hst he, Result.andThen]
theorem WE.to {Q : Exit → Act → World → Prop} {e : Exit} {L' : List Ent} (hs : ∀ w, St p w0 w L → St p w0 w L') (h : WE Q e n p w0 l L') : WE Q e n p w0 l L := fun a w ha hS => h a w ha (hs w hS)
theorem WC.to {c : Code} {L' : List Ent} (hs : ∀ w, St p w0 w L → St p w0 w L') (h : WC P c Q n p w0 l L') : WC P c Q n p w0 l L := fun a w ha hS => h a w ha (hs w hS)
theorem WL.to {L' : List Ent} (hs : ∀ w, St p w0 w L → St p w0 w L') (h : WL P ops Q n p w0 rest l L') : WL P ops Q n p w0 rest l L := fun a w ha hS => h a w ha (hs w hS)
end
end Go.Proofs.YtmhahajadgkolaaGreatDoor
/- The closed facts on this program's types and functions that the engine's laws ask for (printed by gen_ty.py). -/
namespace Go.Proofs.YtmhahajadgkolaaGreatDoor
open Go.RowKit
theorem mixed : Tryz.prog.follows .mixedOrders = true := by kernel_rfl
theorem sz_3 : (Tryz.prog.info? 3).map (·.size) = some 1 := by kernel_rfl
theorem one_3 : One Tryz.prog 3 := One.mk Tryz.underlying3 rfl sz_3
theorem zero_3 : Zero Tryz.prog 3 [.int .i64 0] := Zero.mk (z := .int .i64 0) (by kernel_rfl) rfl
theorem sz_4 : (Tryz.prog.info? 4).map (·.size) = some 1 := by kernel_rfl
theorem sz_5 : (Tryz.prog.info? 5).map (·.size) = some 1 := by kernel_rfl
theorem sz_22 : (Tryz.prog.info? 22).map (·.size) = some 1 := by kernel_rfl
theorem one_22 : One Tryz.prog 22 := One.mk Tryz.underlying22 rfl sz_22
theorem sz_23 : (Tryz.prog.info? 23).map (·.size) = some 1 := by kernel_rfl
theorem one_23 : One Tryz.prog 23 := One.mk Tryz.underlying23 rfl sz_23
theorem sz_24 : (Tryz.prog.info? 24).map (·.size) = some 1 := by kernel_rfl
theorem one_24 : One Tryz.prog 24 := One.mk Tryz.underlying24 rfl sz_24
theorem sz_26 : (Tryz.prog.info? 26).map (·.size) = some 5 := by kernel_rfl
theorem by_26 : (Tryz.prog.info? 26).map (·.bytes) = some 56 := by kernel_rfl
theorem many_26 : Many Tryz.prog 26 5 := Many.mk Tryz.underlying26 rfl sz_26
theorem zero_26 : Zero Tryz.prog 26 [.int .i64 0, .int .i64 0, .int .u64 0, .int .u64 0, .slice none 0 0] := Zero.mk (z := .agg #[.int .i64 0, .int .i64 0, .int .u64 0, .int .u64 0, .slice none 0 0]) (by kernel_rfl) rfl
theorem sz_30 : (Tryz.prog.info? 30).map (·.size) = some 1 := by kernel_rfl
theorem one_30 : One Tryz.prog 30 := One.mk Tryz.underlying30 rfl sz_30
theorem sz_32 : (Tryz.prog.info? 32).map (·.size) = some 1 := by kernel_rfl
theorem one_32 : One Tryz.prog 32 := One.mk Tryz.underlying32 rfl sz_32
theorem sz_33 : (Tryz.prog.info? 33).map (·.size) = some 1 := by kernel_rfl
theorem one_33 : One Tryz.prog 33 := One.mk Tryz.underlying33 rfl sz_33
theorem sz_34 : (Tryz.prog.info? 34).map (·.size) = some 1 := by kernel_rfl
theorem one_34 : One Tryz.prog 34 := One.mk Tryz.underlying34 rfl sz_34
theorem sz_35 : (Tryz.prog.info? 35).map (·.size) = some 1 := by kernel_rfl
theorem one_35 : One Tryz.prog 35 := One.mk Tryz.underlying35 rfl sz_35
theorem sz_37 : (Tryz.prog.info? 37).map (·.size) = some 10 := by kernel_rfl
theorem many_37 : Many Tryz.prog 37 10 := Many.mk Tryz.underlying37 rfl sz_37
theorem sz_41 : (Tryz.prog.info? 41).map (·.size) = some 20 := by kernel_rfl
theorem many_41 : Many Tryz.prog 41 20 := Many.mk Tryz.underlying41 rfl sz_41
theorem zero_41 : Zero Tryz.prog 41 [.int .i64 0, .int .i64 0, .int .i64 0, .int .u32 0, .slice none 0 0, .slice none 0 0, .int .i64 0, .int .i64 0, .slice none 0 0, .int .u32 0, .int .i64 0, .int .i64 0, .int .i64 0, .int .u32 0, .slice none 0 0, .slice none 0 0, .slice none 0 0, .int .i64 0, .int .i64 0, .string ⟨#[]⟩] := Zero.mk (z := .agg #[.int .i64 0, .int .i64 0, .int .i64 0, .int .u32 0, .slice none 0 0, .slice none 0 0, .int .i64 0, .int .i64 0, .slice none 0 0, .int .u32 0, .int .i64 0, .int .i64 0, .int .i64 0, .int .u32 0, .slice none 0 0, .slice none 0 0, .slice none 0 0, .int .i64 0, .int .i64 0, .string ⟨#[]⟩]) (by kernel_rfl) rfl
theorem zero_43 : Zero Tryz.prog 43 [.int .i64 0, .int .i64 0, .int .i64 0, .bool false, .int .i64 0, .int .i64 0, .int .i64 0, .int .u32 0, .slice none 0 0, .slice none 0 0, .int .i64 0, .int .i64 0, .slice none 0 0, .int .u32 0, .int .i64 0, .int .i64 0, .int .i64 0, .int .u32 0, .slice none 0 0, .slice none 0 0, .slice none 0 0, .int .i64 0, .int .i64 0, .string ⟨#[]⟩, .int .i64 0, .int .i64 0, .int .u64 0, .int .u64 0, .slice none 0 0, .int .i64 0, .int .i64 0, .int .u64 0, .int .u64 0, .slice none 0 0] := Zero.mk (z := .agg #[.int .i64 0, .int .i64 0, .int .i64 0, .bool false, .int .i64 0, .int .i64 0, .int .i64 0, .int .u32 0, .slice none 0 0, .slice none 0 0, .int .i64 0, .int .i64 0, .slice none 0 0, .int .u32 0, .int .i64 0, .int .i64 0, .int .i64 0, .int .u32 0, .slice none 0 0, .slice none 0 0, .slice none 0 0, .int .i64 0, .int .i64 0, .string ⟨#[]⟩, .int .i64 0, .int .i64 0, .int .u64 0, .int .u64 0, .slice none 0 0, .int .i64 0, .int .i64 0, .int .u64 0, .int .u64 0, .slice none 0 0]) (by kernel_rfl) rfl
theorem sz_48 : (Tryz.prog.info? 48).map (·.size) = some 1 := by kernel_rfl
theorem one_48 : One Tryz.prog 48 := One.mk Tryz.underlying48 rfl sz_48
theorem sz_49 : (Tryz.prog.info? 49).map (·.size) = some 1 := by kernel_rfl
theorem one_49 : One Tryz.prog 49 := One.mk Tryz.underlying49 rfl sz_49
theorem sz_51 : (Tryz.prog.info? 51).map (·.size) = some 6 := by kernel_rfl
theorem many_51 : Many Tryz.prog 51 6 := Many.mk Tryz.underlying51 rfl sz_51
theorem zero_51 : Zero Tryz.prog 51 [.int .i64 0, .slice none 0 0, .slice none 0 0, .int .i64 0, .int .i64 0, .int .i64 0] := Zero.mk (z := .agg #[.int .i64 0, .slice none 0 0, .slice none 0 0, .int .i64 0, .int .i64 0, .int .i64 0]) (by kernel_rfl) rfl
theorem sz_54 : (Tryz.prog.info? 54).map (·.size) = some 1 := by kernel_rfl
theorem by_54 : (Tryz.prog.info? 54).map (·.bytes) = some 24 := by kernel_rfl
theorem one_54 : One Tryz.prog 54 := One.mk Tryz.underlying54 rfl sz_54
theorem zero_54 : Zero Tryz.prog 54 [.slice none 0 0] := Zero.mk (z := .slice none 0 0) (by kernel_rfl) rfl
theorem sz_63 : (Tryz.prog.info? 63).map (·.size) = some 1 := by kernel_rfl
theorem one_63 : One Tryz.prog 63 := One.mk Tryz.underlying63 rfl sz_63
theorem sz_71 : (Tryz.prog.info? 71).map (·.size) = some 1 := by kernel_rfl
theorem one_71 : One Tryz.prog 71 := One.mk Tryz.underlying71 rfl sz_71
theorem sz_72 : (Tryz.prog.info? 72).map (·.size) = some 1 := by kernel_rfl
theorem one_72 : One Tryz.prog 72 := One.mk Tryz.underlying72 rfl sz_72
theorem sz_74 : (Tryz.prog.info? 74).map (·.size) = some 6 := by kernel_rfl
theorem many_74 : Many Tryz.prog 74 6 := Many.mk Tryz.underlying74 rfl sz_74
theorem zero_74 : Zero Tryz.prog 74 [.slice none 0 0, .slice none 0 0, .slice none 0 0, .slice none 0 0, .slice none 0 0, .slice none 0 0] := Zero.mk (z := .agg #[.slice none 0 0, .slice none 0 0, .slice none 0 0, .slice none 0 0, .slice none 0 0, .slice none 0 0]) (by kernel_rfl) rfl
theorem sz_75 : (Tryz.prog.info? 75).map (·.size) = some 1 := by kernel_rfl
theorem one_75 : One Tryz.prog 75 := One.mk Tryz.underlying75 rfl sz_75
theorem sz_76 : (Tryz.prog.info? 76).map (·.size) = some 1 := by kernel_rfl
theorem one_76 : One Tryz.prog 76 := One.mk Tryz.underlying76 rfl sz_76
theorem sz_77 : (Tryz.prog.info? 77).map (·.size) = some 1 := by kernel_rfl
theorem one_77 : One Tryz.prog 77 := One.mk Tryz.underlying77 rfl sz_77
theorem zero_79 : Zero Tryz.prog 79 [.pointer none, .pointer none, .int .i64 0, .slice none 0 0, .slice none 0 0, .slice none 0 0, .slice none 0 0, .slice none 0 0, .slice none 0 0, .pointer none, .pointer none, .slice none 0 0, .int .i64 0] := Zero.mk (z := .agg #[.pointer none, .pointer none, .int .i64 0, .slice none 0 0, .slice none 0 0, .slice none 0 0, .slice none 0 0, .slice none 0 0, .slice none 0 0, .pointer none, .pointer none, .slice none 0 0, .int .i64 0]) (by kernel_rfl) rfl
theorem sz_82 : (Tryz.prog.info? 82).map (·.size) = some 2 := by kernel_rfl
theorem many_82 : Many Tryz.prog 82 2 := Many.mk Tryz.underlying82 rfl sz_82
theorem zero_82 : Zero Tryz.prog 82 [.int .u32 0, .int .i64 0] := Zero.mk (z := .agg #[.int .u32 0, .int .i64 0]) (by kernel_rfl) rfl
theorem sz_93 : (Tryz.prog.info? 93).map (·.size) = some 6 := by kernel_rfl
theorem by_93 : (Tryz.prog.info? 93).map (·.bytes) = some 6 := by kernel_rfl
theorem many_93 : Many Tryz.prog 93 6 := Many.mk Tryz.underlying93 rfl sz_93
theorem zero_93 : Zero Tryz.prog 93 [.int .u8 0, .int .u8 0, .int .u8 0, .int .u8 0, .int .u8 0, .int .u8 0] := Zero.mk (z := .agg #[.int .u8 0, .int .u8 0, .int .u8 0, .int .u8 0, .int .u8 0, .int .u8 0]) (by kernel_rfl) rfl
theorem sz_133 : (Tryz.prog.info? 133).map (·.size) = some 1 := by kernel_rfl
theorem by_133 : (Tryz.prog.info? 133).map (·.bytes) = some 8 := by kernel_rfl
theorem one_133 : One Tryz.prog 133 := One.mk Tryz.underlying133 rfl sz_133
theorem zero_133 : Zero Tryz.prog 133 [.map none] := Zero.mk (z := .map none) (by kernel_rfl) rfl
theorem sz_135 : (Tryz.prog.info? 135).map (·.size) = some 1 := by kernel_rfl
theorem sz_137 : (Tryz.prog.info? 137).map (·.size) = some 2 := by kernel_rfl
theorem by_137 : (Tryz.prog.info? 137).map (·.bytes) = some 16 := by kernel_rfl
theorem many_137 : Many Tryz.prog 137 2 := Many.mk Tryz.underlying137 rfl sz_137
theorem zero_137 : Zero Tryz.prog 137 [.int .i64 0, .int .u32 0] := Zero.mk (z := .agg #[.int .i64 0, .int .u32 0]) (by kernel_rfl) rfl
theorem sz_143 : (Tryz.prog.info? 143).map (·.size) = some 1 := by kernel_rfl
theorem sz_145 : (Tryz.prog.info? 145).map (·.size) = some 1 := by kernel_rfl
theorem one_145 : One Tryz.prog 145 := One.mk Tryz.underlying145 rfl sz_145
theorem zero_147 : Zero Tryz.prog 147 [.slice none 0 0, .pointer none] := Zero.mk (z := .agg #[.slice none 0 0, .pointer none]) (by kernel_rfl) rfl
theorem sz_148 : (Tryz.prog.info? 148).map (·.size) = some 1 := by kernel_rfl
theorem by_148 : (Tryz.prog.info? 148).map (·.bytes) = some 8 := by kernel_rfl
theorem one_148 : One Tryz.prog 148 := One.mk Tryz.underlying148 rfl sz_148
theorem zero_148 : Zero Tryz.prog 148 [.pointer none] := Zero.mk (z := .pointer none) (by kernel_rfl) rfl
theorem sz_149 : (Tryz.prog.info? 149).map (·.size) = some 1 := by kernel_rfl
theorem one_149 : One Tryz.prog 149 := One.mk Tryz.underlying149 rfl sz_149
theorem sz_151 : (Tryz.prog.info? 151).map (·.size) = some 1 := by kernel_rfl
theorem sz_152 : (Tryz.prog.info? 152).map (·.size) = some 1 := by kernel_rfl
theorem zero_154 : Zero Tryz.prog 154 [.int .i64 0, .int .u32 0, .bool false, .pointer none, .map none, .map none] := Zero.mk (z := .agg #[.int .i64 0, .int .u32 0, .bool false, .pointer none, .map none, .map none]) (by kernel_rfl) rfl
theorem sz_170 : (Tryz.prog.info? 170).map (·.size) = some 1 := by kernel_rfl
theorem one_170 : One Tryz.prog 170 := One.mk Tryz.underlying170 rfl sz_170
theorem zero_170 : Zero Tryz.prog 170 [.slice none 0 0] := Zero.mk (z := .slice none 0 0) (by kernel_rfl) rfl
theorem sz_183 : (Tryz.prog.info? 183).map (·.size) = some 1 := by kernel_rfl
theorem one_183 : One Tryz.prog 183 := One.mk Tryz.underlying183 rfl sz_183
theorem sz_185 : (Tryz.prog.info? 185).map (·.size) = some 4 := by kernel_rfl
theorem zero_187 : Zero Tryz.prog 187 [.pointer none, .int .i64 0, .int .i64 0, .int .i64 0, .int .i64 0, .int .i64 0] := Zero.mk (z := .agg #[.pointer none, .int .i64 0, .int .i64 0, .int .i64 0, .int .i64 0, .int .i64 0]) (by kernel_rfl) rfl
theorem sz_206 : (Tryz.prog.info? 206).map (·.size) = some 1 := by kernel_rfl
theorem sz_207 : (Tryz.prog.info? 207).map (·.size) = some 1 := by kernel_rfl
theorem one_207 : One Tryz.prog 207 := One.mk Tryz.underlying207 rfl sz_207
theorem zero_209 : Zero Tryz.prog 209 [.int .i64 0, .map none, .map none] := Zero.mk (z := .agg #[.int .i64 0, .map none, .map none]) (by kernel_rfl) rfl
theorem sz_213 : (Tryz.prog.info? 213).map (·.size) = some 1 := by kernel_rfl
theorem zero_215 : Zero Tryz.prog 215 [.nilFunc, .map none] := Zero.mk (z := .agg #[.nilFunc, .map none]) (by kernel_rfl) rfl
theorem sz_218 : (Tryz.prog.info? 218).map (·.size) = some 9 := by kernel_rfl
theorem by_218 : (Tryz.prog.info? 218).map (·.bytes) = some 72 := by kernel_rfl
theorem many_218 : Many Tryz.prog 218 9 := Many.mk Tryz.underlying218 rfl sz_218
theorem zero_218 : Zero Tryz.prog 218 [.int .u64 0, .int .u64 0, .int .u64 0, .int .u64 0, .int .u64 0, .int .u64 0, .int .u64 0, .int .u64 0, .int .u64 0] := Zero.mk (z := .agg #[.int .u64 0, .int .u64 0, .int .u64 0, .int .u64 0, .int .u64 0, .int .u64 0, .int .u64 0, .int .u64 0, .int .u64 0]) (by kernel_rfl) rfl
theorem sz_220 : (Tryz.prog.info? 220).map (·.size) = some 18 := by kernel_rfl
theorem many_220 : Many Tryz.prog 220 18 := Many.mk Tryz.underlying220 rfl sz_220
theorem zero_220 : Zero Tryz.prog 220 [.int .u64 0, .int .u64 0, .int .u64 0, .int .u64 0, .int .u64 0, .int .u64 0, .int .u64 0, .int .u64 0, .int .u64 0, .int .u64 0, .int .u64 0, .int .u64 0, .int .u64 0, .int .u64 0, .int .u64 0, .int .u64 0, .int .u64 0, .int .u64 0] := Zero.mk (z := .agg #[.int .u64 0, .int .u64 0, .int .u64 0, .int .u64 0, .int .u64 0, .int .u64 0, .int .u64 0, .int .u64 0, .int .u64 0, .int .u64 0, .int .u64 0, .int .u64 0, .int .u64 0, .int .u64 0, .int .u64 0, .int .u64 0, .int .u64 0, .int .u64 0]) (by kernel_rfl) rfl
theorem sz_221 : (Tryz.prog.info? 221).map (·.size) = some 1 := by kernel_rfl
theorem one_221 : One Tryz.prog 221 := One.mk Tryz.underlying221 rfl sz_221
theorem sz_223 : (Tryz.prog.info? 223).map (·.size) = some 19 := by kernel_rfl
theorem by_223 : (Tryz.prog.info? 223).map (·.bytes) = some 168 := by kernel_rfl
theorem many_223 : Many Tryz.prog 223 19 := Many.mk Tryz.underlying223 rfl sz_223
theorem zero_223 : Zero Tryz.prog 223 [.int .u64 0, .int .u64 0, .int .u64 0, .int .u64 0, .int .u64 0, .int .u64 0, .int .u64 0, .int .u64 0, .int .u64 0, .int .u64 0, .int .u64 0, .int .u64 0, .int .u64 0, .int .u64 0, .int .u64 0, .int .u64 0, .int .u64 0, .int .u64 0, .slice none 0 0] := Zero.mk (z := .agg #[.int .u64 0, .int .u64 0, .int .u64 0, .int .u64 0, .int .u64 0, .int .u64 0, .int .u64 0, .int .u64 0, .int .u64 0, .int .u64 0, .int .u64 0, .int .u64 0, .int .u64 0, .int .u64 0, .int .u64 0, .int .u64 0, .int .u64 0, .int .u64 0, .slice none 0 0]) (by kernel_rfl) rfl
theorem sz_225 : (Tryz.prog.info? 225).map (·.size) = some 10 := by kernel_rfl
theorem by_225 : (Tryz.prog.info? 225).map (·.bytes) = some 80 := by kernel_rfl
theorem many_225 : Many Tryz.prog 225 10 := Many.mk Tryz.underlying225 rfl sz_225
theorem zero_225 : Zero Tryz.prog 225 [.int .i64 0, .int .u64 0, .int .u64 0, .int .u64 0, .int .u64 0, .int .u64 0, .int .u64 0, .int .u64 0, .int .u64 0, .int .u64 0] := Zero.mk (z := .agg #[.int .i64 0, .int .u64 0, .int .u64 0, .int .u64 0, .int .u64 0, .int .u64 0, .int .u64 0, .int .u64 0, .int .u64 0, .int .u64 0]) (by kernel_rfl) rfl
theorem sz_231 : (Tryz.prog.info? 231).map (·.size) = some 1 := by kernel_rfl
theorem one_231 : One Tryz.prog 231 := One.mk Tryz.underlying231 rfl sz_231
theorem sz_233 : (Tryz.prog.info? 233).map (·.size) = some 3 := by kernel_rfl
theorem many_233 : Many Tryz.prog 233 3 := Many.mk Tryz.underlying233 rfl sz_233
theorem zero_233 : Zero Tryz.prog 233 [.slice none 0 0, .slice none 0 0, .slice none 0 0] := Zero.mk (z := .agg #[.slice none 0 0, .slice none 0 0, .slice none 0 0]) (by kernel_rfl) rfl
theorem sz_240 : (Tryz.prog.info? 240).map (·.size) = some 256 := by kernel_rfl
theorem sz_243 : (Tryz.prog.info? 243).map (·.size) = some 1 := by kernel_rfl
theorem one_243 : One Tryz.prog 243 := One.mk Tryz.underlying243 rfl sz_243
theorem zero_246 : Zero Tryz.prog 246 [.int .i64 0, .int .i64 0, .int .i64 0, .pointer none] := Zero.mk (z := .agg #[.int .i64 0, .int .i64 0, .int .i64 0, .pointer none]) (by kernel_rfl) rfl
theorem sz_248 : (Tryz.prog.info? 248).map (·.size) = some 0 := by kernel_rfl
theorem many_248 : Many Tryz.prog 248 0 := Many.mk Tryz.underlying248 rfl sz_248
theorem zero_248 : Zero Tryz.prog 248 [] := Zero.mk (z := .agg #[]) (by kernel_rfl) rfl
theorem zero_279 : Zero Tryz.prog 279 [.int .i64 0, .slice none 0 0] := Zero.mk (z := .agg #[.int .i64 0, .slice none 0 0]) (by kernel_rfl) rfl
theorem sz_305 : (Tryz.prog.info? 305).map (·.size) = some 2 := by kernel_rfl
theorem many_305 : Many Tryz.prog 305 2 := Many.mk Tryz.underlying305 rfl sz_305
theorem zero_305 : Zero Tryz.prog 305 [.int .i64 0, .int .i64 0] := Zero.mk (z := .agg #[.int .i64 0, .int .i64 0]) (by kernel_rfl) rfl
theorem sz_326 : (Tryz.prog.info? 326).map (·.size) = some 21 := by kernel_rfl
theorem by_326 : (Tryz.prog.info? 326).map (·.bytes) = some 184 := by kernel_rfl
theorem zero_326 : Zero Tryz.prog 326 [.int .i64 0, .int .i64 0, .int .u64 0, .int .u64 0, .int .u64 0, .int .u64 0, .int .u64 0, .int .u64 0, .int .u64 0, .int .u64 0, .int .u64 0, .int .u64 0, .int .u64 0, .int .u64 0, .int .u64 0, .int .u64 0, .int .u64 0, .int .u64 0, .int .u64 0, .int .u64 0, .slice none 0 0] := Zero.mk (z := .agg #[.int .i64 0, .int .i64 0, .int .u64 0, .int .u64 0, .int .u64 0, .int .u64 0, .int .u64 0, .int .u64 0, .int .u64 0, .int .u64 0, .int .u64 0, .int .u64 0, .int .u64 0, .int .u64 0, .int .u64 0, .int .u64 0, .int .u64 0, .int .u64 0, .int .u64 0, .int .u64 0, .slice none 0 0]) (by kernel_rfl) rfl
theorem sz_331 : (Tryz.prog.info? 331).map (·.size) = some 1 := by kernel_rfl
theorem one_331 : One Tryz.prog 331 := One.mk Tryz.underlying331 rfl sz_331
theorem zero_333 : Zero Tryz.prog 333 [.pointer none, .int .i64 0, .int .i64 0] := Zero.mk (z := .agg #[.pointer none, .int .i64 0, .int .i64 0]) (by kernel_rfl) rfl
theorem sz_374 : (Tryz.prog.info? 374).map (·.size) = some 1 := by kernel_rfl
theorem one_374 : One Tryz.prog 374 := One.mk Tryz.underlying374 rfl sz_374
theorem zero_374 : Zero Tryz.prog 374 [.nilFunc] := Zero.mk (z := .nilFunc) (by kernel_rfl) rfl
theorem sz_382 : (Tryz.prog.info? 382).map (·.size) = some 1 := by kernel_rfl
theorem one_382 : One Tryz.prog 382 := One.mk Tryz.underlying382 rfl sz_382
theorem sz_383 : (Tryz.prog.info? 383).map (·.size) = some 1 := by kernel_rfl
theorem one_383 : One Tryz.prog 383 := One.mk Tryz.underlying383 rfl sz_383
theorem zero_385 : Zero Tryz.prog 385 [.int .i64 0, .int .i64 0, .slice none 0 0, .slice none 0 0, .map none, .int .i64 0] := Zero.mk (z := .agg #[.int .i64 0, .int .i64 0, .slice none 0 0, .slice none 0 0, .map none, .int .i64 0]) (by kernel_rfl) rfl
theorem fld_26_0 : FieldAt Tryz.prog 26 0 0 3 := FieldAt.mk Tryz.underlying26 rfl rfl rfl sz_3
theorem fld_26_1 : FieldAt Tryz.prog 26 1 1 22 := FieldAt.mk Tryz.underlying26 rfl rfl rfl sz_22
theorem fld_26_2 : FieldAt Tryz.prog 26 2 2 23 := FieldAt.mk Tryz.underlying26 rfl rfl rfl sz_23
theorem fld_26_3 : FieldAt Tryz.prog 26 3 3 23 := FieldAt.mk Tryz.underlying26 rfl rfl rfl sz_23
theorem fld_26_4 : FieldAt Tryz.prog 26 4 4 24 := FieldAt.mk Tryz.underlying26 rfl rfl rfl sz_24
theorem fld_37_2 : FieldAt Tryz.prog 37 2 2 33 := FieldAt.mk Tryz.underlying37 rfl rfl rfl sz_33
theorem fld_37_8 : FieldAt Tryz.prog 37 8 8 34 := FieldAt.mk Tryz.underlying37 rfl rfl rfl sz_34
theorem fld_37_9 : FieldAt Tryz.prog 37 9 9 35 := FieldAt.mk Tryz.underlying37 rfl rfl rfl sz_35
theorem fld_41_5 : FieldAt Tryz.prog 41 5 5 32 := FieldAt.mk Tryz.underlying41 rfl rfl rfl sz_32
theorem fld_41_6 : FieldAt Tryz.prog 41 6 6 37 := FieldAt.mk Tryz.underlying41 rfl rfl rfl sz_37
theorem fld_41_7 : FieldAt Tryz.prog 41 7 16 32 := FieldAt.mk Tryz.underlying41 rfl rfl rfl sz_32
theorem fld_43_4 : FieldAt Tryz.prog 43 4 4 41 := FieldAt.mk Tryz.underlying43 rfl rfl rfl sz_41
theorem fld_43_5 : FieldAt Tryz.prog 43 5 24 26 := FieldAt.mk Tryz.underlying43 rfl rfl rfl sz_26
theorem fld_43_6 : FieldAt Tryz.prog 43 6 29 26 := FieldAt.mk Tryz.underlying43 rfl rfl rfl sz_26
theorem fld_51_0 : FieldAt Tryz.prog 51 0 0 3 := FieldAt.mk Tryz.underlying51 rfl rfl rfl sz_3
theorem fld_51_1 : FieldAt Tryz.prog 51 1 1 48 := FieldAt.mk Tryz.underlying51 rfl rfl rfl sz_48
theorem fld_51_2 : FieldAt Tryz.prog 51 2 2 49 := FieldAt.mk Tryz.underlying51 rfl rfl rfl sz_49
theorem fld_51_3 : FieldAt Tryz.prog 51 3 3 3 := FieldAt.mk Tryz.underlying51 rfl rfl rfl sz_3
theorem fld_51_4 : FieldAt Tryz.prog 51 4 4 3 := FieldAt.mk Tryz.underlying51 rfl rfl rfl sz_3
theorem fld_51_5 : FieldAt Tryz.prog 51 5 5 3 := FieldAt.mk Tryz.underlying51 rfl rfl rfl sz_3
theorem fld_74_0 : FieldAt Tryz.prog 74 0 0 24 := FieldAt.mk Tryz.underlying74 rfl rfl rfl sz_24
theorem fld_74_1 : FieldAt Tryz.prog 74 1 1 24 := FieldAt.mk Tryz.underlying74 rfl rfl rfl sz_24
theorem fld_74_2 : FieldAt Tryz.prog 74 2 2 49 := FieldAt.mk Tryz.underlying74 rfl rfl rfl sz_49
theorem fld_74_3 : FieldAt Tryz.prog 74 3 3 72 := FieldAt.mk Tryz.underlying74 rfl rfl rfl sz_72
theorem fld_74_4 : FieldAt Tryz.prog 74 4 4 72 := FieldAt.mk Tryz.underlying74 rfl rfl rfl sz_72
theorem fld_79_0 : FieldAt Tryz.prog 79 0 0 63 := FieldAt.mk Tryz.underlying79 rfl rfl rfl sz_63
theorem fld_79_1 : FieldAt Tryz.prog 79 1 1 71 := FieldAt.mk Tryz.underlying79 rfl rfl rfl sz_71
theorem fld_79_3 : FieldAt Tryz.prog 79 3 3 74 := FieldAt.mk Tryz.underlying79 rfl rfl rfl sz_74
theorem fld_79_4 : FieldAt Tryz.prog 79 4 9 75 := FieldAt.mk Tryz.underlying79 rfl rfl rfl sz_75
theorem fld_79_5 : FieldAt Tryz.prog 79 5 10 76 := FieldAt.mk Tryz.underlying79 rfl rfl rfl sz_76
theorem fld_79_6 : FieldAt Tryz.prog 79 6 11 77 := FieldAt.mk Tryz.underlying79 rfl rfl rfl sz_77
theorem fld_79_7 : FieldAt Tryz.prog 79 7 12 3 := FieldAt.mk Tryz.underlying79 rfl rfl rfl sz_3
theorem fld_82_1 : FieldAt Tryz.prog 82 1 1 3 := FieldAt.mk Tryz.underlying82 rfl rfl rfl sz_3
theorem fld_137_0 : FieldAt Tryz.prog 137 0 0 3 := FieldAt.mk Tryz.underlying137 rfl rfl rfl sz_3
theorem fld_137_1 : FieldAt Tryz.prog 137 1 1 30 := FieldAt.mk Tryz.underlying137 rfl rfl rfl sz_30
theorem fld_147_0 : FieldAt Tryz.prog 147 0 0 145 := FieldAt.mk Tryz.underlying147 rfl rfl rfl sz_145
theorem fld_154_2 : FieldAt Tryz.prog 154 2 3 149 := FieldAt.mk Tryz.underlying154 rfl rfl rfl sz_149
theorem fld_187_0 : FieldAt Tryz.prog 187 0 0 183 := FieldAt.mk Tryz.underlying187 rfl rfl rfl sz_183
theorem fld_209_2 : FieldAt Tryz.prog 209 2 2 207 := FieldAt.mk Tryz.underlying209 rfl rfl rfl sz_207
theorem fld_220_0 : FieldAt Tryz.prog 220 0 0 218 := FieldAt.mk Tryz.underlying220 rfl rfl rfl sz_218
theorem fld_220_1 : FieldAt Tryz.prog 220 1 9 218 := FieldAt.mk Tryz.underlying220 rfl rfl rfl sz_218
theorem fld_223_0 : FieldAt Tryz.prog 223 0 0 220 := FieldAt.mk Tryz.underlying223 rfl rfl rfl sz_220
theorem fld_223_1 : FieldAt Tryz.prog 223 1 18 221 := FieldAt.mk Tryz.underlying223 rfl rfl rfl sz_221
theorem fld_225_0 : FieldAt Tryz.prog 225 0 0 3 := FieldAt.mk Tryz.underlying225 rfl rfl rfl sz_3
theorem fld_225_1 : FieldAt Tryz.prog 225 1 1 218 := FieldAt.mk Tryz.underlying225 rfl rfl rfl sz_218
theorem fld_233_0 : FieldAt Tryz.prog 233 0 0 77 := FieldAt.mk Tryz.underlying233 rfl rfl rfl sz_77
theorem fld_233_1 : FieldAt Tryz.prog 233 1 1 231 := FieldAt.mk Tryz.underlying233 rfl rfl rfl sz_231
theorem fld_246_3 : FieldAt Tryz.prog 246 3 3 243 := FieldAt.mk Tryz.underlying246 rfl rfl rfl sz_243
theorem fld_279_0 : FieldAt Tryz.prog 279 0 0 3 := FieldAt.mk Tryz.underlying279 rfl rfl rfl sz_3
theorem fld_279_1 : FieldAt Tryz.prog 279 1 1 231 := FieldAt.mk Tryz.underlying279 rfl rfl rfl sz_231
theorem fld_305_0 : FieldAt Tryz.prog 305 0 0 3 := FieldAt.mk Tryz.underlying305 rfl rfl rfl sz_3
theorem fld_305_1 : FieldAt Tryz.prog 305 1 1 3 := FieldAt.mk Tryz.underlying305 rfl rfl rfl sz_3
theorem fld_333_0 : FieldAt Tryz.prog 333 0 0 331 := FieldAt.mk Tryz.underlying333 rfl rfl rfl sz_331
theorem fld_385_0 : FieldAt Tryz.prog 385 0 0 305 := FieldAt.mk Tryz.underlying385 rfl rfl rfl sz_305
theorem fld_385_1 : FieldAt Tryz.prog 385 1 2 54 := FieldAt.mk Tryz.underlying385 rfl rfl rfl sz_54
theorem fld_385_2 : FieldAt Tryz.prog 385 2 3 382 := FieldAt.mk Tryz.underlying385 rfl rfl rfl sz_382
theorem fld_385_3 : FieldAt Tryz.prog 385 3 4 383 := FieldAt.mk Tryz.underlying385 rfl rfl rfl sz_383
theorem fld_385_4 : FieldAt Tryz.prog 385 4 5 3 := FieldAt.mk Tryz.underlying385 rfl rfl rfl sz_3
theorem plc_26 : Places Tryz.prog 26 [(0, 1), (1, 1), (2, 1), (3, 1), (4, 1)] := ⟨_, Tryz.underlying26, fun w => by simp [run_sizeOf sz_3, run_sizeOf sz_22, run_sizeOf sz_23, run_sizeOf sz_24]⟩
theorem plc_43 : Places Tryz.prog 43 [(0, 1), (1, 1), (2, 1), (3, 1), (4, 20), (24, 5), (29, 5)] := ⟨_, Tryz.underlying43, fun w => by simp [run_sizeOf sz_3, run_sizeOf sz_4, run_sizeOf sz_41, run_sizeOf sz_26]⟩
theorem plc_51 : Places Tryz.prog 51 [(0, 1), (1, 1), (2, 1), (3, 1), (4, 1), (5, 1)] := ⟨_, Tryz.underlying51, fun w => by simp [run_sizeOf sz_3, run_sizeOf sz_48, run_sizeOf sz_49]⟩
theorem plc_74 : Places Tryz.prog 74 [(0, 1), (1, 1), (2, 1), (3, 1), (4, 1), (5, 1)] := ⟨_, Tryz.underlying74, fun w => by simp [run_sizeOf sz_24, run_sizeOf sz_49, run_sizeOf sz_72]⟩
theorem plc_79 : Places Tryz.prog 79 [(0, 1), (1, 1), (2, 1), (3, 6), (9, 1), (10, 1), (11, 1), (12, 1)] := ⟨_, Tryz.underlying79, fun w => by simp [run_sizeOf sz_63, run_sizeOf sz_71, run_sizeOf sz_3, run_sizeOf sz_74, run_sizeOf sz_75, run_sizeOf sz_76, run_sizeOf sz_77]⟩
theorem plc_82 : Places Tryz.prog 82 [(0, 1), (1, 1)] := ⟨_, Tryz.underlying82, fun w => by simp [run_sizeOf sz_30, run_sizeOf sz_3]⟩
theorem plc_137 : Places Tryz.prog 137 [(0, 1), (1, 1)] := ⟨_, Tryz.underlying137, fun w => by simp [run_sizeOf sz_3, run_sizeOf sz_30]⟩
theorem plc_147 : Places Tryz.prog 147 [(0, 1), (1, 1)] := ⟨_, Tryz.underlying147, fun w => by simp [run_sizeOf sz_145, run_sizeOf sz_143]⟩
theorem plc_154 : Places Tryz.prog 154 [(0, 2), (2, 1), (3, 1), (4, 1), (5, 1)] := ⟨_, Tryz.underlying154, fun w => by simp [run_sizeOf sz_137, run_sizeOf sz_4, run_sizeOf sz_149, run_sizeOf sz_151, run_sizeOf sz_152]⟩
theorem plc_187 : Places Tryz.prog 187 [(0, 1), (1, 4), (5, 1)] := ⟨_, Tryz.underlying187, fun w => by simp [run_sizeOf sz_183, run_sizeOf sz_185, run_sizeOf sz_3]⟩
theorem plc_209 : Places Tryz.prog 209 [(0, 1), (1, 1), (2, 1)] := ⟨_, Tryz.underlying209, fun w => by simp [run_sizeOf sz_3, run_sizeOf sz_206, run_sizeOf sz_207]⟩
theorem plc_215 : Places Tryz.prog 215 [(0, 1), (1, 1)] := ⟨_, Tryz.underlying215, fun w => by simp [run_sizeOf sz_135, run_sizeOf sz_213]⟩
theorem plc_220 : Places Tryz.prog 220 [(0, 9), (9, 9)] := ⟨_, Tryz.underlying220, fun w => by simp [run_sizeOf sz_218]⟩
theorem plc_223 : Places Tryz.prog 223 [(0, 18), (18, 1)] := ⟨_, Tryz.underlying223, fun w => by simp [run_sizeOf sz_220, run_sizeOf sz_221]⟩
theorem plc_225 : Places Tryz.prog 225 [(0, 1), (1, 9)] := ⟨_, Tryz.underlying225, fun w => by simp [run_sizeOf sz_3, run_sizeOf sz_218]⟩
theorem plc_233 : Places Tryz.prog 233 [(0, 1), (1, 1), (2, 1)] := ⟨_, Tryz.underlying233, fun w => by simp [run_sizeOf sz_77, run_sizeOf sz_231, run_sizeOf sz_34]⟩
theorem plc_242 : Places Tryz.prog 242 [(0, 1), (1, 256)] := ⟨_, Tryz.underlying242, fun w => by simp [run_sizeOf sz_3, run_sizeOf sz_240]⟩
theorem plc_246 : Places Tryz.prog 246 [(0, 1), (1, 1), (2, 1), (3, 1)] := ⟨_, Tryz.underlying246, fun w => by simp [run_sizeOf sz_3, run_sizeOf sz_243]⟩
theorem plc_248 : Places Tryz.prog 248 [] := ⟨_, Tryz.underlying248, fun w => by simp []⟩
theorem plc_279 : Places Tryz.prog 279 [(0, 1), (1, 1)] := ⟨_, Tryz.underlying279, fun w => by simp [run_sizeOf sz_3, run_sizeOf sz_231]⟩
theorem plc_305 : Places Tryz.prog 305 [(0, 1), (1, 1)] := ⟨_, Tryz.underlying305, fun w => by simp [run_sizeOf sz_3]⟩
theorem plc_333 : Places Tryz.prog 333 [(0, 1), (1, 1), (2, 1)] := ⟨_, Tryz.underlying333, fun w => by simp [run_sizeOf sz_331, run_sizeOf sz_3]⟩
theorem plc_385 : Places Tryz.prog 385 [(0, 2), (2, 1), (3, 1), (4, 1), (5, 1)] := ⟨_, Tryz.underlying385, fun w => by simp [run_sizeOf sz_305, run_sizeOf sz_54, run_sizeOf sz_382, run_sizeOf sz_383, run_sizeOf sz_3]⟩
theorem eqk_218 : EqK Tryz.prog 10000 218 true [.i .u64, .i .u64, .i .u64, .i .u64, .i .u64, .i .u64, .i .u64, .i .u64, .i .u64] := (EqK.array Tryz.underlying218 sz_218 (EqK.int Tryz.underlying23 sz_23) rfl)
theorem eqg_218 : Tryz.prog.eqGuardType Tryz.prog.depth 218 = false := by kernel_rfl
theorem eqk_220 : EqK Tryz.prog 10000 220 true [.i .u64, .i .u64, .i .u64, .i .u64, .i .u64, .i .u64, .i .u64, .i .u64, .i .u64, .i .u64, .i .u64, .i .u64, .i .u64, .i .u64, .i .u64, .i .u64, .i .u64, .i .u64] := (EqK.struct Tryz.underlying220 (by kernel_rfl) sz_220 (.cons (off := 0) (k1 := [.i .u64, .i .u64, .i .u64, .i .u64, .i .u64, .i .u64, .i .u64, .i .u64, .i .u64]) (k2 := [.i .u64, .i .u64, .i .u64, .i .u64, .i .u64, .i .u64, .i .u64, .i .u64, .i .u64]) (by kernel_rfl) rfl (EqK.array Tryz.underlying218 sz_218 (EqK.int Tryz.underlying23 sz_23) rfl) (.cons (off := 9) (k1 := [.i .u64, .i .u64, .i .u64, .i .u64, .i .u64, .i .u64, .i .u64, .i .u64, .i .u64]) (k2 := []) (by kernel_rfl) rfl (EqK.array Tryz.underlying218 sz_218 (EqK.int Tryz.underlying23 sz_23) rfl) .nil)))
theorem eqg_220 : Tryz.prog.eqGuardType Tryz.prog.depth 220 = false := by kernel_rfl
theorem eqk_225 : EqK Tryz.prog 10000 225 true [.i .i64, .i .u64, .i .u64, .i .u64, .i .u64, .i .u64, .i .u64, .i .u64, .i .u64, .i .u64] := (EqK.struct Tryz.underlying225 (by kernel_rfl) sz_225 (.cons (off := 0) (k1 := [.i .i64]) (k2 := [.i .u64, .i .u64, .i .u64, .i .u64, .i .u64, .i .u64, .i .u64, .i .u64, .i .u64]) (by kernel_rfl) rfl (EqK.int Tryz.underlying3 sz_3) (.cons (off := 1) (k1 := [.i .u64, .i .u64, .i .u64, .i .u64, .i .u64, .i .u64, .i .u64, .i .u64, .i .u64]) (k2 := []) (by kernel_rfl) rfl (EqK.array Tryz.underlying218 sz_218 (EqK.int Tryz.underlying23 sz_23) rfl) .nil)))
theorem eqg_225 : Tryz.prog.eqGuardType Tryz.prog.depth 225 = false := by kernel_rfl
theorem ck_7 : callOk Tryz.prog 7 := callOk_of Tryz.func7 (by kernel_rfl) rfl
theorem ck_8 : callOk Tryz.prog 8 := callOk_of Tryz.func8 (by kernel_rfl) rfl
theorem ck_9 : callOk Tryz.prog 9 := callOk_of Tryz.func9 (by kernel_rfl) rfl
theorem ck_10 : callOk Tryz.prog 10 := callOk_of Tryz.func10 (by kernel_rfl) rfl
theorem ck_11 : callOk Tryz.prog 11 := callOk_of Tryz.func11 (by kernel_rfl) rfl
theorem ck_12 : callOk Tryz.prog 12 := callOk_of Tryz.func12 (by kernel_rfl) rfl
theorem ck_13 : callOk Tryz.prog 13 := callOk_of Tryz.func13 (by kernel_rfl) rfl
theorem ck_14 : callOk Tryz.prog 14 := callOk_of Tryz.func14 (by kernel_rfl) rfl
theorem ck_15 : callOk Tryz.prog 15 := callOk_of Tryz.func15 (by kernel_rfl) rfl
theorem ck_20 : callOk Tryz.prog 20 := callOk_of Tryz.func20 (by kernel_rfl) rfl
theorem ck_34 : callOk Tryz.prog 34 := callOk_of Tryz.func34 (by kernel_rfl) rfl
theorem ck_35 : callOk Tryz.prog 35 := callOk_of Tryz.func35 (by kernel_rfl) rfl
theorem ck_36 : callOk Tryz.prog 36 := callOk_of Tryz.func36 (by kernel_rfl) rfl
theorem ck_37 : callOk Tryz.prog 37 := callOk_of Tryz.func37 (by kernel_rfl) rfl
theorem ck_38 : callOk Tryz.prog 38 := callOk_of Tryz.func38 (by kernel_rfl) rfl
theorem ck_39 : callOk Tryz.prog 39 := callOk_of Tryz.func39 (by kernel_rfl) rfl
theorem ck_41 : callOk Tryz.prog 41 := callOk_of Tryz.func41 (by kernel_rfl) rfl
theorem ck_42 : callOk Tryz.prog 42 := callOk_of Tryz.func42 (by kernel_rfl) rfl
theorem ck_43 : callOk Tryz.prog 43 := callOk_of Tryz.func43 (by kernel_rfl) rfl
theorem ck_44 : callOk Tryz.prog 44 := callOk_of Tryz.func44 (by kernel_rfl) rfl
theorem ck_45 : callOk Tryz.prog 45 := callOk_of Tryz.func45 (by kernel_rfl) rfl
theorem ck_46 : callOk Tryz.prog 46 := callOk_of Tryz.func46 (by kernel_rfl) rfl
theorem ck_47 : callOk Tryz.prog 47 := callOk_of Tryz.func47 (by kernel_rfl) rfl
theorem ck_48 : callOk Tryz.prog 48 := callOk_of Tryz.func48 (by kernel_rfl) rfl
theorem ck_49 : callOk Tryz.prog 49 := callOk_of Tryz.func49 (by kernel_rfl) rfl
theorem ck_58 : callOk Tryz.prog 58 := callOk_of Tryz.func58 (by kernel_rfl) rfl
theorem ck_59 : callOk Tryz.prog 59 := callOk_of Tryz.func59 (by kernel_rfl) rfl
theorem ck_62 : callOk Tryz.prog 62 := callOk_of Tryz.func62 (by kernel_rfl) rfl
theorem ck_63 : callOk Tryz.prog 63 := callOk_of Tryz.func63 (by kernel_rfl) rfl
theorem ck_65 : callOk Tryz.prog 65 := callOk_of Tryz.func65 (by kernel_rfl) rfl
theorem ck_86 : callOk Tryz.prog 86 := callOk_of Tryz.func86 (by kernel_rfl) rfl
theorem ck_87 : callOk Tryz.prog 87 := callOk_of Tryz.func87 (by kernel_rfl) rfl
theorem ck_88 : callOk Tryz.prog 88 := callOk_of Tryz.func88 (by kernel_rfl) rfl
theorem ck_89 : callOk Tryz.prog 89 := callOk_of Tryz.func89 (by kernel_rfl) rfl
theorem ck_90 : callOk Tryz.prog 90 := callOk_of Tryz.func90 (by kernel_rfl) rfl
theorem ck_92 : callOk Tryz.prog 92 := callOk_of Tryz.func92 (by kernel_rfl) rfl
theorem ck_93 : callOk Tryz.prog 93 := callOk_of Tryz.func93 (by kernel_rfl) rfl
theorem ck_94 : callOk Tryz.prog 94 := callOk_of Tryz.func94 (by kernel_rfl) rfl
theorem ck_95 : callOk Tryz.prog 95 := callOk_of Tryz.func95 (by kernel_rfl) rfl
theorem ck_96 : callOk Tryz.prog 96 := callOk_of Tryz.func96 (by kernel_rfl) rfl
theorem ck_97 : callOk Tryz.prog 97 := callOk_of Tryz.func97 (by kernel_rfl) rfl
theorem ck_98 : callOk Tryz.prog 98 := callOk_of Tryz.func98 (by kernel_rfl) rfl
theorem ck_99 : callOk Tryz.prog 99 := callOk_of Tryz.func99 (by kernel_rfl) rfl
theorem ck_100 : callOk Tryz.prog 100 := callOk_of Tryz.func100 (by kernel_rfl) rfl
theorem ck_101 : callOk Tryz.prog 101 := callOk_of Tryz.func101 (by kernel_rfl) rfl
theorem ck_102 : callOk Tryz.prog 102 := callOk_of Tryz.func102 (by kernel_rfl) rfl
theorem ck_103 : callOk Tryz.prog 103 := callOk_of Tryz.func103 (by kernel_rfl) rfl
theorem ck_105 : callOk Tryz.prog 105 := callOk_of Tryz.func105 (by kernel_rfl) rfl
theorem ck_106 : callOk Tryz.prog 106 := callOk_of Tryz.func106 (by kernel_rfl) rfl
theorem ck_121 : callOk Tryz.prog 121 := callOk_of Tryz.func121 (by kernel_rfl) rfl
theorem ck_126 : callOk Tryz.prog 126 := callOk_of Tryz.func126 (by kernel_rfl) rfl
theorem ck_128 : callOk Tryz.prog 128 := callOk_of Tryz.func128 (by kernel_rfl) rfl
theorem ck_150 : callOk Tryz.prog 150 := callOk_of Tryz.func150 (by kernel_rfl) rfl
theorem ck_163 : callOk Tryz.prog 163 := callOk_of Tryz.func163 (by kernel_rfl) rfl
theorem ck_164 : callOk Tryz.prog 164 := callOk_of Tryz.func164 (by kernel_rfl) rfl
theorem ck_165 : callOk Tryz.prog 165 := callOk_of Tryz.func165 (by kernel_rfl) rfl
theorem ck_166 : callOk Tryz.prog 166 := callOk_of Tryz.func166 (by kernel_rfl) rfl
theorem ck_167 : callOk Tryz.prog 167 := callOk_of Tryz.func167 (by kernel_rfl) rfl
theorem ck_168 : callOk Tryz.prog 168 := callOk_of Tryz.func168 (by kernel_rfl) rfl
theorem ck_169 : callOk Tryz.prog 169 := callOk_of Tryz.func169 (by kernel_rfl) rfl
theorem ck_170 : callOk Tryz.prog 170 := callOk_of Tryz.func170 (by kernel_rfl) rfl
theorem ck_171 : callOk Tryz.prog 171 := callOk_of Tryz.func171 (by kernel_rfl) rfl
theorem ck_172 : callOk Tryz.prog 172 := callOk_of Tryz.func172 (by kernel_rfl) rfl
theorem ck_173 : callOk Tryz.prog 173 := callOk_of Tryz.func173 (by kernel_rfl) rfl
theorem ck_174 : callOk Tryz.prog 174 := callOk_of Tryz.func174 (by kernel_rfl) rfl
theorem ck_175 : callOk Tryz.prog 175 := callOk_of Tryz.func175 (by kernel_rfl) rfl
theorem ck_176 : callOk Tryz.prog 176 := callOk_of Tryz.func176 (by kernel_rfl) rfl
theorem ck_177 : callOk Tryz.prog 177 := callOk_of Tryz.func177 (by kernel_rfl) rfl
theorem ck_178 : callOk Tryz.prog 178 := callOk_of Tryz.func178 (by kernel_rfl) rfl
theorem ck_186 : callOk Tryz.prog 186 := callOk_of Tryz.func186 (by kernel_rfl) rfl
theorem ck_187 : callOk Tryz.prog 187 := callOk_of Tryz.func187 (by kernel_rfl) rfl
theorem ck_189 : callOk Tryz.prog 189 := callOk_of Tryz.func189 (by kernel_rfl) rfl
theorem ck_207 : callOk Tryz.prog 207 := callOk_of Tryz.func207 (by kernel_rfl) rfl
theorem ck_223 : callOk Tryz.prog 223 := callOk_of Tryz.func223 (by kernel_rfl) rfl
theorem ck_233 : callOk Tryz.prog 233 := callOk_of Tryz.func233 (by kernel_rfl) rfl
theorem ck_241 : callOk Tryz.prog 241 := callOk_of Tryz.func241 (by kernel_rfl) rfl
theorem ck_242 : callOk Tryz.prog 242 := callOk_of Tryz.func242 (by kernel_rfl) rfl
theorem ck_243 : callOk Tryz.prog 243 := callOk_of Tryz.func243 (by kernel_rfl) rfl
theorem ck_244 : callOk Tryz.prog 244 := callOk_of Tryz.func244 (by kernel_rfl) rfl
theorem ck_245 : callOk Tryz.prog 245 := callOk_of Tryz.func245 (by kernel_rfl) rfl
theorem ck_246 : callOk Tryz.prog 246 := callOk_of Tryz.func246 (by kernel_rfl) rfl
theorem ck_247 : callOk Tryz.prog 247 := callOk_of Tryz.func247 (by kernel_rfl) rfl
theorem ck_248 : callOk Tryz.prog 248 := callOk_of Tryz.func248 (by kernel_rfl) rfl
theorem ck_249 : callOk Tryz.prog 249 := callOk_of Tryz.func249 (by kernel_rfl) rfl
theorem ck_250 : callOk Tryz.prog 250 := callOk_of Tryz.func250 (by kernel_rfl) rfl
theorem ck_251 : callOk Tryz.prog 251 := callOk_of Tryz.func251 (by kernel_rfl) rfl
theorem ck_252 : callOk Tryz.prog 252 := callOk_of Tryz.func252 (by kernel_rfl) rfl
theorem ck_253 : callOk Tryz.prog 253 := callOk_of Tryz.func253 (by kernel_rfl) rfl
theorem ck_254 : callOk Tryz.prog 254 := callOk_of Tryz.func254 (by kernel_rfl) rfl
theorem ck_255 : callOk Tryz.prog 255 := callOk_of Tryz.func255 (by kernel_rfl) rfl
theorem ck_263 : callOk Tryz.prog 263 := callOk_of Tryz.func263 (by kernel_rfl) rfl
theorem ck_268 : callOk Tryz.prog 268 := callOk_of Tryz.func268 (by kernel_rfl) rfl
theorem ck_281 : callOk Tryz.prog 281 := callOk_of Tryz.func281 (by kernel_rfl) rfl
theorem ck_313 : callOk Tryz.prog 313 := callOk_of Tryz.func313 (by kernel_rfl) rfl
theorem ck_316 : callOk Tryz.prog 316 := callOk_of Tryz.func316 (by kernel_rfl) rfl
theorem ck_318 : callOk Tryz.prog 318 := callOk_of Tryz.func318 (by kernel_rfl) rfl
theorem ck_319 : callOk Tryz.prog 319 := callOk_of Tryz.func319 (by kernel_rfl) rfl
theorem ck_320 : callOk Tryz.prog 320 := callOk_of Tryz.func320 (by kernel_rfl) rfl
theorem ck_327 : callOk Tryz.prog 327 := callOk_of Tryz.func327 (by kernel_rfl) rfl
theorem ck_338 : callOk Tryz.prog 338 := callOk_of Tryz.func338 (by kernel_rfl) rfl
end Go.Proofs.YtmhahajadgkolaaGreatDoor
/- A header's fields, as numbers; its cells. -/
namespace Go.Proofs.YtmhahajadgkolaaGreatDoor
open Go.RowKit

/-- The fields of a header, as numbers. -/
structure Hd where
  port : Int
  src : Nat → Int
  dst : Nat → Int
  ty : Int
  sip : Int
  dip : Int
  proto : Int
  sp : Int
  dp : Int
def Hd.zero : Hd := ⟨0, fun _ => 0, fun _ => 0, 0, 0, 0, 0, 0, 0⟩
def hdL (H : Hd) : List Value := [
  .int .i64 H.port, .int .u8 (H.src 0), .int .u8 (H.src 1), .int .u8 (H.src 2), .int .u8 (H.src 3), .int .u8 (H.src 4), .int .u8 (H.src 5),
  .int .u8 (H.dst 0), .int .u8 (H.dst 1), .int .u8 (H.dst 2), .int .u8 (H.dst 3), .int .u8 (H.dst 4), .int .u8 (H.dst 5),
  .int .i64 H.ty, .int .u32 H.sip, .int .u32 H.dip, .int .i64 H.proto, .int .i64 H.sp, .int .i64 H.dp]
/-- The cells of a header. -/
def hdCells (H : Hd) : Array Value := (hdL H).toArray
end Go.Proofs.YtmhahajadgkolaaGreatDoor
/- head: Width, Full, fits, Header.Check. The table of widths is a listed variable. -/
namespace Go.Proofs.YtmhahajadgkolaaGreatDoor
open Go.RowKit

def wdN (i : Nat) : Nat := [8, 48, 48, 16, 32, 32, 8, 16, 16].getD i 0
/-- What the listed variable holds. -/
def GW (w : World) : Prop := ∀ i, i < 9 → w.cell? ⟨0, i, none⟩ = some (.int .i64 (wdN i))
theorem GW.keep {p : Nat → Prop} {w0 w : World} {L : List Ent} (hp : ¬ p 0) (h : GW w0) (hS : St p w0 w L) : GW w := fun i hi => hS.old hp (h i hi)
theorem wdN_le (i : Nat) : wdN i ≤ 48 := by
  match i with
  | 0 | 1 | 2 | 3 | 4 | 5 | 6 | 7 | 8 => decide
  | _ + 9 => exact Nat.zero_le _
/-- The number of which the field's bits are 1. -/
def fullI (i : Nat) : Int := 2 ^ wdN i - 1
theorem Width_n (w : World) (i : Nat) (hi : i < 9) (hG : GW w) :
    Calls Tryz.prog 254 #[.int .i64 i] w fun e w' => e = .returned (.int .i64 (wdN i)) ∧ Frm (fun _ => False) w w' := by
  refine enter Tryz.func254 rfl Tryz.ntmps254 rfl (St.start (fun _ => False) w) ?_
  refine WC.seq <| WC.region <| WL.v (v_assign rfl rfl) rfl <| WL.nt <| WC.seq <| WC.seq <| WC.region <| WL.v (v_move rfl rfl) rfl <| ?_
  refine WL.v ((v_lss rfl rfl rfl).f (by omega)) rfl ?_
  refine WL.v (v_move rfl rfl) rfl <| WL.val (v_move rfl rfl) (.some rfl rfl rfl) rfl rfl <| ?_
  refine WL.val ((v_geq rfl rfl rfl).f (by omega)) (.some rfl rfl rfl) rfl rfl ?_
  refine WL.v (v_pick_f rfl rfl rfl) rfl <| WL.nt <| WC.cond_f rfl <| WC.skip <| WE.then_n <| WC.seq <| WC.region <| WL.v (v_move rfl rfl) rfl <| ?_
  refine WL.v (v_indexAddrA (lo := i) rfl rfl rfl Tryz.underlying451 sz_3 (by omega) (by omega)) rfl ?_
  refine WL.v (v_load1 rfl rfl one_3 (cellOld (fun h => h) (by rw [Nat.zero_add, Nat.mul_one]; exact hG i hi))) rfl ?_
  refine WL.v (v_assign rfl rfl) rfl <| WL.nt <| WC.ret <| WE.ret1 (P := Tryz.prog) (.inl rfl) Tryz.results254 rfl <| ?_
  exact fun w' h => ⟨rfl, h.frm⟩
theorem Full_n (w : World) (i : Nat) (hi : i < 9) (hG : GW w) :
    Calls Tryz.prog 171 #[.int .i64 i] w fun e w' => e = .returned (.int .u64 (fullI i)) ∧ Frm (fun _ => False) w w' := by
  have hw := wdN_le i
  have hpow : (2 : Int) ^ wdN i = ((2 ^ wdN i : Nat) : Int) := by simp
  have h1 : 2 ^ wdN i ≤ 2 ^ 48 := Nat.pow_le_pow_right (by decide) hw
  have h2 : 0 < 2 ^ wdN i := Nat.two_pow_pos _
  have e1 : 1 ≤ (2 : Int) ^ wdN i ∧ (2 : Int) ^ wdN i ≤ 281474976710656 := by omega
  refine enter Tryz.func171 rfl Tryz.ntmps171 rfl (St.start (fun _ => False) w) ?_
  refine WC.seq <| WC.region <| WL.v (v_assign rfl rfl) rfl <| WL.nt <| WC.seq <| WC.region <| WL.v (v_move rfl rfl) rfl <| WL.call rfl rfl ck_254 (.none rfl) rfl rfl <| ?_
  intro w hS
  refine Calls.then (Width_n w i hi (hG.keep (fun h => h) hS)) hS ?_
  refine WL.v (v_shl (m := wdN i) (c := (2 : Int) ^ wdN i) rfl rfl rfl rfl (by show wdN i ≤ 64; omega) rfl (w_u64 (by omega) (by omega))) rfl ?_
  refine WL.v (v_sub rfl rfl rfl (w_u64 (by omega) (by omega))) rfl ?_
  refine WL.v (v_assign rfl rfl) rfl <| WL.nt <| WC.ret <| WE.ret1 (P := Tryz.prog) (.inl rfl) Tryz.results171 rfl <| ?_
  exact fun w' h => ⟨by rw [Int.one_mul]; rfl, h.frm⟩
def fitsB (i : Nat) (n : Int) : Bool := decide (0 ≤ n ∧ n ≤ fullI i)
/-- Do the numbers of a header fit? -/
def Hd.okB (H : Hd) : Bool := fitsB 0 H.port && fitsB 3 H.ty && fitsB 6 H.proto && fitsB 7 H.sp && fitsB 8 H.dp
structure Hd.In (H : Hd) : Prop where
  port : -9223372036854775808 ≤ H.port ∧ H.port ≤ 9223372036854775807
  ty : -9223372036854775808 ≤ H.ty ∧ H.ty ≤ 9223372036854775807
  proto : -9223372036854775808 ≤ H.proto ∧ H.proto ≤ 9223372036854775807
  sp : -9223372036854775808 ≤ H.sp ∧ H.sp ≤ 9223372036854775807
  dp : -9223372036854775808 ≤ H.dp ∧ H.dp ≤ 9223372036854775807
  sip : 0 ≤ H.sip ∧ H.sip ≤ 4294967295
  dip : 0 ≤ H.dip ∧ H.dip ≤ 4294967295
  src : Byt H.src
  dst : Byt H.dst
end Go.Proofs.YtmhahajadgkolaaGreatDoor
/- Calls of methods through an interface, type assertions, max, min, quotients of whatever sign. -/
namespace Go.Proofs.YtmhahajadgkolaaGreatDoor
open Go.RowKit

section
variable {P : Program} {C : World → Prop} {ops : Array Oper} {Q : Exit → Act → World → Prop} {n : Nat} {p : Nat → Prop} {w0 : World} {o : Oper} {rest : List Oper} {l : Kn} {L : List Ent}

/-- Of a value of this dynamic type the method is that function, and that its receiver. -/
def Meth (P : Program) (C : World → Prop) (t : TypeId) (v : Value) (name : String) (f : FuncId) (rv : Value) : Prop := ∀ w, C w → (method (P.types.size + Made.depth) t v name).run P w = .ok (f, rv) w
def isIf : TypeDesc → Bool | .interface _ => true | _ => false
theorem v_max {t t' : TypeId} {x y : Operand} {k : IntKind} {A B : Int} (ho : o.op = .call { callee := .builtin .max, args := #[x, y], argTypes := #[t, t'] }) (hx : ev l x = some (.int k A)) (hy : ev l y = some (.int k B)) : Val P C n l o (.int k (max A B)) := fun a w ha _ => by
  have hx' : evs l [x, y] = some [.int k A, .int k B] := by simp [evs, hx, hy]
  obtain ⟨cs, h⟩ := run_builtin (P := P) (w := w) (xs := [x, y]) ho hx' ha
  rw [h]
  have e : (if B > A then B else A) = max A B := by omega
  simp [builtin, Builtin.max_, Builtin.max2, e]
theorem v_min {t t' : TypeId} {x y : Operand} {k : IntKind} {A B : Int} (ho : o.op = .call { callee := .builtin .min, args := #[x, y], argTypes := #[t, t'] }) (hx : ev l x = some (.int k A)) (hy : ev l y = some (.int k B)) : Val P C n l o (.int k (min A B)) := fun a w ha _ => by
  have hx' : evs l [x, y] = some [.int k A, .int k B] := by simp [evs, hx, hy]
  obtain ⟨cs, h⟩ := run_builtin (P := P) (w := w) (xs := [x, y]) ho hx' ha
  rw [h]
  have e : (if B < A then B else A) = min A B := by omega
  simp [builtin, Builtin.min_, Builtin.min2, e]
end
end Go.Proofs.YtmhahajadgkolaaGreatDoor
/- Bits of numbers: and, or, xor, and not, as operations on natural numbers. -/
namespace Go.Proofs.YtmhahajadgkolaaGreatDoor
open Go.RowKit

def andN (x y : Int) : Int := ((x.toNat &&& y.toNat : Nat) : Int)
def orN (x y : Int) : Int := ((x.toNat ||| y.toNat : Nat) : Int)
def xorN (x y : Int) : Int := ((x.toNat ^^^ y.toNat : Nat) : Int)
def andNotN (x y : Int) : Int := ((x.toNat ^^^ (x.toNat &&& y.toNat) : Nat) : Int)
theorem bits_and_u64 {x y : Int} (hx : 0 ≤ x) (hx' : x ≤ 18446744073709551615) (hy : 0 ≤ y) (hy' : y ≤ 18446744073709551615) : bits .and .u64 x y = andN x y := by
  obtain ⟨a, rfl⟩ := Int.eq_ofNat_of_zero_le hx
  obtain ⟨b, rfl⟩ := Int.eq_ofNat_of_zero_le hy
  show IntKind.u64.wrap ((BitVec.ofInt 64 (a : Int) &&& BitVec.ofInt 64 (b : Int)).toNat : Int) = _
  rw [BitVec.ofInt_natCast, BitVec.ofInt_natCast, BitVec.toNat_and, BitVec.toNat_ofNat, BitVec.toNat_ofNat, Nat.mod_eq_of_lt (by omega), Nat.mod_eq_of_lt (by omega)]
  have : a &&& b ≤ a := Nat.and_le_left
  exact w_u64 (by omega) (by omega)
theorem bits_or_u64 {x y : Int} (hx : 0 ≤ x) (hx' : x ≤ 18446744073709551615) (hy : 0 ≤ y) (hy' : y ≤ 18446744073709551615) : bits .or .u64 x y = orN x y := by
  obtain ⟨a, rfl⟩ := Int.eq_ofNat_of_zero_le hx
  obtain ⟨b, rfl⟩ := Int.eq_ofNat_of_zero_le hy
  show IntKind.u64.wrap ((BitVec.ofInt 64 (a : Int) ||| BitVec.ofInt 64 (b : Int)).toNat : Int) = _
  rw [BitVec.ofInt_natCast, BitVec.ofInt_natCast, BitVec.toNat_or, BitVec.toNat_ofNat, BitVec.toNat_ofNat, Nat.mod_eq_of_lt (by omega), Nat.mod_eq_of_lt (by omega)]
  have : a ||| b < 2 ^ 64 := Nat.or_lt_two_pow (by omega) (by omega)
  exact w_u64 (by omega) (by omega)
theorem bits_xor_u64 {x y : Int} (hx : 0 ≤ x) (hx' : x ≤ 18446744073709551615) (hy : 0 ≤ y) (hy' : y ≤ 18446744073709551615) : bits .xor .u64 x y = xorN x y := by
  obtain ⟨a, rfl⟩ := Int.eq_ofNat_of_zero_le hx
  obtain ⟨b, rfl⟩ := Int.eq_ofNat_of_zero_le hy
  show IntKind.u64.wrap ((BitVec.ofInt 64 (a : Int) ^^^ BitVec.ofInt 64 (b : Int)).toNat : Int) = _
  rw [BitVec.ofInt_natCast, BitVec.ofInt_natCast, BitVec.toNat_xor, BitVec.toNat_ofNat, BitVec.toNat_ofNat, Nat.mod_eq_of_lt (by omega), Nat.mod_eq_of_lt (by omega)]
  have : a ^^^ b < 2 ^ 64 := Nat.xor_lt_two_pow (by omega) (by omega)
  exact w_u64 (by omega) (by omega)
theorem nat_andNot {n a b : Nat} (ha : a < 2 ^ n) (hb : b < 2 ^ n) : (BitVec.ofNat n a &&& ~~~ BitVec.ofNat n b).toNat = a ^^^ (a &&& b) := by
  have e : BitVec.ofNat n a &&& ~~~ BitVec.ofNat n b = BitVec.ofNat n a ^^^ (BitVec.ofNat n a &&& BitVec.ofNat n b) := by
    apply BitVec.eq_of_getLsbD_eq
    intro i hi
    simp only [BitVec.getLsbD_and, BitVec.getLsbD_not, BitVec.getLsbD_xor, hi, decide_true, Bool.true_and]
    cases (BitVec.ofNat n a).getLsbD i <;> cases (BitVec.ofNat n b).getLsbD i <;> rfl
  have e2 : (BitVec.ofNat n a &&& BitVec.ofNat n b).toNat = a &&& b := by
    rw [BitVec.toNat_and, BitVec.toNat_ofNat, BitVec.toNat_ofNat, Nat.mod_eq_of_lt ha, Nat.mod_eq_of_lt hb]
  rw [e, BitVec.toNat_xor, e2, BitVec.toNat_ofNat, Nat.mod_eq_of_lt ha]
theorem bits_andNot_u64 {x y : Int} (hx : 0 ≤ x) (hx' : x ≤ 18446744073709551615) (hy : 0 ≤ y) (hy' : y ≤ 18446744073709551615) : bits .andNot .u64 x y = andNotN x y := by
  obtain ⟨a, rfl⟩ := Int.eq_ofNat_of_zero_le hx
  obtain ⟨b, rfl⟩ := Int.eq_ofNat_of_zero_le hy
  show IntKind.u64.wrap ((BitVec.ofInt 64 (a : Int) &&& ~~~ BitVec.ofInt 64 (b : Int)).toNat : Int) = _
  rw [BitVec.ofInt_natCast, BitVec.ofInt_natCast, nat_andNot (by omega) (by omega)]
  have h1 : a &&& b ≤ a := Nat.and_le_left
  have : a ^^^ (a &&& b) < 2 ^ 64 := Nat.xor_lt_two_pow (by omega) (by omega)
  exact w_u64 (by omega) (by omega)
theorem bits_or_i64 {x y : Int} (hx : 0 ≤ x) (hx' : x ≤ 9223372036854775807) (hy : 0 ≤ y) (hy' : y ≤ 9223372036854775807) : bits .or .i64 x y = orN x y := by
  obtain ⟨a, rfl⟩ := Int.eq_ofNat_of_zero_le hx
  obtain ⟨b, rfl⟩ := Int.eq_ofNat_of_zero_le hy
  show IntKind.i64.wrap ((BitVec.ofInt 64 (a : Int) ||| BitVec.ofInt 64 (b : Int)).toNat : Int) = _
  rw [BitVec.ofInt_natCast, BitVec.ofInt_natCast, BitVec.toNat_or, BitVec.toNat_ofNat, BitVec.toNat_ofNat, Nat.mod_eq_of_lt (by omega), Nat.mod_eq_of_lt (by omega)]
  have : a ||| b < 2 ^ 63 := Nat.or_lt_two_pow (by omega) (by omega)
  exact w_i64 (by omega) (by omega)
end Go.Proofs.YtmhahajadgkolaaGreatDoor
/- head: Num, Of, Get, With, Cmp; cmp.Compare. -/
namespace Go.Proofs.YtmhahajadgkolaaGreatDoor
open Go.RowKit

/-- The number of so many bytes. -/
def numK (m : Nat → Int) : Nat → Int | 0 => 0 | k + 1 => numK m k * 256 + m k
/-- Byte i of a number's lowest six. -/
def ofB (n : Int) (i : Nat) : Int := n / 256 ^ (5 - i) % 256
/-- A field's number, as it stands. -/
def rawF (H : Hd) : Nat → Int
  | 0 => H.port % 18446744073709551616 | 1 => numK H.src 6 | 2 => numK H.dst 6 | 3 => H.ty % 18446744073709551616 | 4 => H.sip | 5 => H.dip
  | 6 => H.proto % 18446744073709551616 | 7 => H.sp % 18446744073709551616 | 8 => H.dp % 18446744073709551616 | _ + 9 => 0
/-- A field's number: its lowest bits. -/
def getF (H : Hd) (k : Nat) : Int := rawF H k % 2 ^ wdN k
theorem pow_wd (k : Nat) : 1 ≤ (2 : Int) ^ wdN k ∧ (2 : Int) ^ wdN k ≤ 281474976710656 := by
  have hw := wdN_le k
  have hpow : (2 : Int) ^ wdN k = ((2 ^ wdN k : Nat) : Int) := by simp
  have h1 : 2 ^ wdN k ≤ 2 ^ 48 := Nat.pow_le_pow_right (by decide) hw
  have h2 : 0 < 2 ^ wdN k := Nat.two_pow_pos _
  omega
/-- The header with a number in a field. -/
def wthF (k : Nat) (n : Int) (H : Hd) : Hd := match k with
  | 0 => { H with port := n } | 1 => { H with src := ofB n } | 2 => { H with dst := ofB n } | 3 => { H with ty := n } | 4 => { H with sip := n } | 5 => { H with dip := n }
  | 6 => { H with proto := n } | 7 => { H with sp := n } | 8 => { H with dp := n } | _ + 9 => H
/-- How two numbers compare. -/
def cmpI (x y : Int) : Int := if x < y then -1 else if y < x then 1 else 0
theorem isNaNU_c (w : World) (x : Int) : Calls Tryz.prog 313 #[.int .u64 x] w fun e w' => e = .returned (.bool false) ∧ Frm (fun _ => False) w w' := by
  refine enter Tryz.func313 rfl Tryz.ntmps313 rfl (St.start (fun _ => False) w) ?_
  refine WC.seq <| WC.region <| WL.v (v_assign rfl rfl) rfl <| WL.nt <| WC.seq <| WC.region <| WL.v (v_move rfl rfl) rfl <| WL.v (v_move rfl rfl) rfl <| WL.v ((v_neq rfl rfl rfl).f (fun h => h rfl)) rfl <| WL.v (v_assign rfl rfl) rfl <| WL.nt <| WC.ret <| WE.ret1 (P := Tryz.prog) (.inl rfl) Tryz.results313 rfl <| ?_
  exact fun w' h => ⟨rfl, h.frm⟩
theorem CmpU_c (w : World) (x y : Int) : Calls Tryz.prog 233 #[.int .u64 x, .int .u64 y] w fun e w' => e = .returned (.int .i64 (cmpI x y)) ∧ Frm (fun _ => False) w w' := by
  refine enter Tryz.func233 rfl Tryz.ntmps233 rfl (St.start (fun _ => False) w) ?_
  refine WC.seq <| WC.region <| WL.v (v_assign rfl rfl) rfl <| WL.nt <| WC.seq <| WC.region <| WL.v (v_move rfl rfl) rfl <| WL.call rfl rfl ck_313 (.none rfl) rfl rfl <| ?_
  intro w hS
  refine Calls.then (isNaNU_c w x) hS ?_
  refine WL.v (v_assign rfl rfl) rfl <| WL.nt <| WC.seq <| WC.region <| WL.v (v_move rfl rfl) rfl <| WL.call rfl rfl ck_313 (.none rfl) rfl rfl <| ?_
  intro w hS
  refine Calls.then (isNaNU_c w y) hS ?_
  refine WL.v (v_assign rfl rfl) rfl <| WL.nt <| WC.seq <| WC.seq <| WC.region <| WL.v (v_move rfl rfl) rfl <| WL.nt <| WC.cond_f rfl <| WC.skip <| WE.then_n <| WC.seq <| WC.seq <| WC.region <| WL.v (v_move rfl rfl) rfl <| ?_
  refine WL.nt <| WC.cond_f rfl <| WC.skip <| WE.then_n <| WC.seq <| WC.seq <| WC.region <| WL.v (v_move rfl rfl) rfl <| WL.v (v_move rfl rfl) rfl <| ?_
  refine WL.test (v_lss rfl rfl rfl) (.none rfl) rfl rfl (fun h16 => ?_) (fun h16 => ?_)
  ·
   refine WL.nt <| WC.cond_t rfl <| WC.seq <| WC.region <| WL.v (v_assign rfl rfl) rfl <| WL.nt <| WC.ret <| WE.then_ret <| WE.ret1 (P := Tryz.prog) (.inl rfl) Tryz.results233 rfl <| ?_
   exact fun w' h => ⟨by unfold cmpI; rw [if_pos h16], h.frm⟩
  ·
   refine WL.nt <| WC.cond_f rfl <| WC.skip <| WE.then_n <| WC.seq <| WC.seq <| WC.region <| WL.v (v_move rfl rfl) rfl <| WL.v (v_move rfl rfl) rfl <| ?_
   refine WL.test (v_gtr rfl rfl rfl) (.none rfl) rfl rfl (fun h19 => ?_) (fun h19 => ?_)
   ·
    refine WL.nt <| WC.cond_t rfl <| WC.seq <| WC.region <| WL.v (v_assign rfl rfl) rfl <| WL.nt <| WC.ret <| WE.then_ret <| WE.ret1 (P := Tryz.prog) (.inl rfl) Tryz.results233 rfl <| ?_
    exact fun w' h => ⟨by unfold cmpI; rw [if_neg h16, if_pos h19], h.frm⟩
   ·
    refine WL.nt <| WC.cond_f rfl <| WC.skip <| WE.then_n <| WC.seq <| WC.region <| WL.v (v_assign rfl rfl) rfl <| WL.nt <| WC.ret <| WE.ret1 (P := Tryz.prog) (.inl rfl) Tryz.results233 rfl <| ?_
    exact fun w' h => ⟨by unfold cmpI; rw [if_neg h16, if_neg h19], h.frm⟩
/-- How two headers compare, by so many fields. -/
def hcmpK (A B : Hd) : Nat → Int | 0 => 0 | k + 1 => if hcmpK A B k ≠ 0 then hcmpK A B k else cmpI (getF A k) (getF B k)
end Go.Proofs.YtmhahajadgkolaaGreatDoor
