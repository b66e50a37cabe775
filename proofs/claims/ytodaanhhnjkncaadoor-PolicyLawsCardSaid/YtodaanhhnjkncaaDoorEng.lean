/- An engine for walks: what is known of a frame (a list of slots), what is known of memory (a list of blocks), one law an operation. -/
import Derived.Test.YtodaanhhnjkncaaDoorLib
import Derived.Test.YtodaanhhnjkncaaDoorTail
import Derived.Deep.LoopGhost
import Derived.Deep.WholeRow
namespace Go.Proofs.YtodaanhhnjkncaaDoor
open Go.RowKit

/-! ## The frame -/
abbrev Kn := List (Nat × Value)
def look : Kn → Nat → Option Value
  | [], _ => none
  | (s, v) :: l, t => cond (Nat.beq s t) (some v) (look l t)

structure Has (n : Nat) (a : Act) (l : Kn) : Prop where
  size : a.tmps.size = n
  defers : a.defers = []
  got : ∀ t v, look l t = some v → a.tmps.getD t undef = v

def ev (l : Kn) : Operand → Option Value
  | .tmp t => look l t
  | .const v => some v
  | .global g => some (.pointer (some ⟨g, 0, none⟩))
  | .func f => some (.func (.func f) #[] #[])

theorem Has.ev {n : Nat} {a : Act} {l : Kn} (h : Has n a l) {x : Operand} {v : Value} (hx : ev l x = some v) : a.eval x = v := by
  cases x with
  | tmp t => exact h.got t v hx
  | const u => simpa [YtodaanhhnjkncaaDoor.ev, Act.eval] using hx
  | global g => simpa [YtodaanhhnjkncaaDoor.ev, Act.eval] using hx
  | func f => simpa [YtodaanhhnjkncaaDoor.ev, Act.eval] using hx

theorem Has.put {n d : Nat} {a : Act} {l : Kn} (h : Has n a l) (hd : Nat.blt d n = true) (v : Value) : Has n (a.put (some d) v) ((d, v) :: l) := by
  have hd' : d < n := by simpa using hd
  refine ⟨by simp [Act.put, h.size], h.defers, ?_⟩
  intro t u hu
  unfold look at hu
  by_cases e : d = t
  · subst e
    simp at hu
    subst hu
    simp [Act.put, h.size, hd']
  · have hb : Nat.beq d t = false := by
      cases hb : Nat.beq d t with
      | false => rfl
      | true => exact absurd (Nat.eq_of_beq_eq_true hb) e
    rw [hb] at hu
    have := h.got t u hu
    simp only [Act.put]
    rw [← this]
    simp only [Array.getD_eq_getD_getElem?, Array.getElem?_setIfInBounds, if_neg e]

theorem Has.put_none {n : Nat} {a : Act} {l : Kn} (h : Has n a l) (v : Value) : Has n (a.put none v) l := h
theorem Has.put_any {n : Nat} {a : Act} {l : Kn} {dst : Option Nat} {d : Nat} (h : Has n a l) (hdst : dst = some d) (hd : Nat.blt d n = true) (v : Value) : Has n (a.put dst v) ((d, v) :: l) := by
  subst hdst; exact h.put hd v

/-- What is said of a frame is said in another's words. -/
def Sub (l l' : Kn) : Prop := ∀ t v, look l' t = some v → look l t = some v
theorem Sub.nil {l : Kn} : Sub l [] := fun _ _ h => by simp [look] at h
theorem Sub.cons {l l' : Kn} {t : Nat} {v : Value} (h : look l t = some v) (hs : Sub l l') : Sub l ((t, v) :: l') := fun s u hu => by
  unfold look at hu
  cases hb : Nat.beq t s
  · rw [hb] at hu; exact hs s u hu
  · rw [hb] at hu
    have : t = s := by simpa using hb
    subst this
    simpa using h.trans (by simpa using hu)
theorem Sub.int {l l' : Kn} {t : Nat} {k : IntKind} {x y : Int} (h : look l t = some (.int k x)) (e : x = y) (hs : Sub l l') : Sub l ((t, .int k y) :: l') := Sub.cons (e ▸ h) hs
theorem Sub.eq {l l' : Kn} {t : Nat} {u v : Value} (h : look l t = some u) (e : u = v) (hs : Sub l l') : Sub l ((t, v) :: l') := Sub.cons (e ▸ h) hs
theorem Sub.refl {l : Kn} : Sub l l := fun _ _ h => h
theorem Has.sub {n : Nat} {a : Act} {l l' : Kn} (h : Has n a l) (hs : Sub l l') : Has n a l' := ⟨h.size, h.defers, fun t v hv => h.got t v (hs t v hv)⟩

/-! ## Memory -/
inductive Ent where
  | row (g : Nat) (cs : List Value)
  | obj (g : Nat) (o : Obj)
def Ent.at : Ent → Nat | .row g _ => g | .obj g _ => g
/-- A block of cells, known whole; none of them is frozen. -/
def Row (w : World) (g : Nat) (cs : List Value) : Prop := ∃ T lo hi, w.heap[g]? = some (.cells cs.toArray T (lo, hi)) ∧ ∀ i, i < cs.length → ¬ (lo ≤ i ∧ i < hi)
def Obj.noCells : Obj → Prop | .cells .. => False | _ => True
def Ent.holds (w : World) : Ent → Prop
  | .row g cs => Row w g cs
  | .obj g o => w.heap[g]? = some o ∧ Obj.noCells o

theorem Row.lt {w : World} {g : Nat} {cs : List Value} (h : Row w g cs) : g < w.heap.size := by
  obtain ⟨T, lo, hi, h, _⟩ := h
  exact (Array.getElem?_eq_some_iff.1 h).1
theorem Row.cell {w : World} {g i : Nat} {cs : List Value} {v : Value} (h : Row w g cs) (hv : cs[i]? = some v) : w.cell? ⟨g, i, none⟩ = some v := by
  obtain ⟨T, lo, hi, h, _⟩ := h
  simp [World.cell?, h, hv]
theorem Row.frozen {w : World} {g i : Nat} {cs : List Value} (h : Row w g cs) (hi' : i < cs.length) : w.frozen? ⟨g, i, none⟩ = false := by
  obtain ⟨T, lo, hi, h, hf⟩ := h
  have := hf i hi'
  simp only [World.frozen?, h]
  simp; omega
theorem Ent.lt {w : World} {e : Ent} (h : e.holds w) : e.at < w.heap.size := by
  cases e with
  | row g cs => exact Row.lt h
  | obj g o => exact (Array.getElem?_eq_some_iff.1 h.1).1
theorem Ent.keep {w w' : World} {e : Ent} (h : e.holds w) (hh : w'.heap[e.at]? = w.heap[e.at]?) : e.holds w' := by
  cases e with
  | row g cs => obtain ⟨T, lo, hi, h, hf⟩ := h; exact ⟨T, lo, hi, by rw [← h]; exact hh, hf⟩
  | obj g o => exact ⟨by rw [← h.1]; exact hh, h.2⟩

/-- The world w: what was there in w0 is as it was but for blocks with p; these blocks are there. -/
structure St (p : Nat → Prop) (w0 w : World) (L : List Ent) : Prop where
  frm : Frm p w0 w
  holds : ∀ e ∈ L, e.holds w
  dist : (L.map Ent.at).Nodup
  mine : ∀ e ∈ L, p e.at ∨ w0.heap.size ≤ e.at

theorem St.start (p : Nat → Prop) (w : World) : St p w w [] := ⟨Frm.refl _ _, (fun _ h => by cases h), (by simp), (fun _ h => by cases h)⟩
theorem St.ext {p : Nat → Prop} {w0 w w' : World} {L : List Ent} (h : St p w0 w L) (hf : Frm (fun _ => False) w w') : St p w0 w' L :=
  ⟨h.frm.trans (hf.mono (fun _ h => h.elim)), fun e he => Ent.keep (h.holds e he) (hf.block _ (Ent.lt (h.holds e he)) (fun h => h)), h.dist, h.mine⟩
theorem St.drew {p : Nat → Prop} {w0 w : World} {L : List Ent} (h : St p w0 w L) : St p w0 w.drew L := h.ext (Frm.drew (Frm.refl _ _))
theorem St.drewN {p : Nat → Prop} {w0 w : World} {L : List Ent} (h : St p w0 w L) (m : Nat) : St p w0 (w.drewN m) L := h.ext (Frm.drewN (Frm.refl _ _) m)
theorem St.add {p : Nat → Prop} {w0 w w' : World} {L : List Ent} {e : Ent} (h : St p w0 w L) (hf : Frm (fun _ => False) w w') (hg : w.heap.size ≤ e.at) (he : e.holds w') : St p w0 w' (e :: L) := by
  refine ⟨h.frm.trans (hf.mono (fun _ h => h.elim)), ?_, ?_, ?_⟩
  · intro e' he'
    rcases List.mem_cons.1 he' with rfl | he'
    · exact he
    · exact (h.ext hf).holds e' he'
  · simp only [List.map_cons, List.nodup_cons]
    refine ⟨fun hm => ?_, h.dist⟩
    obtain ⟨e', he', heq⟩ := List.mem_map.1 hm
    have := Ent.lt (h.holds e' he')
    omega
  · intro e' he'
    rcases List.mem_cons.1 he' with rfl | he'
    · exact .inr (Nat.le_trans h.frm.size hg)
    · exact h.mine e' he'
theorem St.sub {p : Nat → Prop} {w0 w : World} {L L' : List Ent} (h : St p w0 w L) (hs : L'.Sublist L) : St p w0 w L' :=
  ⟨h.frm, fun e he => h.holds e (hs.subset he), h.dist.sublist (hs.map _), fun e he => h.mine e (hs.subset he)⟩
theorem St.perm {p : Nat → Prop} {w0 w : World} {L L' : List Ent} (h : St p w0 w L) (hs : L'.Perm L) : St p w0 w L' :=
  ⟨h.frm, fun e he => h.holds e (hs.subset he), (hs.map Ent.at).nodup_iff.2 h.dist, fun e he => h.mine e (hs.subset he)⟩
theorem St.tail {p : Nat → Prop} {w0 w : World} {e : Ent} {L : List Ent} (h : St p w0 w (e :: L)) : St p w0 w L := h.sub (List.sublist_cons_self _ _)

/-- In the list L stands a block g with cells cs. -/
class At (L : List Ent) (g : Nat) (cs : outParam (List Value)) : Prop where
  mem : Ent.row g cs ∈ L
instance {L : List Ent} {g : Nat} {cs : List Value} : At (.row g cs :: L) g cs := ⟨List.mem_cons_self ..⟩
instance {e : Ent} {L : List Ent} {g : Nat} {cs : List Value} [h : At L g cs] : At (e :: L) g cs := ⟨List.mem_cons_of_mem _ h.mem⟩
class AtO (L : List Ent) (g : Nat) (o : outParam Obj) : Prop where
  mem : Ent.obj g o ∈ L
instance {L : List Ent} {g : Nat} {o : Obj} : AtO (.obj g o :: L) g o := ⟨List.mem_cons_self ..⟩
instance {e : Ent} {L : List Ent} {g : Nat} {o : Obj} [h : AtO L g o] : AtO (e :: L) g o := ⟨List.mem_cons_of_mem _ h.mem⟩
/-- L' is L, block e.at being e. -/
class Put (L : List Ent) (g : Nat) (e : Ent) (L' : outParam (List Ent)) : Prop where
  ok : e.at = g → ∃ A B e', L = A ++ e' :: B ∧ L' = A ++ e :: B ∧ e'.at = g
instance {L : List Ent} {g : Nat} {cs : List Value} {e : Ent} : Put (.row g cs :: L) g e (e :: L) := ⟨fun _ => ⟨[], L, _, rfl, rfl, rfl⟩⟩
instance {L : List Ent} {g : Nat} {o : Obj} {e : Ent} : Put (.obj g o :: L) g e (e :: L) := ⟨fun _ => ⟨[], L, _, rfl, rfl, rfl⟩⟩
instance {d : Ent} {L L' : List Ent} {g : Nat} {e : Ent} [h : Put L g e L'] : Put (d :: L) g e (d :: L') :=
  ⟨fun he => let ⟨A, B, e', h1, h2, h3⟩ := h.ok he; ⟨d :: A, B, e', by rw [h1]; rfl, by rw [h2]; rfl, h3⟩⟩

theorem St.row {p : Nat → Prop} {w0 w : World} {L : List Ent} {g : Nat} {cs : List Value} (h : St p w0 w L) [ha : At L g cs] : Row w g cs := h.holds _ ha.mem
theorem St.cell {p : Nat → Prop} {w0 w : World} {L : List Ent} {g i : Nat} {cs : List Value} {v : Value} (h : St p w0 w L) [At L g cs] (hv : cs[i]? = some v) : w.cell? ⟨g, i, none⟩ = some v := (h.row (g := g)).cell hv
theorem St.object {p : Nat → Prop} {w0 w : World} {L : List Ent} {g : Nat} {o : Obj} (h : St p w0 w L) [ha : AtO L g o] : w.heap[g]? = some o := (h.holds _ ha.mem).1
theorem St.old {p : Nat → Prop} {w0 w : World} {L : List Ent} {b i : Nat} {v : Value} (h : St p w0 w L) (hp : ¬ p b) (hc : w0.cell? ⟨b, i, none⟩ = some v) : w.cell? ⟨b, i, none⟩ = some v := by
  rw [World.cell?_of_block (w := w0) (a := ⟨b, i, none⟩) (h.frm.block b (block_lt_of_cell hc) hp)]; exact hc
theorem St.oldRd {p : Nat → Prop} {w0 w : World} {L : List Ent} {b off n : Nat} {f : Nat → Int} (h : St p w0 w L) (hp : ¬ p b) (hc : Rd w0 b off n f) : Rd w b off n f := fun i hi => h.old hp (hc i hi)

/-- One block has turned, and new ones may be there. -/
theorem St.put {p : Nat → Prop} {w0 w w' : World} {L L' : List Ent} {g : Nat} {e : Ent} (h : St p w0 w L) [hp : Put L g e L'] (he : e.at = g) (hf : Frm (fun k => k = g) w w') (hh : e.holds w') : St p w0 w' L' := by
  obtain ⟨A, B, e', rfl, rfl, hg⟩ := hp.ok he
  have hd := h.dist
  have hat : (A ++ e :: B).map Ent.at = (A ++ e' :: B).map Ent.at := by simp [he, hg]
  have hmine : p g ∨ w0.heap.size ≤ g := hg ▸ h.mine e' (by simp)
  refine ⟨?_, ?_, by rw [hat]; exact hd, ?_⟩
  · rcases hmine with hm | hm
    · exact h.frm.trans (hf.mono (fun k hk => by subst hk; exact hm))
    · exact Frm.own h.frm hf (fun k hk => by omega)
  · intro x hx
    by_cases hxe : x.at = g
    · rcases List.mem_append.1 hx with hx | hx
      · exfalso
        simp only [List.map_append, List.map_cons, List.nodup_append] at hd
        exact hd.2.2 x.at (List.mem_map_of_mem hx) e'.at (by simp) (by rw [hxe, hg])
      · rcases List.mem_cons.1 hx with rfl | hx
        · exact hh
        · exfalso
          simp only [List.map_append, List.map_cons, List.nodup_append, List.nodup_cons] at hd
          exact hd.2.1.1 (by rw [hg, ← hxe]; exact List.mem_map_of_mem hx)
    · have hx' : x ∈ A ++ e' :: B := by
        rcases List.mem_append.1 hx with hx | hx
        · exact List.mem_append_left _ hx
        · rcases List.mem_cons.1 hx with rfl | hx
          · exact absurd he hxe
          · exact List.mem_append_right _ (List.mem_cons_of_mem _ hx)
      exact Ent.keep (h.holds x hx') (hf.block _ (Ent.lt (h.holds x hx')) hxe)
  · intro x hx
    rcases List.mem_append.1 hx with hx | hx
    · exact h.mine x (List.mem_append_left _ hx)
    · rcases List.mem_cons.1 hx with rfl | hx
      · rw [he]; exact hmine
      · exact h.mine x (List.mem_append_right _ (List.mem_cons_of_mem _ hx))

/-- A block brought to the front, and back with other cells. -/
theorem St.swap {p : Nat → Prop} {w0 w : World} {L L' : List Ent} {g : Nat} {cs cs' : List Value} (h : St p w0 w L) [ha : At L g cs] [hp : Put L g (.row g cs') L'] :
    ∃ R, St p w0 w (.row g cs :: R) ∧ ∀ w', St p w0 w' (.row g cs' :: R) → St p w0 w' L' := by
  obtain ⟨A, B, e', rfl, rfl, hg⟩ := hp.ok rfl
  have he : e' = .row g cs := by
    have hd := h.dist
    have hm := ha.mem
    simp only [List.map_append, List.map_cons, List.nodup_append, List.nodup_cons] at hd
    rcases List.mem_append.1 hm with hm | hm
    · exact absurd rfl (hd.2.2 g (List.mem_map_of_mem (f := Ent.at) hm) g (by simp [hg]))
    · rcases List.mem_cons.1 hm with hm | hm
      · exact hm.symm
      · exact absurd (by rw [hg]; exact List.mem_map_of_mem (f := Ent.at) hm) hd.2.1.1
  subst he
  exact ⟨A ++ B, h.perm List.perm_middle.symm, fun w' h' => h'.perm List.perm_middle⟩
theorem Row.setCell {w : World} {g i : Nat} {cs : List Value} {v : Value} (h : Row w g cs) : Row (w.setCell ⟨g, i, none⟩ v) g (cs.set i v) := by
  obtain ⟨T, lo, hi, h, hf⟩ := h
  refine ⟨T, lo, hi, ?_, by simpa using hf⟩
  simp [World.setCell, Array.getElem?_modify, h]
theorem Row.new {w : World} {cs : Array Value} {T : TypeId} : Row (w.alloc (.cells cs T)) w.heap.size cs.toList :=
  ⟨T, 0, 0, (by rw [heap_alloc_new]), fun i _ h => by omega⟩
end Go.Proofs.YtodaanhhnjkncaaDoor
