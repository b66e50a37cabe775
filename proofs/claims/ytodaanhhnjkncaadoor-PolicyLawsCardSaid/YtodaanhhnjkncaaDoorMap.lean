/- The engine: maps with integer keys. -/
import Derived.Test.YtodaanhhnjkncaaDoorStr
namespace Go.Proofs.YtodaanhhnjkncaaDoor
open Go.RowKit

section
variable {P : Program} {C : World → Prop} {ops : Array Oper} {Q : Exit → Act → World → Prop} {n : Nat} {p : Nat → Prop} {w0 : World} {o : Oper} {rest : List Oper} {l : Kn} {L : List Ent}

/-- What keys of a type may be relied on for: K says which values are keys. -/
structure KeyP (P : Program) (kt : TypeId) (K : Value → Prop) : Prop where
  check : ∀ b w v, K v → (Instr.checkKey b 10000 kt v).run P w = .ok () w
  find : ∀ w x (es : List MapEntry), K x → (∀ e ∈ es, K e.key) →
    ((Instr.findKey kt x es).run P w = .ok none w ∧ ∀ e ∈ es, e.key ≠ x) ∨ ∃ j e0, (Instr.findKey kt x es).run P w = .ok (some (j, e0.val)) w ∧ es[j]? = some e0 ∧ e0.key = x
  stays : ∀ w v, K v → (Instr.keyThatStays v v).run P w = .ok v w
def KInt (k : IntKind) : Value → Prop := fun v => ∃ x, v = .int k x
theorem KInt.mk (k : IntKind) (x : Int) : KInt k (.int k x) := ⟨x, rfl⟩
theorem keyI {kt : TypeId} {k : IntKind} (hk : P.underlying kt = some (.int k)) : KeyP P kt (KInt k) where
  check := by rintro b w v ⟨x, rfl⟩; exact MapKept.run_checkKey hk (by rfl) b 9999
  find := by
    rintro w v es ⟨x, rfl⟩ h
    rcases MapKept.findNow_spec (d := .int k) (k := .int k x) rfl es 0 (fun e he => by obtain ⟨y, hy⟩ := h e he; rw [hy]; rfl) with ⟨h1, h2⟩ | ⟨j, e, h1, h2, h3⟩
    · exact .inl ⟨MapKept.run_findKey hk h1, h2⟩
    · exact .inr ⟨j, e, by rw [MapKept.run_findKey hk h1, Nat.zero_add], h2, h3⟩
  stays := by rintro w v ⟨x, rfl⟩; exact MapKept.run_keyThatStays (d := .int k) rfl
/-- The entries of a map, each once, read as m. -/
structure IMap (K : Value → Prop) (es : Array MapEntry) (m : Value → Option Value) : Prop where
  keys : ∀ e ∈ es.toList, K e.key
  nodup : (es.toList.map (·.key)).Nodup
  get : ∀ x v, m x = some v ↔ ∃ e ∈ es.toList, e.key = x ∧ e.val = v
theorem Frm.keep_obj {p : Nat → Prop} {w w' : World} {g : Nat} {ob : Obj} (h : Frm p w w') (hp : ¬ p g) (hb : w.heap[g]? = some ob) : w'.heap[g]? = some ob := by
  rw [h.block g (Array.getElem?_eq_some_iff.1 hb).1 hp]; exact hb
theorem St.oldRow {p : Nat → Prop} {w0 w : World} {L : List Ent} {g : Nat} {cs : List Value} (h : St p w0 w L) (hp : ¬ p g) (hr : Row w0 g cs) : Row w g cs := by
  obtain ⟨T, lo, hi, h1, h2⟩ := hr
  exact ⟨T, lo, hi, by rw [h.frm.block g (Array.getElem?_eq_some_iff.1 h1).1 hp]; exact h1, h2⟩
theorem St.front {p : Nat → Prop} {w0 w : World} {L R : List Ent} (E : List Ent) (h : St p w0 w (E ++ (R ++ L))) : St p w0 w (R ++ (E ++ L)) := h.perm (by
  rw [← List.append_assoc, ← List.append_assoc]; exact List.Perm.append_right _ List.perm_append_comm)
theorem IMap.empty (K : Value → Prop) : IMap K #[] (fun _ => none) := ⟨by simp, by simp, by simp⟩
theorem IMap.none_of {K : Value → Prop} {es : Array MapEntry} {m : Value → Option Value} (h : IMap K es m) {x : Value} (hf : ∀ e ∈ es.toList, e.key ≠ x) : m x = none := by
  cases hm : m x with
  | none => rfl
  | some v =>
    obtain ⟨e, he, hx, _⟩ := (h.get x v).1 hm
    exact absurd hx (hf e he)
theorem IMap.key {K : Value → Prop} {es : Array MapEntry} {m : Value → Option Value} (h : IMap K es m) {x v : Value} (hm : m x = some v) : K x := by
  obtain ⟨e, he, hx, _⟩ := (h.get x v).1 hm
  exact hx ▸ h.keys e he
theorem IMap.zero {K : Value → Prop} {es : Array MapEntry} {m : Value → Option Value} (h : IMap K es m) (h0 : es.size = 0) (x : Value) : m x = none :=
  h.none_of fun e he => by have := Array.eq_empty_of_size_eq_zero h0; subst this; simp at he
open Classical in
noncomputable def updM {α β : Type} (m : α → Option β) (x : α) (v : Option β) : α → Option β := fun y => if y = x then v else m y
theorem updM_eq {α β : Type} (m : α → Option β) (x : α) (v : Option β) : updM m x v x = v := by unfold updM; rw [if_pos rfl]
theorem updM_ne {α β : Type} (m : α → Option β) {x y : α} (v : Option β) (h : y ≠ x) : updM m x v y = m y := by unfold updM; rw [if_neg h]
theorem findKey_or {kt : Nat} {K : Value → Prop} (hk : KeyP P kt K) {x : Value} (hx : K x) {es : Array MapEntry} {m : Value → Option Value} (hM : IMap K es m) (w : World) :
    (m x = none ∧ (∀ e ∈ es.toList, e.key ≠ x) ∧ (Instr.findKey kt x es.toList).run P w = .ok none w) ∨
    ∃ j e0, m x = some e0.val ∧ es.toList[j]? = some e0 ∧ e0.key = x ∧ (Instr.findKey kt x es.toList).run P w = .ok (some (j, e0.val)) w := by
  rcases hk.find w x es.toList hx hM.keys with ⟨h1, h2⟩ | ⟨j, e0, h1, h2, h3⟩
  · exact .inl ⟨hM.none_of h2, h2, h1⟩
  · exact .inr ⟨j, e0, (hM.get _ _).2 ⟨e0, List.mem_of_getElem? h2, h3, rfl⟩, h2, h3, h1⟩

/-- Where in the list a block stands; what the list is with another in its place. -/
class Loc (L : List Ent) (g : Nat) (e : outParam Ent) (F : outParam (Ent → List Ent)) : Prop where
  ok : ∃ A B, L = A ++ e :: B ∧ F = fun x => A ++ x :: B
instance {L : List Ent} {g : Nat} {cs : List Value} : Loc (.row g cs :: L) g (.row g cs) (fun x => x :: L) := ⟨⟨[], L, rfl, rfl⟩⟩
instance {L : List Ent} {g : Nat} {ob : Obj} : Loc (.obj g ob :: L) g (.obj g ob) (fun x => x :: L) := ⟨⟨[], L, rfl, rfl⟩⟩
instance {d : Ent} {L : List Ent} {g : Nat} {e : Ent} {F : Ent → List Ent} [h : Loc L g e F] : Loc (d :: L) g e (fun x => d :: F x) := ⟨let ⟨A, B, h1, h2⟩ := h.ok; ⟨d :: A, B, by rw [h1]; rfl, by rw [h2]; rfl⟩⟩
instance {E L : List Ent} {g : Nat} {e : Ent} {F : Ent → List Ent} [h : Loc L g e F] : Loc (E ++ L) g e (fun x => E ++ F x) := ⟨let ⟨A, B, h1, h2⟩ := h.ok; ⟨E ++ A, B, by rw [h1, List.append_assoc], by rw [h2]; funext x; simp⟩⟩
/-- A map's value: nil, or a block. -/
def MapV (r : Option Nat) (es : Array MapEntry) (L : List Ent) : Prop := (r = none ∧ es = #[]) ∨ ∃ g c, r = some g ∧ Ent.obj g (.map es c) ∈ L
/-- A map's value in a world: nil, or a block. -/
def MapW (w : World) (r : Option Nat) (es : Array MapEntry) : Prop := (r = none ∧ es = #[]) ∨ ∃ g c, r = some g ∧ w.heap[g]? = some (.map es c)
theorem mapAt {r : Option Nat} {es : Array MapEntry} (h : MapV r es L) : ∀ w, St p w0 w L → MapW w r es := fun _ hS => h.imp id fun ⟨g, c, e, hm⟩ => ⟨g, c, e, (hS.holds _ hm).1⟩
theorem mapNil : ∀ w, St p w0 w L → MapW w none #[] := fun _ _ => .inl ⟨rfl, rfl⟩
theorem mapBlk {es : Array MapEntry} {c : Nat} (gm : Nat) (h : Ent.obj gm (.map es c) ∈ L) : ∀ w, St p w0 w L → MapW w (some gm) es := fun _ hS => .inr ⟨gm, c, rfl, (hS.holds _ h).1⟩
theorem mapOld {r : Option Nat} {es : Array MapEntry} (hp : ∀ g, ¬ p g) (h : MapW w0 r es) : ∀ w, St p w0 w L → MapW w r es := fun _ hS => h.imp id fun ⟨g, c, e, hm⟩ => ⟨g, c, e, hS.frm.keep_obj (hp g) hm⟩
theorem MapV.mono {r : Option Nat} {es : Array MapEntry} {L L' : List Ent} (h : MapV r es L) (hs : L.Sublist L') : MapV r es L' := h.imp id (fun ⟨g, c, e, hm⟩ => ⟨g, c, e, hs.subset hm⟩)
section
variable {t kt et d : Nat} {x xi : Operand} {K : Value → Prop} {A : Value} {r : Option Nat} {es : Array MapEntry} {m : Value → Option Value} {z : Value}
theorem run_lookup {ok : Bool} {a : Act} {w : World} (ho : o.op = .lookup t x xi ok) (h1 : a.eval x = .map r) (h2 : a.eval xi = A) (hu : P.underlying t = some (.map kt et)) (hk : KeyP P kt K) (hA : K A) (hz : (P.info? et).bind (·.zero) = some z)
    (hV : MapW w r es) (hM : IMap K es m) : (execOp a.eval o).run P w = .ok (.value (if ok then .tuple #[(m A).getD z, .bool (m A).isSome] else (m A).getD z)) w := by
  have hc : ∀ b, (Instr.checkKey b 10000 kt A).run P w = .ok () w := fun b => hk.check b w A hA
  have hz' : (zeroValue et).run P w = .ok z w := run_zeroValue hz w
  rcases findKey_or hk hA hM w with ⟨hm, _, hf⟩ | ⟨j, e0, hm, _, _, hf⟩
  · rcases hV with ⟨rfl, rfl⟩ | ⟨g, c, rfl, hmem⟩
    · have hf' : (Instr.findKey kt A []).run P w = .ok none w := hf
      cases ok <;> simp [execOp, ho, h1, h2, Instr.lookup, run_underlying hu, hc, hf', hm, hz', Result.andThen]
    · have hob := hmem
      cases ok <;> simp [execOp, ho, h1, h2, Instr.lookup, run_underlying hu, MapKept.run_getObj_map hob, hc, hf, hm, hz', Result.andThen]
  · rcases hV with ⟨rfl, rfl⟩ | ⟨g, c, rfl, hmem⟩
    · have hf' : (Instr.findKey kt A []).run P w = .ok (some (j, e0.val)) w := hf
      cases ok <;> simp [execOp, ho, h1, h2, Instr.lookup, run_underlying hu, hc, hf', hm, Result.andThen]
    · have hob := hmem
      cases ok <;> simp [execOp, ho, h1, h2, Instr.lookup, run_underlying hu, MapKept.run_getObj_map hob, hc, hf, hm, Result.andThen]
theorem v_lookup (ho : o.op = .lookup t x xi false) (hx : ev l x = some (.map r)) (hi : ev l xi = some A) (hu : P.underlying t = some (.map kt et)) (hk : KeyP P kt K) (hA : K A) (hz : (P.info? et).bind (·.zero) = some z)
    (hV : ∀ w, C w → MapW w r es) (hM : IMap K es m) : Val P C n l o ((m A).getD z) := fun a w ha hS => by
  simpa using run_lookup ho (ha.ev hx) (ha.ev hi) hu hk hA hz (hV _ hS) hM
theorem v_lookup2 (ho : o.op = .lookup t x xi true) (hx : ev l x = some (.map r)) (hi : ev l xi = some A) (hu : P.underlying t = some (.map kt et)) (hk : KeyP P kt K) (hA : K A) (hz : (P.info? et).bind (·.zero) = some z)
    (hV : ∀ w, C w → MapW w r es) (hM : IMap K es m) : Val P C n l o (.tuple #[(m A).getD z, .bool (m A).isSome]) := fun a w ha hS => by
  simpa using run_lookup ho (ha.ev hx) (ha.ev hi) hu hk hA hz (hV _ hS) hM
theorem v_len_map (ho : o.op = .call { callee := .builtin .len, args := #[x], argTypes := #[t] }) (hx : ev l x = some (.map r)) (hu : P.underlying t = some (.map kt et)) (hV : ∀ w, C w → MapW w r es) : Val P C n l o (.int .i64 es.size) := fun a w ha hS => by
  have hx' : evs l [x] = some [.map r] := by simp [evs, hx]
  obtain ⟨cs, h⟩ := run_builtin (P := P) (w := w) (xs := [x]) ho hx' ha
  rw [h]
  rcases hV w hS with ⟨rfl, rfl⟩ | ⟨g, c, rfl, hob⟩
  · simp [builtin, Builtin.len_, run_underlying hu, goInt]
  · simp [builtin, Builtin.len_, run_underlying hu, goInt, getObj, Sem.run, hob]
theorem WL.makeMap (ho : o.op = .makeMap t none) (hg : On ops o l) (hd : o.dst = some d) (hn : Nat.blt d n = true)
    (h : ∀ g, w0.heap.size ≤ g → WL P ops Q n p w0 rest ((d, .map (some g)) :: l) (.obj g (.map #[] 0) :: L)) : WL P ops Q n p w0 (o :: rest) l L := by
  refine WL.op hg hd hn fun a w ha hS => ?_
  refine ⟨_, _, _, ?_, St.newObj (ob := .map #[] 0) hS trivial, h _ hS.frm.size⟩
  unfold execOp
  simp [ho, Instr.makeMap, newObj, Sem.run]
theorem Frm.setObj {w : World} {g : Nat} {ob : Obj} : Frm (fun b => b = g) w { w with heap := w.heap.setIfInBounds g ob } :=
  ⟨rfl, rfl, rfl, by simp, fun k _ hn => by simp [Ne.symm hn], Nat.le_refl _⟩
theorem run_mapUpdate {c g : Nat} {v : Value} {w : World} (hu : P.underlying t = some (.map kt et)) (hk : KeyP P kt K) (hA : K A) (hob : w.heap[g]? = some (.map es c)) (hM : IMap K es m) :
    ∃ es' c', (Instr.mapUpdate t (.map (some g)) A v).run P w = .ok () { w with heap := w.heap.setIfInBounds g (.map es' c') } ∧ IMap K es' (updM m A (some v)) ∧ es'.size = (if (m A).isSome then es.size else es.size + 1) ∧ (MapKept.Stamped es c → MapKept.Stamped es' c') := by
  have hc : ∀ b, (Instr.checkKey b 10000 kt A).run P w = .ok () w := fun b => hk.check b w A hA
  rcases findKey_or hk hA hM w with ⟨hm, hn, hf⟩ | ⟨j, e0, hm, hj, hke, hf⟩
  · refine ⟨es.push { key := A, val := v, born := c }, c + 1, ?_, ⟨?_, ?_, ?_⟩, by simp [hm], fun h => MapKept.stamped_push h hn⟩
    · simp [Instr.mapUpdate, run_underlying hu, MapKept.run_getObj_map hob, MapKept.run_setObj_map _ hob, hc, hf, Result.andThen]
    · intro e he
      rw [Array.toList_push] at he
      rcases List.mem_append.1 he with he | he
      · exact hM.keys e he
      · simp only [List.mem_singleton] at he; subst he; exact hA
    · rw [Array.toList_push, List.map_append, List.nodup_append]
      refine ⟨hM.nodup, by simp, ?_⟩
      intro a ha b hb e
      simp only [List.map_cons, List.map_nil, List.mem_singleton] at hb
      obtain ⟨e1, he1, rfl⟩ := List.mem_map.1 ha
      exact hn e1 he1 (by rw [e, hb])
    · intro y u
      rw [Array.toList_push]
      unfold updM
      by_cases hy : y = A
      · subst hy
        rw [if_pos rfl]
        constructor
        · intro h; cases h; exact ⟨_, List.mem_append_right _ (List.mem_singleton.2 rfl), rfl, rfl⟩
        · rintro ⟨e, he, h1, rfl⟩
          rcases List.mem_append.1 he with he | he
          · exact absurd h1 (hn e he)
          · rw [List.mem_singleton.1 he]
      · rw [if_neg hy, hM.get y u]
        constructor
        · rintro ⟨e, he, h1, h2⟩; exact ⟨e, List.mem_append_left _ he, h1, h2⟩
        · rintro ⟨e, he, h1, h2⟩
          rcases List.mem_append.1 he with he | he
          · exact ⟨e, he, h1, h2⟩
          · rw [List.mem_singleton.1 he] at h1; exact absurd h1.symm hy
  · have hjl := (List.getElem?_eq_some_iff.1 hj).1
    have hej : es[j]? = some e0 := by simpa using hj
    have hlen : ∀ i, (es.toList.modify j fun e => { e with key := A, val := v })[i]? = (es.toList[i]?).map fun e => if j = i then { e with key := A, val := v } else e := fun i => by
      rw [List.getElem?_modify]; cases es.toList[i]? <;> simp
    refine ⟨es.modify j fun e => { e with key := A, val := v }, c, ?_, ⟨?_, ?_, ?_⟩, by simp [hm], fun h => MapKept.stamped_modify h j _ (fun _ _ => rfl) (fun e _ he => by rw [hej] at he; cases he; exact hke.symm)⟩
    · simp [Instr.mapUpdate, run_underlying hu, MapKept.run_getObj_map hob, MapKept.run_setObj_map _ hob, hc, hf, hej, hke, hk.stays w A hA, Result.andThen]
    · intro e he
      rw [Array.toList_modify] at he
      obtain ⟨i, hi⟩ := List.mem_iff_getElem?.1 he
      rw [hlen] at hi
      cases hq : es.toList[i]? with
      | none => simp [hq] at hi
      | some e1 =>
        simp only [hq, Option.map_some, Option.some.injEq] at hi
        split at hi
        · subst hi; exact hA
        · subst hi; exact hM.keys _ (List.mem_of_getElem? hq)
    · have : (es.modify j fun e => { e with key := A, val := v }).toList.map (·.key) = es.toList.map (·.key) := by
        apply List.ext_getElem?
        intro i
        rw [Array.toList_modify, List.getElem?_map, List.getElem?_map, hlen]
        by_cases hi : j = i
        · subst hi; simp [hj, hke]
        · simp [hi]
      rw [this]; exact hM.nodup
    · intro y u
      rw [Array.toList_modify]
      have huniq : ∀ i e, es.toList[i]? = some e → e.key = A → i = j := fun i e hi hA' => by
        have h1 : (es.toList.map (·.key))[i]? = some A := by rw [List.getElem?_map, hi]; simp [hA']
        have h2 : (es.toList.map (·.key))[j]? = some A := by rw [List.getElem?_map, hj]; simp [hke]
        have hil := (List.getElem?_eq_some_iff.1 h1).1
        have hjl := (List.getElem?_eq_some_iff.1 h2).1
        exact (List.getElem?_inj hil hM.nodup).1 (by rw [h1, h2])
      unfold updM
      by_cases hy : y = A
      · subst hy
        rw [if_pos rfl]
        constructor
        · intro h; cases h
          refine ⟨{ e0 with key := y, val := v }, List.mem_iff_getElem?.2 ⟨j, by rw [hlen, hj]; simp⟩, rfl, rfl⟩
        · rintro ⟨e, he, h1, rfl⟩
          obtain ⟨i, hi⟩ := List.mem_iff_getElem?.1 he
          rw [hlen] at hi
          cases hq : es.toList[i]? with
          | none => simp [hq] at hi
          | some e1 =>
            simp only [hq, Option.map_some, Option.some.injEq] at hi
            split at hi
            · subst hi; rfl
            · rename_i hne
              subst hi
              exact absurd (huniq i _ hq h1).symm hne
      · rw [if_neg hy, hM.get y u]
        constructor
        · rintro ⟨e, he, h1, h2⟩
          obtain ⟨i, hi⟩ := List.mem_iff_getElem?.1 he
          refine ⟨e, List.mem_iff_getElem?.2 ⟨i, ?_⟩, h1, h2⟩
          rw [hlen, hi, Option.map_some, if_neg]
          intro e'; subst e'
          rw [hj] at hi; cases hi
          exact hy (h1.symm.trans hke)
        · rintro ⟨e, he, h1, h2⟩
          obtain ⟨i, hi⟩ := List.mem_iff_getElem?.1 he
          rw [hlen] at hi
          cases hq : es.toList[i]? with
          | none => simp [hq] at hi
          | some e1 =>
            simp only [hq, Option.map_some, Option.some.injEq] at hi
            split at hi
            · subst hi; exact absurd h1.symm hy
            · subst hi; exact ⟨_, List.mem_of_getElem? hq, h1, h2⟩
theorem WL.mapUpdate {g c : Nat} {xv : Operand} {v : Value} {F : Ent → List Ent} (ho : o.op = .mapUpdate t x xi xv) (hx : ev l x = some (.map (some g))) (hi : ev l xi = some A) (hv : ev l xv = some v) (hu : P.underlying t = some (.map kt et)) (hk : KeyP P kt K) (hA : K A)
    [hL : Loc L g (.obj g (.map es c)) F] (hM : IMap K es m) (hg : On ops o l) (hd : o.dst = none)
    (h : ∀ es' c', IMap K es' (updM m A (some v)) → es'.size = (if (m A).isSome then es.size else es.size + 1) → WL P ops Q n p w0 rest l (F (.obj g (.map es' c')))) : WL P ops Q n p w0 (o :: rest) l L := by
  refine WL.act hg hd fun a w ha hS => ?_
  obtain ⟨A', B', rfl, rfl⟩ := hL.ok
  have hob := (hS.holds (.obj g (.map es c)) (by simp)).1
  obtain ⟨es', c', hr, hM', hsz, _⟩ := run_mapUpdate (P := P) (A := A) (v := v) (w := w) hu hk hA hob hM
  refine ⟨{ w with heap := w.heap.setIfInBounds g (.map es' c') }, A' ++ .obj g (.map es' c') :: B', .inl ?_, ?_, h es' c' hM' hsz⟩
  · have h1 := ha.ev hx; have h2 := ha.ev hi; have h3 := ha.ev hv
    unfold execOp
    simp [ho, h1, h2, h3, hr]
  · exact hS.put (g := g) (e := .obj g (.map es' c')) (hp := ⟨fun _ => ⟨A', B', _, rfl, rfl, rfl⟩⟩) rfl Frm.setObj ⟨by
      have hlt := (Array.getElem?_eq_some_iff.1 hob).1
      simp [hlt], trivial⟩
theorem run_delete {c g : Nat} {w : World} {ty : Nat} (hu : P.underlying t = some (.map kt et)) (hk : KeyP P kt K) (hA : K A) (hob : w.heap[g]? = some (.map es c)) (hM : IMap K es m) :
    ∃ es', (Builtin.delete_ #[t, kt] ty #[.map (some g), A]).run P w = .ok (.tuple #[]) { w with heap := w.heap.setIfInBounds g (.map es' c) } ∧ IMap K es' (updM m A none) ∧ es'.size = (if (m A).isSome then es.size - 1 else es.size) ∧ (MapKept.Stamped es c → MapKept.Stamped es' c) := by
  have hc : ∀ b, (Instr.checkKey b 10000 kt A).run P w = .ok () w := fun b => hk.check b w A hA
  rcases findKey_or hk hA hM w with ⟨hm, hn, hf⟩ | ⟨j, e0, hm, hj, hke, hf⟩
  · refine ⟨es, ?_, ⟨hM.keys, hM.nodup, ?_⟩, by simp [hm], id⟩
    · simp [Builtin.delete_, run_underlying hu, MapKept.run_getObj_map hob, MapKept.run_setObj_map _ hob, hc, hf, Result.andThen]
    · intro y u
      unfold updM
      by_cases hy : y = A
      · subst hy; rw [if_pos rfl]
        exact ⟨fun h => (nomatch h), fun ⟨e, he, h1, _⟩ => absurd h1 (hn e he)⟩
      · rw [if_neg hy]; exact hM.get y u
  · have hjl := (List.getElem?_eq_some_iff.1 hj).1
    have hjs : j < es.size := by simpa using hjl
    have hsub : (es.eraseIdxIfInBounds j).toList = es.toList.eraseIdx j := by
      unfold Array.eraseIdxIfInBounds
      rw [dif_pos hjs]
      simp
    have huniq : ∀ i e, es.toList[i]? = some e → e.key = A → i = j := fun i e hi hA' => by
      have h1 : (es.toList.map (·.key))[i]? = some A := by rw [List.getElem?_map, hi]; simp [hA']
      have h2 : (es.toList.map (·.key))[j]? = some A := by rw [List.getElem?_map, hj]; simp [hke]
      have hil := (List.getElem?_eq_some_iff.1 h1).1
      exact (List.getElem?_inj hil hM.nodup).1 (by rw [h1, h2])
    refine ⟨es.eraseIdxIfInBounds j, ?_, ⟨?_, ?_, ?_⟩, ?_, fun h => MapKept.stamped_erase h j⟩
    · simp [Builtin.delete_, run_underlying hu, MapKept.run_getObj_map hob, MapKept.run_setObj_map _ hob, hc, hf, Result.andThen]
    · intro e he
      rw [hsub] at he
      exact hM.keys e ((List.eraseIdx_sublist _ _).subset he)
    · rw [hsub]
      exact hM.nodup.sublist ((List.eraseIdx_sublist _ _).map _)
    · intro y u
      rw [hsub]
      unfold updM
      by_cases hy : y = A
      · subst hy; rw [if_pos rfl]
        refine ⟨fun h => (nomatch h), fun ⟨e, he, h1, _⟩ => ?_⟩
        obtain ⟨i, hi⟩ := List.mem_iff_getElem?.1 he
        rw [List.getElem?_eraseIdx] at hi
        split at hi
        · have := huniq _ _ hi h1; omega
        · have := huniq _ _ hi h1; omega
      · rw [if_neg hy, hM.get y u]
        constructor
        · rintro ⟨e, he, h1, h2⟩
          obtain ⟨i, hi⟩ := List.mem_iff_getElem?.1 he
          have hij : i ≠ j := by
            intro e'; subst e'
            rw [hj] at hi; cases hi
            exact hy (h1.symm.trans hke)
          refine ⟨e, List.mem_iff_getElem?.2 ⟨if i < j then i else i - 1, ?_⟩, h1, h2⟩
          rw [List.getElem?_eraseIdx]
          by_cases hlt : i < j
          · rw [if_pos hlt, if_pos hlt]; exact hi
          · rw [if_neg hlt, if_neg (by omega), show i - 1 + 1 = i by omega]; exact hi
        · rintro ⟨e, he, h1, h2⟩
          exact ⟨e, (List.eraseIdx_sublist _ _).subset he, h1, h2⟩
    · have := congrArg List.length hsub
      simp only [Array.length_toList, List.length_eraseIdx, hjs, if_true] at this
      rw [this, hm]
      simp
theorem WL.delete {g c : Nat} {F : Ent → List Ent} (ho : o.op = .call { callee := .builtin .delete, args := #[x, xi], argTypes := #[t, kt] }) (hx : ev l x = some (.map (some g))) (hi : ev l xi = some A) (hu : P.underlying t = some (.map kt et)) (hk : KeyP P kt K) (hA : K A)
    [hL : Loc L g (.obj g (.map es c)) F] (hM : IMap K es m) (hg : On ops o l) (hd : o.dst = none)
    (h : ∀ es', IMap K es' (updM m A none) → es'.size = (if (m A).isSome then es.size - 1 else es.size) → WL P ops Q n p w0 rest l (F (.obj g (.map es' c)))) : WL P ops Q n p w0 (o :: rest) l L := by
  refine WL.act hg hd fun a w ha hS => ?_
  obtain ⟨A', B', rfl, rfl⟩ := hL.ok
  have hob := (hS.holds (.obj g (.map es c)) (by simp)).1
  obtain ⟨es', hr, hM', hsz, _⟩ := run_delete (P := P) (ty := o.type) (A := A) (w := w) hu hk hA hob hM
  refine ⟨{ w with heap := w.heap.setIfInBounds g (.map es' c) }, A' ++ .obj g (.map es' c) :: B', .inr ⟨.tuple #[], ?_⟩, ?_, h es' hM' hsz⟩
  · have hx' : evs l [x, xi] = some [.map (some g), A] := by simp [evs, hx, hi]
    obtain ⟨cs, h⟩ := run_builtin (P := P) (w := w) (xs := [x, xi]) ho hx' ha
    rw [h]
    simp [builtin, hr]
  · exact hS.put (g := g) (e := .obj g (.map es' c)) (hp := ⟨fun _ => ⟨A', B', _, rfl, rfl, rfl⟩⟩) rfl Frm.setObj ⟨by
      have hlt := (Array.getElem?_eq_some_iff.1 hob).1
      simp [hlt], trivial⟩
end
/-! ### A thing that may be nil, and nil -/
def nilEq : TypeDesc → Value → Value → Option Bool
  | .pointer _, .pointer a, .pointer none => some a.isNone
  | .slice _, .slice a _ _, .slice none _ _ => some a.isNone
  | .map _ _, .map a, .map none => some a.isNone
  | .func _ _ _, .nilFunc, .nilFunc => some true
  | .func _ _ _, .func _ _ _, .nilFunc => some false
  | _, _, _ => none
theorem run_nilEq {t d : Nat} {ds : TypeDesc} {u v : Value} {b : Bool} {w : World} (hu : P.underlying t = some ds) (hn : nilEq ds u v = some b) : (Op.equalIn (d + 1) t u v).run P w = .ok b w := by
  unfold nilEq at hn
  rw [Op.equalIn, Sem.run_bind, run_underlying hu, Result.andThen_ok]
  split at hn <;> first
    | (cases hn; done)
    | (simp only [Option.some.injEq] at hn; subst hn; rfl)
    | (simp only [Option.some.injEq] at hn; subst hn; rename_i a; cases a <;> rfl)
    | (simp only [Option.some.injEq] at hn; subst hn; rename_i a _ _ _ _; cases a <;> rfl)
theorem v_eql_nil {t yt : TypeId} {ds : TypeDesc} {x : Operand} {u v : Value} (b : Bool) (ho : o.op = .binOp .eql t x (.const v) yt) (hx : ev l x = some u) (hu : P.underlying t = some ds) (hn : nilEq ds u v = some b) : Val P C n l o (.bool b) := fun a w ha _ => by
  have h' : (Op.equal t u v).run P w = .ok b w := run_nilEq (d := 9999) hu hn
  refine run_eq2 (v := v) ho (ha.ev hx) rfl ?_ ?_
  · unfold nilEq at hn; split at hn <;> first | (cases hn; done) | simp [eqGuard]
  · unfold nilEq at hn; split at hn <;> first | (cases hn; done) | (simp only [binOp]; simp [h'])
theorem v_neq_nil {t yt : TypeId} {ds : TypeDesc} {x : Operand} {u v : Value} (b : Bool) (ho : o.op = .binOp .neq t x (.const v) yt) (hx : ev l x = some u) (hu : P.underlying t = some ds) (hn : nilEq ds u v = some (!b)) : Val P C n l o (.bool b) := fun a w ha _ => by
  have h' : (Op.equal t u v).run P w = .ok (!b) w := run_nilEq (d := 9999) hu hn
  refine run_eq2 (v := v) ho (ha.ev hx) rfl ?_ ?_
  · unfold nilEq at hn; split at hn <;> first | (cases hn; done) | simp [eqGuard]
  · unfold nilEq at hn; split at hn <;> first | (cases hn; done) | (simp only [binOp]; simp [h'])
end
end Go.Proofs.YtodaanhhnjkncaaDoor
