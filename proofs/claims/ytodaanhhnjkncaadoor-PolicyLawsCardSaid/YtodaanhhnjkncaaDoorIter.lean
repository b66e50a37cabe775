/- The engine: ranges over maps. -/
import Derived.Test.YtodaanhhnjkncaaDoorOrd
namespace Go.Proofs.YtodaanhhnjkncaaDoor
open Go.RowKit

section
variable {P : Program} {C : World → Prop} {ops : Array Oper} {Q : Exit → Act → World → Prop} {n : Nat} {p : Nat → Prop} {w0 : World} {o : Oper} {rest : List Oper} {l : Kn} {L : List Ent}
variable {t kt et d : Nat} {x xi : Operand} {K : Value → Prop} {A : Value} {es : Array MapEntry} {m : Value → Option Value}

theorem WL.mapUpdateS {g c : Nat} {xv : Operand} {v : Value} {F : Ent → List Ent} (ho : o.op = .mapUpdate t x xi xv) (hx : ev l x = some (.map (some g))) (hi : ev l xi = some A) (hv : ev l xv = some v) (hu : P.underlying t = some (.map kt et)) (hk : KeyP P kt K) (hA : K A)
    [hL : Loc L g (.obj g (.map es c)) F] (hM : IMap K es m) (hg : On ops o l) (hd : o.dst = none)
    (h : ∀ es' c', IMap K es' (updM m A (some v)) → es'.size = (if (m A).isSome then es.size else es.size + 1) → (MapKept.Stamped es c → MapKept.Stamped es' c') → WL P ops Q n p w0 rest l (F (.obj g (.map es' c')))) : WL P ops Q n p w0 (o :: rest) l L := by
  refine WL.act hg hd fun a w ha hS => ?_
  obtain ⟨A', B', rfl, rfl⟩ := hL.ok
  have hob := (hS.holds (.obj g (.map es c)) (by simp)).1
  obtain ⟨es', c', hr, hM', hsz, hst⟩ := run_mapUpdate (P := P) (A := A) (v := v) (w := w) hu hk hA hob hM
  refine ⟨{ w with heap := w.heap.setIfInBounds g (.map es' c') }, A' ++ .obj g (.map es' c') :: B', .inl ?_, ?_, h es' c' hM' hsz hst⟩
  · have h1 := ha.ev hx; have h2 := ha.ev hi; have h3 := ha.ev hv
    unfold execOp
    simp [ho, h1, h2, h3, hr]
  · exact hS.put (g := g) (e := .obj g (.map es' c')) (hp := ⟨fun _ => ⟨A', B', _, rfl, rfl, rfl⟩⟩) rfl Frm.setObj ⟨by
      have hlt := (Array.getElem?_eq_some_iff.1 hob).1
      simp [hlt], trivial⟩

theorem WL.range {g c : Nat} (ho : o.op = .range t x) (hx : ev l x = some (.map (some g))) (hu : P.underlying t = some (.map kt et)) (hm : Ent.obj g (.map es c) ∈ L) (hg : On ops o l) (hd : o.dst = some d) (hn : Nat.blt d n = true)
    (h : ∀ r, w0.heap.size ≤ r → WL P ops Q n p w0 rest ((d, .pointer (some ⟨r, 0, none⟩)) :: l) (.obj r (.mapIter (some g) c #[] c) :: L)) : WL P ops Q n p w0 (o :: rest) l L := by
  refine WL.op hg hd hn fun a w ha hS => ?_
  have hob := (hS.holds _ hm).1
  refine ⟨_, _, _, ?_, St.newObj (ob := .mapIter (some g) c #[] c) hS trivial, h _ hS.frm.size⟩
  have h1 := ha.ev hx
  unfold execOp
  simp [ho, h1, Instr.range, run_underlying hu, MapKept.run_getObj_map hob, newObj, Sem.run, Result.andThen]
theorem WL.rangeNil (ho : o.op = .range t x) (hx : ev l x = some (.map none)) (hu : P.underlying t = some (.map kt et)) (hg : On ops o l) (hd : o.dst = some d) (hn : Nat.blt d n = true)
    (h : ∀ r, w0.heap.size ≤ r → WL P ops Q n p w0 rest ((d, .pointer (some ⟨r, 0, none⟩)) :: l) (.obj r (.mapIter none 0 #[] 0) :: L)) : WL P ops Q n p w0 (o :: rest) l L := by
  refine WL.op hg hd hn fun a w ha hS => ?_
  refine ⟨_, _, _, ?_, St.newObj (ob := .mapIter none 0 #[] 0) hS trivial, h _ hS.frm.size⟩
  have h1 := ha.ev hx
  unfold execOp
  simp [ho, h1, Instr.range, run_underlying hu, newObj, Sem.run, Result.andThen]

theorem run_choose_next (k : Nat) (hk : 0 < k) (w : World) : ∃ i w', (choose (.mapNext k)).run P w = .ok i w' ∧ i < k ∧ (w' = w ∨ w' = w.drew) := by
  rw [run_choose_drew]
  by_cases h : k ≤ 1
  · exact ⟨0, w, by simp [Question.forced, h], hk, .inl rfl⟩
  · exact ⟨_, w.drew, by simp only [Question.forced, decide_eq_true_eq, h, if_false]; rfl, Nat.mod_lt _ hk, .inr rfl⟩
theorem run_next {r g c ty : Nat} {seen : Array Nat} {w : World} (hi : w.heap[r]? = some (.mapIter (some g) c seen c)) (hm : w.heap[g]? = some (.map es c)) (hst : MapKept.Stamped es c) :
    ((∀ e ∈ es.toList, e.born ∈ seen.toList) ∧ ∃ w', (w' = w ∨ w' = w.drew) ∧ (Instr.next (.pointer (some ⟨r, 0, none⟩)) false ty).run P w = .ok (.tuple #[.bool false]) w') ∨
    ∃ e w', e ∈ es.toList ∧ e.born ∉ seen.toList ∧ (w' = w ∨ w' = w.drew) ∧ (Instr.next (.pointer (some ⟨r, 0, none⟩)) false ty).run P w = .ok (.tuple #[.bool true, e.key, e.val]) { w' with heap := w'.heap.setIfInBounds r (.mapIter (some g) c (seen.push e.born) c) } := by
  have hno : (!seen.isEmpty && !es.isEmpty && es.all fun e => decide (e.born ≥ c)) = false := by
    cases hes : es.isEmpty with
    | true => simp
    | false =>
      have hne : es.toList ≠ [] := by
        intro e
        have : es = #[] := by simpa using e
        rw [this] at hes; simp at hes
      obtain ⟨e, he⟩ := List.exists_mem_of_ne_nil _ hne
      have hlt := hst.1 e he
      have : (es.all fun e => decide (e.born ≥ c)) = false := by
        cases h : es.all fun e => decide (e.born ≥ c) with
        | false => rfl
        | true =>
          have := Array.all_eq_true'.1 h e (by simpa using he)
          simp only [ge_iff_le, decide_eq_true_eq] at this; omega
      rw [this]; simp
  have hold : ((es.filter fun e => !seen.contains e.born).filter fun e => decide (e.born < c)) = es.filter fun e => !seen.contains e.born := by
    apply Array.toList_inj.1
    rw [Array.toList_filter]
    refine List.filter_eq_self.2 fun e he => ?_
    have : e ∈ es.toList := by
      rw [Array.toList_filter] at he
      exact (List.mem_filter.1 he).1
    simpa using hst.1 e this
  have hnew : ((es.filter fun e => !seen.contains e.born).filter fun e => decide (e.born ≥ c)) = #[] := by
    apply Array.toList_inj.1
    rw [Array.toList_filter]
    refine List.filter_eq_nil_iff.2 fun e he => ?_
    have : e ∈ es.toList := by
      rw [Array.toList_filter] at he
      exact (List.mem_filter.1 he).1
    have := hst.1 e this
    simp; omega
  by_cases hall : ∀ e ∈ es.toList, e.born ∈ seen.toList
  · left
    refine ⟨hall, ?_⟩
    have hemp : (es.filter fun e => !seen.contains e.born) = #[] := by
      apply Array.toList_inj.1
      rw [Array.toList_filter]
      refine List.filter_eq_nil_iff.2 fun e he => ?_
      have := hall e he
      simpa using this
    refine ⟨w, .inl rfl, ?_⟩
    rw [hemp] at hold hnew
    simp only [Instr.next, Sem.run_bind]
    rw [show (getObj r).run P w = .ok (.mapIter (some g) c seen c) w by simp [getObj, Sem.run, hi]]
    simp only [Result.andThen_ok, Sem.run_bind, MapKept.run_getObj_map hm, hno, hemp, Bool.false_eq_true, if_false]
    simp [choose, Sem.run, Question.forced]
  · right
    have hne : (es.filter fun e => !seen.contains e.born).isEmpty = false := by
      cases h : (es.filter fun e => !seen.contains e.born).isEmpty with
      | false => rfl
      | true =>
        exfalso
        apply hall
        intro e he
        have h0 : es.filter (fun e => !seen.contains e.born) = #[] := by simpa using h
        have : e ∉ (es.filter fun e => !seen.contains e.born).toList := by rw [h0]; simp
        rw [Array.toList_filter, List.mem_filter] at this
        by_cases hb : e.born ∈ seen.toList
        · exact hb
        · exact absurd ⟨he, by simpa using hb⟩ this
    generalize hLf : (es.filter fun e => !seen.contains e.born) = lf at *
    have hpos : 0 < lf.size := by
      cases hsz : lf.size with
      | zero => have := Array.eq_empty_of_size_eq_zero hsz; rw [this] at hne; simp at hne
      | succ k => omega
    have hcand : ((if lf.isEmpty = true then #[none] else #[]) ++ (lf ++ #[]).map some : Array (Option MapEntry)) = lf.map some := by rw [hne]; simp
    obtain ⟨i, w', hch, hil, hw'⟩ := run_choose_next (P := P) (lf.map some).size (by simpa using hpos) w
    have hil' : i < lf.size := by simpa using hil
    have hget : (lf.map some)[i]? = some (some lf[i]) := by simp [hil']
    have hmem : lf[i] ∈ es.toList ∧ lf[i].born ∉ seen.toList := by
      have h1 : lf[i] ∈ (es.filter fun e => !seen.contains e.born).toList := by rw [hLf]; simp
      rw [Array.toList_filter] at h1
      have h2 := List.mem_filter.1 h1
      exact ⟨h2.1, by simpa using h2.2⟩
    refine ⟨lf[i], w', hmem.1, hmem.2, hw', ?_⟩
    have hi' : w'.heap[r]? = some (.mapIter (some g) c seen c) := by rcases hw' with rfl | rfl <;> exact hi
    simp only [Instr.next, Sem.run_bind]
    rw [show (getObj r).run P w = .ok (.mapIter (some g) c seen c) w by simp [getObj, Sem.run, hi]]
    simp only [Result.andThen_ok, Sem.run_bind, MapKept.run_getObj_map hm, hno, hLf, hold, hnew, Bool.false_eq_true, if_false, hcand, hch, hget]
    simp [setObj, Sem.run, hi']

theorem WL.next {r g c : Nat} {seen : Array Nat} {F : Ent → List Ent} (ho : o.op = .next x false) (hx : ev l x = some (.pointer (some ⟨r, 0, none⟩))) [hL : Loc L r (.obj r (.mapIter (some g) c seen c)) F] (hm : Ent.obj g (.map es c) ∈ L) (hst : MapKept.Stamped es c)
    (hg : On ops o l) (hd : o.dst = some d) (hn : Nat.blt d n = true)
    (hover : (∀ e ∈ es.toList, e.born ∈ seen.toList) → WL P ops Q n p w0 rest ((d, .tuple #[.bool false]) :: l) L)
    (hnext : ∀ e ∈ es.toList, e.born ∉ seen.toList → WL P ops Q n p w0 rest ((d, .tuple #[.bool true, e.key, e.val]) :: l) (F (.obj r (.mapIter (some g) c (seen.push e.born) c)))) : WL P ops Q n p w0 (o :: rest) l L := by
  refine WL.op hg hd hn fun a w ha hS => ?_
  obtain ⟨A', B', rfl, rfl⟩ := hL.ok
  have h1 := ha.ev hx
  have hi := (hS.holds (.obj r (.mapIter (some g) c seen c)) (by simp)).1
  have hob := (hS.holds _ hm).1
  rcases run_next (P := P) (ty := o.type) hi hob hst with ⟨hall, w', hw', hr⟩ | ⟨e, w', he, hb, hw', hr⟩
  · refine ⟨_, w', _, ?_, ?_, hover hall⟩
    · unfold execOp; simp [ho, h1, hr]
    · rcases hw' with rfl | rfl
      · exact hS
      · exact hS.drew
  · have hS' : St p w0 w' (A' ++ .obj r (.mapIter (some g) c seen c) :: B') := by
      rcases hw' with rfl | rfl
      · exact hS
      · exact hS.drew
    refine ⟨_, { w' with heap := w'.heap.setIfInBounds r (.mapIter (some g) c (seen.push e.born) c) }, _, ?_, ?_, hnext e he hb⟩
    · unfold execOp; simp [ho, h1, hr]
    · exact hS'.put (g := r) (e := .obj r (.mapIter (some g) c (seen.push e.born) c)) (hp := ⟨fun _ => ⟨A', B', _, rfl, rfl, rfl⟩⟩) rfl Frm.setObj ⟨by
        have hlt := (Array.getElem?_eq_some_iff.1 (hS'.holds (.obj r (.mapIter (some g) c seen c)) (by simp)).1).1
        simp [hlt], trivial⟩
theorem find_born {es : Array MapEntry} {c : Nat} (hst : MapKept.Stamped es c) {e : MapEntry} (he : e ∈ es.toList) : es.find? (fun x => x.born == e.born) = some e := by
  cases h : es.find? (fun x => x.born == e.born) with
  | none =>
    have := Array.find?_eq_none.1 h e (by simpa using he)
    simp at this
  | some y =>
    have h1 : y ∈ es.toList := by simpa using Array.mem_of_find?_eq_some h
    have h2 : y.born = e.born := by simpa using Array.find?_some h
    obtain ⟨i, hi⟩ := List.mem_iff_getElem?.1 h1
    obtain ⟨j, hj⟩ := List.mem_iff_getElem?.1 he
    have hi' : (es.toList.map (·.born))[i]? = some e.born := by rw [List.getElem?_map, hi]; simp [h2]
    have hj' : (es.toList.map (·.born))[j]? = some e.born := by rw [List.getElem?_map, hj]; rfl
    have : i = j := (List.getElem?_inj (List.getElem?_eq_some_iff.1 hi').1 hst.2.1).1 (by rw [hi', hj'])
    subst this
    rw [hi] at hj; exact hj
theorem v_entry {r g c since : Nat} {seen : Array Nat} {e : MapEntry} (ho : o.op = .entry x) (hx : ev l x = some (.pointer (some ⟨r, 0, none⟩))) (hi : Ent.obj r (.mapIter (some g) since (seen.push e.born) c) ∈ L) (hm : Ent.obj g (.map es c) ∈ L) (hst : MapKept.Stamped es c) (he : e ∈ es.toList) :
    Val P (fun w => St p w0 w L) n l o (.tuple #[e.key, e.val]) := fun a w ha hS => by
  have h1 := ha.ev hx
  have hi' := (hS.holds _ hi).1
  have hm' := (hS.holds _ hm).1
  unfold execOp
  simp only [ho, h1, Instr.entry, Sem.run_bind]
  rw [show (getObj r).run P w = .ok (.mapIter (some g) since (seen.push e.born) c) w by simp [getObj, Sem.run, hi']]
  simp [MapKept.run_getObj_map hm', find_born hst he, Result.andThen]
/-- How many entries are to come. -/
def toCome (es : Array MapEntry) (seen : Array Nat) : Nat := (es.toList.filter fun e => !seen.toList.contains e.born).length
theorem toCome_lt {es : Array MapEntry} {seen : Array Nat} {e : MapEntry} (he : e ∈ es.toList) (hn : e.born ∉ seen.toList) : toCome es (seen.push e.born) < toCome es seen := by
  unfold toCome
  have hsub : (es.toList.filter fun x => !(seen.push e.born).toList.contains x.born) = (es.toList.filter fun x => !seen.toList.contains x.born).filter fun x => !(x.born == e.born) := by
    rw [List.filter_filter]
    apply List.filter_congr
    intro x _
    by_cases h1 : x.born = e.born <;> by_cases h2 : x.born ∈ seen.toList <;> simp_all
  rw [hsub]
  refine Nat.lt_of_le_of_ne (List.length_filter_le _ _) fun heq => ?_
  have hm : e ∈ es.toList.filter fun x => !seen.toList.contains x.born := List.mem_filter.2 ⟨he, by simpa using hn⟩
  have := List.length_filter_eq_length_iff.1 heq e hm
  simp at this
theorem WE.to {Q : Exit → Act → World → Prop} {e : Exit} {L' : List Ent} (hs : ∀ w, St p w0 w L → St p w0 w L') (h : WE Q e n p w0 l L') : WE Q e n p w0 l L := fun a w ha hS => h a w ha (hs w hS)
theorem WC.to {c : Code} {L' : List Ent} (hs : ∀ w, St p w0 w L → St p w0 w L') (h : WC P c Q n p w0 l L') : WC P c Q n p w0 l L := fun a w ha hS => h a w ha (hs w hS)
theorem WL.to {L' : List Ent} (hs : ∀ w, St p w0 w L → St p w0 w L') (h : WL P ops Q n p w0 rest l L') : WL P ops Q n p w0 rest l L := fun a w ha hS => h a w ha (hs w hS)
end
end Go.Proofs.YtodaanhhnjkncaaDoor
