/- The sort of headers: its order; its worlds as mine. -/
import Derived.Shelf.SlSortCmp.InsertionK
import Derived.Test.YtodaanhhnjkncaaDoorPolA
namespace Go.Proofs.YtodaanhhnjkncaaDoor
open Go.RowKit Go.Sort

/-! ### The order -/
theorem hcmp_lex (A B : Hd) : ∀ k, hcmpK A B k = lexK (getF A) (getF B) k
  | 0 => rfl
  | k + 1 => by
    show (if hcmpK A B k ≠ 0 then hcmpK A B k else cmpI _ _) = (if lexK (getF A) (getF B) k ≠ 0 then lexK (getF A) (getF B) k else cmpI _ _)
    rw [hcmp_lex A B k]
theorem cmpI_lt (x y : Int) : cmpI x y < 0 ↔ x < y := by unfold cmpI; split <;> (try split) <;> omega
theorem lexK_lt (f g : Nat → Int) : ∀ k, lexK f g k < 0 ↔ ∃ i, i < k ∧ (∀ j, j < i → f j = g j) ∧ f i < g i
  | 0 => ⟨fun h => absurd h (by show ¬ (0 : Int) < 0; omega), fun ⟨i, h, _⟩ => absurd h (Nat.not_lt_zero i)⟩
  | k + 1 => by
    have ih := lexK_lt f g k
    have hz := lexK_zero f g k
    show (if lexK f g k ≠ 0 then lexK f g k else cmpI (f k) (g k)) < 0 ↔ _
    by_cases h : lexK f g k = 0
    · rw [if_neg (by omega), cmpI_lt]
      constructor
      · intro hl; exact ⟨k, by omega, hz.1 h, hl⟩
      · rintro ⟨i, hi, he, hl⟩
        by_cases e : i = k
        · subst e; exact hl
        · have := hz.1 h i (by omega); omega
    · rw [if_pos h, ih]
      constructor
      · rintro ⟨i, hi, he, hl⟩; exact ⟨i, by omega, he, hl⟩
      · rintro ⟨i, hi, he, hl⟩
        by_cases e : i = k
        · subst e; exact absurd (hz.2 he) h
        · exact ⟨i, by omega, he, hl⟩
theorem lex_trans {f g h : Nat → Int} {k : Nat} (h1 : lexK f g k < 0) (h2 : lexK g h k < 0) : lexK f h k < 0 := by
  obtain ⟨i, hi, he, hl⟩ := (lexK_lt f g k).1 h1
  obtain ⟨j, hj, he', hl'⟩ := (lexK_lt g h k).1 h2
  refine (lexK_lt f h k).2 ?_
  rcases Nat.lt_trichotomy i j with e | e | e
  · exact ⟨i, hi, fun q hq => (he q hq).trans (he' q (by omega)), by have := he' i e; omega⟩
  · subst e; exact ⟨i, hi, fun q hq => (he q hq).trans (he' q hq), by omega⟩
  · exact ⟨j, hj, fun q hq => (he q (by omega)).trans (he' q hq), by have := he j e; omega⟩
theorem lex_nlt {f g : Nat → Int} {k : Nat} : ¬ lexK f g k < 0 ↔ lexK g f k < 0 ∨ lexK f g k = 0 := by
  have := lexK_neg f g k
  omega
theorem lex_eqr {f g h : Nat → Int} {k : Nat} (h1 : lexK f g k = 0) : lexK f h k = lexK g h k := by
  have hz := (lexK_zero f g k).1 h1
  have key : ∀ m, m ≤ k → lexK f h m = lexK g h m := by
    intro m
    induction m with
    | zero => exact fun _ => rfl
    | succ m ih =>
      intro hm
      show (if lexK f h m ≠ 0 then lexK f h m else cmpI _ _) = (if lexK g h m ≠ 0 then lexK g h m else cmpI _ _)
      rw [ih (by omega), hz m (by omega)]
  exact key k (Nat.le_refl _)
theorem lex_eql {f g h : Nat → Int} {k : Nat} (h1 : lexK g h k = 0) : lexK f g k = lexK f h k := by
  have := lex_eqr (h := f) h1
  rw [lexK_neg f g, lexK_neg f h, this]
abbrev HdI := { H : Hd // H.In }
instance : Inhabited HdI := ⟨⟨Hd.zero, Hd.zero_in⟩⟩
def hcf (x y : HdI) : Int := hcmpK x.1 y.1 9
theorem hcf_swo : Go.Sort.SWO (ltOf hcf) := by
  constructor
  · intro x
    unfold ltOf hcf
    rw [hcmp_lex]
    exact decide_eq_false (by have := (lexK_zero (getF x.1) (getF x.1) 9).2 (fun _ _ => rfl); omega)
  · intro x y z h1 h2
    unfold ltOf hcf at *
    rw [hcmp_lex] at *
    exact decide_eq_true (lex_trans (of_decide_eq_true h1) (of_decide_eq_true h2))
  · intro x y z h1 h2
    unfold ltOf hcf at *
    rw [hcmp_lex] at *
    have a := lex_nlt.1 (of_decide_eq_false h1)
    have b := lex_nlt.1 (of_decide_eq_false h2)
    refine decide_eq_false (lex_nlt.2 ?_)
    rcases a with a | a
    · rcases b with b | b
      · exact .inl (lex_trans b a)
      · left
        have := lex_eql (f := getF z.1) (lexK_neg (getF y.1) (getF z.1) 9 ▸ b : lexK (getF y.1) (getF z.1) 9 = 0)
        have e := lex_eqr (h := getF x.1) b
        omega
    · rcases b with b | b
      · left
        have e := lex_eql (f := getF z.1) (g := getF x.1) (h := getF y.1) a
        omega
      · right
        rw [lex_eqr a]; exact b
/-! ### Worlds -/
theorem Frm.grown {w w' : World} (h : Frm (fun _ => False) w w') : ∃ q os', w' = Go.Sort.grow (w.drewN q) os' := by
  refine ⟨w'.drawn - w.drawn, (w'.heap.toList.drop w.heap.size).toArray, ?_⟩
  have h1 := h.drawn
  have hh : w'.heap = w.heap ++ (w'.heap.toList.drop w.heap.size).toArray := by
    apply Array.ext_getElem?
    intro k
    rw [Array.getElem?_append]
    split
    · rename_i hk; exact h.block k hk (fun h => h)
    · rename_i hk
      simp only [List.getElem?_toArray, List.getElem?_drop, Array.getElem?_toList]
      rw [show w.heap.size + (k - w.heap.size) = k by omega]
  have ext : ∀ a b : World, a.heap = b.heap → a.tape = b.tape → a.drawn = b.drawn → a.os = b.os → a.output = b.output → a = b := by
    rintro ⟨⟩ ⟨⟩ h1 h2 h3 h4 h5
    dsimp only at h1 h2 h3 h4 h5
    subst h1 h2 h3 h4 h5
    rfl
  exact ext _ _ hh h.tape (by show w'.drawn = w.drawn + (w'.drawn - w.drawn); omega) h.os h.output
def hEnc (x : HdI) : List Value := hdL x.1
theorem sortW_frm (w : World) (blk off m : Nat) (d : Array HdI) (os : Array Obj) : Frm (fun b => b = blk) w (sortWorldK hEnc 19 w blk off m d os) := by
  have hsz : (putRowK hEnc 19 (Go.Sort.ahead w m) blk off d).heap.size = w.heap.size := by unfold putRowK; rw [Go.Sort.size_putRow]; rfl
  refine ⟨rfl, rfl, rfl, ?_, ?_, Nat.le_add_right _ _⟩
  · show w.heap.size ≤ ((putRowK hEnc 19 (Go.Sort.ahead w m) blk off d).heap ++ os).size
    rw [Array.size_append, hsz]; omega
  · intro k hk hn
    show ((putRowK hEnc 19 (Go.Sort.ahead w m) blk off d).heap ++ os)[k]? = _
    rw [Array.getElem?_append_left (by rw [hsz]; exact hk)]
    show (w.heap.modify blk _)[k]? = _
    rw [Array.getElem?_modify, if_neg (fun e => hn e.symm)]
def srtL (d : Array HdI) (cs : List Value) : List Value := (Go.Sort.putCells id 0 (flatK hEnc 19 d) cs.toArray).toList
theorem srtL_len (d : Array HdI) (cs : List Value) : (srtL d cs).length = cs.length := by simp [srtL, Go.Sort.putCells]
theorem hEnc_len (x : HdI) : (hEnc x).length = 19 := rfl
theorem srtL_take (d : Array HdI) (cs : List Value) (h : d.size * 19 ≤ cs.length) : (srtL d cs).take (d.size * 19) = hdsL (d.toList.map (·.1)) := by
  have hl : (hdsL (d.toList.map (·.1))).length = d.size * 19 := by rw [hdsL_len, List.length_map, Array.length_toList]
  apply List.ext_getElem?
  intro t
  by_cases ht : t < d.size * 19
  · rw [List.getElem?_take, if_pos ht]
    have hq : t / 19 < d.size := by omega
    have hr : t % 19 < 19 := Nat.mod_lt _ (by omega)
    have e1 : (srtL d cs)[t]? = some ((hEnc d[t / 19]!)[t % 19]!) := by
      unfold srtL Go.Sort.putCells
      rw [Array.getElem?_toList, Array.getElem?_mapIdx]
      rw [show cs.toArray[t]? = some (cs[t]'(by omega)) by rw [List.getElem?_toArray]; exact List.getElem?_eq_getElem _]
      simp only [Option.map_some, size_flatK]
      rw [if_pos (by omega), Nat.sub_zero, get_flatK _ _ _ _ ht]
      rfl
    have e2 : (d.toList.map (·.1))[t / 19]? = some (d[t / 19]!).1 := by
      rw [List.getElem?_map, Array.getElem?_toList, Array.getElem?_eq_getElem hq, getElem!_pos d (t / 19) hq]; rfl
    have e3 := hdsL_seg _ _ _ e2
    have e4 : (hdL (d[t / 19]!).1)[t % 19]? = (hdsL (d.toList.map (·.1)))[t]? := by
      rw [← e3, List.getElem?_take, if_pos hr, List.getElem?_drop]
      congr 1
      omega
    rw [e1, ← e4]
    show some ((hdL (d[t / 19]!).1)[t % 19]!) = _
    rw [getElem!_pos (hdL (d[t / 19]!).1) (t % 19) (by rw [hdL_len]; exact hr)]
    exact (List.getElem?_eq_getElem _).symm
  · rw [List.getElem?_eq_none (by rw [List.length_take]; omega), List.getElem?_eq_none (by rw [hl]; omega)]
theorem sortW_row {w : World} {blk m : Nat} {cs : List Value} {d : Array HdI} {os : Array Obj} (h : Row w blk cs) : Row (sortWorldK hEnc 19 w blk 0 m d os) blk (srtL d cs) := by
  have hlt := h.lt
  obtain ⟨T, lo, hi, hb, hf⟩ := h
  refine ⟨T, lo, hi, ?_, by rw [srtL_len]; exact hf⟩
  have hsz : (putRowK hEnc 19 (Go.Sort.ahead w m) blk 0 d).heap.size = w.heap.size := by unfold putRowK; rw [Go.Sort.size_putRow]; rfl
  show ((putRowK hEnc 19 (Go.Sort.ahead w m) blk 0 d).heap ++ os)[blk]? = _
  rw [Array.getElem?_append_left (by rw [hsz]; exact hlt)]
  show (w.heap.modify blk _)[blk]? = _
  rw [Array.getElem?_modify, if_pos rfl, hb]
  rfl
theorem sortW_st {p : Nat → Prop} {w0 w : World} {blk m : Nat} {cs : List Value} {d : Array HdI} {os : Array Obj} {L : List Ent} (hS : St p w0 w (.row blk cs :: L)) : St p w0 (sortWorldK hEnc 19 w blk 0 m d os) (.row blk (srtL d cs) :: L) := by
  have hF := sortW_frm w blk 0 m d os
  have hR : Row w blk cs := hS.holds (.row blk cs) (by simp)
  have hm := hS.mine (.row blk cs) (by simp)
  refine ⟨⟨hF.os.trans hS.frm.os, hF.tape.trans hS.frm.tape, hF.output.trans hS.frm.output, Nat.le_trans hS.frm.size hF.size, fun k hk hn => ?_, Nat.le_trans hS.frm.drawn hF.drawn⟩, ?_, hS.dist, ?_⟩
  · have hne : ¬ k = blk := fun e => by
      subst e
      rcases hm with h | h
      · exact hn h
      · exact absurd hk (by show ¬ k < w0.heap.size; have : w0.heap.size ≤ k := h; omega)
    exact (hF.block k (Nat.lt_of_lt_of_le hk hS.frm.size) hne).trans (hS.frm.block k hk hn)
  · intro e he
    rcases List.mem_cons.1 he with rfl | he
    · exact sortW_row hR
    · have hh := hS.holds e (List.mem_cons_of_mem _ he)
      refine Ent.keep hh (hF.block _ (Ent.lt hh) fun e' => ?_)
      have hd := hS.dist
      simp only [List.map_cons, List.nodup_cons] at hd
      exact hd.1 (List.mem_map.2 ⟨e, he, e'⟩)
  · intro e he
    rcases List.mem_cons.1 he with rfl | he
    · exact hm
    · exact hS.mine e (List.mem_cons_of_mem _ he)
end Go.Proofs.YtodaanhhnjkncaaDoor
