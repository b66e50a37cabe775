/- The engine: a region that draws its order, of which every operation only makes new things: each operation's value is said by itself, and the order does not matter. -/
import Derived.Test.YtodaanhhnjkncaaDoorMix
namespace Go.Proofs.YtodaanhhnjkncaaDoor
open Go.RowKit

/-- What is said of a value; it stays true where only new blocks come. -/
structure SpT where
  S : Value → World → Prop
  st : ∀ v w w', S v w → Frm (fun _ => False) w w' → S v w'
def spec (Ss : List SpT) (i : Nat) (v : Value) (w : World) : Prop := match Ss[i]? with | some s => s.S v w | none => True
theorem spec.stay {Ss : List SpT} {i : Nat} {v : Value} {w w' : World} (h : spec Ss i v w) (hF : Frm (fun _ => False) w w') : spec Ss i v w' := by
  unfold spec at *
  split at h
  · exact SpT.st _ _ _ _ h hF
  · trivial
def Given (Ss : List SpT) (w1 : World) (G : Kn → Prop) : List (Nat × Nat) → Kn → Prop
  | [], l => G l
  | x :: js, l => ∀ v, spec Ss x.1 v w1 → Given Ss w1 G js ((x.2, v) :: l)
theorem Has.more {n : Nat} {a : Act} {l : Kn} (h : Has n a l) (d : Nat) : Has n a ((d, a.tmps.getD d undef) :: l) := ⟨h.size, h.defers, fun t v hv => by
  unfold look at hv
  cases hb : Nat.beq d t
  · rw [hb] at hv; exact h.got t v hv
  · rw [hb] at hv
    have e : d = t := Nat.eq_of_beq_eq_true hb
    subst e
    exact Option.some.inj (by simpa using hv)⟩
theorem Given.use {Ss : List SpT} {w1 : World} {G : Kn → Prop} {n : Nat} {a : Act} : ∀ (js : List (Nat × Nat)) (l : Kn), Given Ss w1 G js l → Has n a l → (∀ x ∈ js, spec Ss x.1 (a.tmps.getD x.2 undef) w1) →
    ∃ l', Has n a l' ∧ G l' ∧ ∀ t, look l t ≠ none → look l' t ≠ none
  | [], l, h, ha, _ => ⟨l, ha, h, fun _ h => h⟩
  | x :: js, l, h, ha, hs => by
    obtain ⟨l', h1, h2, h3⟩ := Given.use js _ (h _ (hs x (by simp))) (ha.more x.2) (fun y hy => hs y (by simp [hy]))
    refine ⟨l', h1, h2, fun t ht => h3 t ?_⟩
    unfold look
    cases Nat.beq x.2 t
    · simpa using ht
    · simp
theorem all_nil {α : Type} {R : α → Prop} : ∀ y ∈ ([] : List α), R y := fun _ h => by cases h
theorem all_cons {α : Type} {R : α → Prop} {x : α} {xs : List α} (h : R x) (hs : ∀ y ∈ xs, R y) : ∀ y ∈ x :: xs, R y := fun y hy => by
  rcases List.mem_cons.1 hy with rfl | hy
  · exact h
  · exact hs y hy
abbrev FreeX := Nat × Nat × List (Nat × Nat)
section
variable {P : Program} {os : List Oper} {Q : Exit → Act → World → Prop} {n : Nat} {p : Nat → Prop} {w0 : World} {l : Kn} {L : List Ent}
/-- What an operation must hand on. -/
def FreeK (Ss : List SpT) (i d : Nat) (w1 : World) (n : Nat) (l' : Kn) : Act → World → Prop := fun a' w' => Frm (fun _ => False) w1 w' ∧ ∃ v, spec Ss i v w' ∧ Has n a' ((d, v) :: l')
def FreeStep (P : Program) (os : List Oper) (Q : Exit → Act → World → Prop) (n : Nat) (p : Nat → Prop) (w0 : World) (Ss : List SpT) (l : Kn) (L : List Ent) (x : FreeX) : Prop :=
  ∀ w1, St p w0 w1 L → ∀ lx : Kn, Given Ss w1 (fun l' => WL P os.toArray (RQ (FreeK Ss x.1 x.2.1 w1 n l') (NP Q)) n (fun _ => False) w1 [at_ os x.1] l' []) x.2.2 (l ++ lx)
theorem WL.fin {Ss : List SpT} {i d : Nat} {w1 : World} {l' : Kn} {L' : List Ent} {ops : Array Oper} {v : Value} (h : ∀ w', St (fun _ => False) w1 w' L' → spec Ss i v w') : WL P ops (RQ (FreeK Ss i d w1 n l') (NP Q)) n (fun _ => False) w1 [] ((d, v) :: l') L' :=
  fun _ w' ha hS => ⟨hS.frm, v, h w' hS, ha⟩
/-! ### The checks -/
def boundTo (o : Oper) (j : Nat) : Bool := o.after.toList.any fun e => Region.binds .any e && Nat.beq e.on j
def slotIs (os : List Oper) (j d : Nat) : Bool := match os[j]? with | some o => (match o.dst with | some e => Nat.beq e d | none => false) | none => false
def frB1 (os : List Oper) (ks : List Nat) (n : Nat) (k : Nat) (x : FreeX) : Bool :=
  Nat.beq x.1 k && slotIs os k x.2.1 && Nat.blt x.2.1 n && !(ks.contains x.2.1) &&
  (match os[k]? with
   | some o => o.after.toList.all (fun e => Nat.blt e.on k) && x.2.2.all (fun y => boundTo o y.1 && slotIs os y.1 y.2)
   | none => false)
def frB (os : List Oper) (ks : List Nat) (n : Nat) : Nat → List FreeX → List Nat → Bool
  | k, [], _ => Nat.beq k os.length
  | k, x :: X, used => frB1 os ks n k x && !(used.contains x.2.1) && frB os ks n (k + 1) X (x.2.1 :: used)
structure FreeOk (os : List Oper) (ks : List Nat) (n : Nat) (X : List FreeX) : Prop where
  len : X.length = os.length
  one : ∀ (k : Nat) (x : FreeX), X[k]? = some x → frB1 os ks n k x = true
  dif : ∀ (j k : Nat) (x y : FreeX), X[j]? = some x → X[k]? = some y → j ≠ k → x.2.1 ≠ y.2.1
theorem frB_spec {ks : List Nat} : ∀ (X : List FreeX) (k : Nat) (used : List Nat), frB os ks n k X used = true →
    k + X.length = os.length ∧ (∀ (i : Nat) (x : FreeX), X[i]? = some x → frB1 os ks n (k + i) x = true ∧ x.2.1 ∉ used) ∧ ∀ (i j : Nat) (x y : FreeX), X[i]? = some x → X[j]? = some y → i ≠ j → x.2.1 ≠ y.2.1
  | [], k, used, h => by
    unfold frB at h
    exact ⟨by simpa using Nat.eq_of_beq_eq_true h, fun i x hx => by simp at hx, fun i j x y hx => by simp at hx⟩
  | x :: X, k, used, h => by
    unfold frB at h
    simp only [Bool.and_eq_true] at h
    obtain ⟨⟨h1, h2⟩, h3⟩ := h
    obtain ⟨e1, e2, e3⟩ := frB_spec X (k + 1) _ h3
    have hx : x.2.1 ∉ used := by simpa using h2
    refine ⟨by rw [List.length_cons]; omega, ?_, ?_⟩
    · intro i y hy
      match i with
      | 0 =>
        simp only [List.getElem?_cons_zero, Option.some.injEq] at hy
        subst hy; exact ⟨h1, hx⟩
      | i + 1 =>
        rw [List.getElem?_cons_succ] at hy
        have := e2 i y hy
        refine ⟨by rw [show k + (i + 1) = k + 1 + i by omega]; exact this.1, fun hm => this.2 (List.mem_cons_of_mem _ hm)⟩
    · intro i j y z hy hz hij
      match i, j with
      | 0, 0 => exact absurd rfl hij
      | 0, j + 1 =>
        simp only [List.getElem?_cons_zero, Option.some.injEq] at hy
        rw [List.getElem?_cons_succ] at hz
        subst hy
        have := (e2 j z hz).2
        exact fun e => this (by rw [← e]; simp)
      | i + 1, 0 =>
        simp only [List.getElem?_cons_zero, Option.some.injEq] at hz
        rw [List.getElem?_cons_succ] at hy
        subst hz
        have := (e2 i y hy).2
        exact fun e => this (by rw [e]; simp)
      | i + 1, j + 1 =>
        rw [List.getElem?_cons_succ] at hy hz
        exact e3 i j y z hy hz (by omega)
theorem frB_ok {ks : List Nat} {X : List FreeX} (h : frB os ks n 0 X [] = true) : FreeOk os ks n X := by
  obtain ⟨h1, h2, h3⟩ := frB_spec X 0 [] h
  exact ⟨by omega, fun k x hx => by have := (h2 k x hx).1; rwa [Nat.zero_add] at this, h3⟩
theorem slotIs_spec {j d : Nat} (h : slotIs os j d = true) : ∃ o, os[j]? = some o ∧ o.dst = some d := by
  unfold slotIs at h
  split at h
  · rename_i o ho
    split at h
    · rename_i e he
      exact ⟨o, ho, by rw [he, Nat.eq_of_beq_eq_true h]⟩
    · cases h
  · cases h
theorem look_app : ∀ (l lx : Kn) (t : Nat), look (l ++ lx) t = (match look l t with | some v => some v | none => look lx t)
  | [], lx, t => rfl
  | x :: l, lx, t => by
    have e : look (x :: l) t = cond (Nat.beq x.1 t) (some x.2) (look l t) := rfl
    have e2 : look (x :: l ++ lx) t = cond (Nat.beq x.1 t) (some x.2) (look (l ++ lx) t) := rfl
    rw [e, e2]
    cases Nat.beq x.1 t
    · exact look_app l lx t
    · rfl
theorem look_keys : ∀ (l : Kn) (t : Nat), t ∉ l.map Prod.fst → look l t = none
  | [], _, _ => rfl
  | x :: l, t, h => by
    simp only [List.map_cons, List.mem_cons, not_or] at h
    unfold look
    have : Nat.beq x.1 t = false := by
      cases hb : Nat.beq x.1 t with
      | false => rfl
      | true => exact absurd (Nat.eq_of_beq_eq_true hb).symm h.1
    rw [this]
    exact look_keys l t h.2
/-- All that is listed, as the frame says. -/
def seen (os : List Oper) (listed : Array Bool) (a : Act) : Nat → Kn
  | 0 => []
  | k + 1 => match os[k]? with
    | some o => (match o.dst with | some d => if listed.getD k false = true then (d, a.tmps.getD d undef) :: seen os listed a k else seen os listed a k | none => seen os listed a k)
    | none => seen os listed a k
theorem seen_has {a : Act} {listed : Array Bool} (ha : Has n a []) : ∀ k, Has n a (seen os listed a k)
  | 0 => ha
  | k + 1 => by
    unfold seen
    split
    · split
      · split
        · exact (seen_has ha k).more _
        · exact seen_has ha k
      · exact seen_has ha k
    · exact seen_has ha k
theorem seen_look {a : Act} {listed : Array Bool} {j d : Nat} {o : Oper} (ho : os[j]? = some o) (hd : o.dst = some d) (hl : listed.getD j false = true) : ∀ k, j < k → look (seen os listed a k) d ≠ none
  | 0, h => absurd h (Nat.not_lt_zero j)
  | k + 1, h => by
    unfold seen
    by_cases e : j = k
    · subst e
      rw [ho]
      simp only [hd, hl, if_true]
      unfold look
      simp
    · have ih := seen_look (a := a) ho hd hl k (by omega)
      split
      · split
        · split
          · unfold look
            cases Nat.beq _ d
            · simpa using ih
            · simp
          · exact ih
        · exact ih
      · exact ih
theorem Has.app {a : Act} {l lx : Kn} (h1 : Has n a l) (h2 : Has n a lx) : Has n a (l ++ lx) := ⟨h1.size, h1.defers, fun t v hv => by
  rw [look_app] at hv
  split at hv
  · rename_i u hu
    rw [← Option.some.inj hv]; exact h1.got t u hu
  · exact h2.got t v hv⟩
/-- What holds on the way. -/
structure FreeInv (os : List Oper) (n : Nat) (p : Nat → Prop) (w0 : World) (Ss : List SpT) (l : Kn) (L : List Ent) (listed : Array Bool) (a : Act) (w : World) : Prop where
  size : listed.size = os.length
  has : Has n a l
  st : St p w0 w L
  sp : ∀ j o d, os[j]? = some o → o.dst = some d → listed.getD j false = true → spec Ss j (a.tmps.getD d undef) w
def left (os : List Oper) (listed : Array Bool) : Nat := ((List.range os.length).filter fun j => !listed.getD j false).length
theorem filter_lt {α : Type} {f g : α → Bool} : ∀ (xs : List α) (x : α), x ∈ xs → f x = true → g x = false → (∀ y, g y = true → f y = true) → (xs.filter g).length < (xs.filter f).length
  | [], x, h, _, _, _ => by cases h
  | y :: ys, x, h, hf, hg, hs => by
    have mono : ∀ zs : List α, (zs.filter g).length ≤ (zs.filter f).length := fun zs => by
      induction zs with
      | nil => simp
      | cons z zs ih =>
        simp only [List.filter_cons]
        cases hz : g z
        · cases f z <;> simp <;> omega
        · rw [hs z hz]; simp; exact ih
    rcases List.mem_cons.1 h with e | h
    · subst e
      simp only [List.filter_cons, hf, hg, if_true]
      have := mono ys
      simp; omega
    · have ih := filter_lt ys x h hf hg hs
      simp only [List.filter_cons]
      cases hz : g y
      · cases f y <;> simp <;> omega
      · rw [hs y hz]; simp; exact ih
theorem left_set {listed : Array Bool} {i : Nat} (hi : i < os.length) (hs : listed.size = os.length) (hu : listed.getD i true = false) : left os (listed.setIfInBounds i true) < left os listed := by
  refine filter_lt _ i (List.mem_range.2 hi) ?_ ?_ ?_
  · rw [getD_both hu]; rfl
  · simp [Array.getD_eq_getD_getElem?, hs, hi]
  · intro y hy
    by_cases e : i = y
    · subst e
      simp [Array.getD_eq_getD_getElem?, hs, hi] at hy
    · rwa [getD_set_ne false e] at hy
theorem all_listed {ks : List Nat} {X : List FreeX} (hX : FreeOk os ks n X) {listed : Array Bool} (hs : listed.size = os.length) (hr : Region.ready .any os.toArray listed = []) : ∀ j, j < os.length → listed.getD j false = true := by
  intro j
  induction j using Nat.strongRecOn with
  | _ j ih =>
    intro hj
    cases hl : listed.getD j false with
    | true => rfl
    | false =>
      exfalso
      have hm : j ∈ Region.ready .any os.toArray listed := by
        refine mem_ready.2 ⟨?_, os[j], by simp [hj], fun e he _ => ?_⟩
        · rw [Array.getD_eq_getD_getElem?, Array.getElem?_eq_getElem (by omega)] at hl ⊢
          simpa using hl
        · have hx : X[j]? = some (X[j]'(by rw [hX.len]; exact hj)) := List.getElem?_eq_getElem _
          have h1 := hX.one j _ hx
          unfold frB1 at h1
          rw [List.getElem?_eq_getElem hj] at h1
          simp only [Bool.and_eq_true] at h1
          have h2 := List.all_eq_true.1 h1.2.1 e (by simpa using he)
          have h3 : e.on < j := by simpa using h2
          exact ih e.on h3 (by omega)
      rw [hr] at hm; cases hm
theorem any_free {Ss : List SpT} {X : List FreeX} (hX : FreeOk os (l.map Prod.fst) n X) (hst : ∀ x ∈ X, FreeStep P os Q n p w0 Ss l L x)
    (hend : ∀ a w, Has n a l → St p w0 w L → (∀ j o d, os[j]? = some o → o.dst = some d → spec Ss j (a.tmps.getD d undef) w) → Q .normal a w) :
    ∀ (g : Nat) (listed : Array Bool) (a : Act) (w : World), FreeInv os n p w0 Ss l L listed a w → left os listed ≤ g → wpAny P .any os.toArray (NP Q) g listed a w := by
  have fin : ∀ (listed : Array Bool) (a : Act) (w : World), FreeInv os n p w0 Ss l L listed a w → Region.ready .any os.toArray listed = [] → Q .normal a w := fun listed a w inv hr =>
    hend a w inv.has inv.st fun j o d ho hd => inv.sp j o d ho hd (all_listed hX inv.size hr j (List.getElem?_eq_some_iff.1 ho).1)
  intro g
  induction g with
  | zero =>
    intro listed a w inv hg
    have hr : Region.ready .any os.toArray listed = [] := by
      cases hrr : Region.ready .any os.toArray listed with
      | nil => rfl
      | cons i is =>
        exfalso
        have hi : i ∈ Region.ready .any os.toArray listed := by rw [hrr]; simp
        obtain ⟨hu, o, ho, _⟩ := mem_ready.1 hi
        have hlt : i < os.length := by have := (Array.getElem?_eq_some_iff.1 ho).1; simpa using this
        have := left_set hlt inv.size hu
        omega
    exact ⟨hr, fin listed a w inv hr⟩
  | succ g ih =>
    intro listed a w inv hg
    refine ⟨fin listed a w inv, fun i hi => ?_⟩
    obtain ⟨hu, o, ho, hall⟩ := mem_ready.1 hi
    have hos : os[i]? = some o := by simpa using ho
    have hlt : i < os.length := (List.getElem?_eq_some_iff.1 hos).1
    have hx : X[i]? = some (X[i]'(by rw [hX.len]; exact hlt)) := List.getElem?_eq_getElem _
    generalize X[i]'(by rw [hX.len]; exact hlt) = x at hx
    have hB := hX.one i x hx
    unfold frB1 at hB
    rw [hos] at hB
    simp only [Bool.and_eq_true] at hB
    obtain ⟨⟨⟨⟨b1, b2⟩, b3⟩, b4⟩, b5, b6⟩ := hB
    have e1 : x.1 = i := Nat.eq_of_beq_eq_true b1
    obtain ⟨o', ho', hdst⟩ := slotIs_spec b2
    obtain rfl : o' = o := Option.some.inj (ho'.symm.trans hos)
    have hdn : x.2.1 < n := by simpa using b3
    have hdk : x.2.1 ∉ l.map Prod.fst := by simpa using b4
    have hat : at_ os i = o' := by unfold at_; rw [List.getD_eq_getElem?_getD, hos]; rfl
    -- the step
    have hstep := hst x (List.mem_of_getElem? hx) w inv.st (seen os listed a os.length)
    have hnil : Has n a [] := ⟨inv.has.size, inv.has.defers, fun t v h => by cases h⟩
    obtain ⟨l', hl1, hl2, hl3⟩ := Given.use x.2.2 _ hstep (inv.has.app (seen_has hnil os.length)) (fun y hy => by
      have := List.all_eq_true.1 b6 y hy
      simp only [Bool.and_eq_true] at this
      obtain ⟨oy, hoy, hdy⟩ := slotIs_spec this.2
      have hb := List.any_eq_true.1 this.1
      obtain ⟨e, he, heb⟩ := hb
      simp only [Bool.and_eq_true] at heb
      have hon : e.on = y.1 := Nat.eq_of_beq_eq_true heb.2
      have := hall e (by simpa using he) heb.1
      rw [hon] at this
      exact inv.sp y.1 oy y.2 hoy hdy this)
    have hw := hl2 a w hl1 (St.start (fun _ => False) w)
    rw [e1, hat] at hw
    unfold wpOp
    simp only [ho]
    -- what the step hands on is the way's state again
    have next : ∀ a' w', FreeK Ss i x.2.1 w n l' a' w' → wpAny P .any os.toArray (NP Q) g (listed.setIfInBounds i true) a' w' := by
      rintro a' w' ⟨hF, v, hv, ha'⟩
      have same : ∀ t, t ≠ x.2.1 → look l' t ≠ none → a'.tmps.getD t undef = a.tmps.getD t undef := fun t ht hn => by
        cases hlk : look l' t with
        | none => exact absurd hlk hn
        | some u =>
          have h1 := hl1.got t u hlk
          have h2 := ha'.got t u (by
            unfold look
            have : Nat.beq x.2.1 t = false := by
              cases hb : Nat.beq x.2.1 t with
              | false => rfl
              | true => exact absurd (Nat.eq_of_beq_eq_true hb).symm ht
            rw [this]; simpa using hlk)
          rw [h1, h2]
      refine ih _ a' w' ⟨by simp [inv.size], ⟨ha'.size, ha'.defers, fun t u hu => ?_⟩, inv.st.ext hF, ?_⟩ (by have := left_set hlt inv.size hu; omega)
      · have hne : t ≠ x.2.1 := fun e => by
          rw [e, look_keys l _ hdk] at hu; cases hu
        have hlt' : look (l ++ seen os listed a os.length) t ≠ none := by rw [look_app, hu]; simp
        rw [same t hne (hl3 t hlt')]
        exact inv.has.got t u hu
      · intro j oj d hoj hdj hlj
        by_cases e : i = j
        · subst e
          obtain rfl : oj = o' := Option.some.inj (hoj.symm.trans hos)
          obtain rfl : d = x.2.1 := Option.some.inj (hdj.symm.trans hdst)
          rw [ha'.got x.2.1 v (by unfold look; simp)]
          exact hv
        · rw [getD_set_ne false e] at hlj
          have hjl : j < os.length := (List.getElem?_eq_some_iff.1 hoj).1
          have hne : d ≠ x.2.1 := fun hd => by
            have hxj : X[j]? = some (X[j]'(by rw [hX.len]; exact hjl)) := List.getElem?_eq_getElem _
            generalize X[j]'(by rw [hX.len]; exact hjl) = z at hxj
            have hBj := hX.one j z hxj
            unfold frB1 at hBj
            simp only [Bool.and_eq_true] at hBj
            obtain ⟨oz, hoz, hdz⟩ := slotIs_spec hBj.1.1.1.2
            obtain rfl : oz = oj := Option.some.inj (hoz.symm.trans hoj)
            have hzd : z.2.1 = d := Option.some.inj (hdz.symm.trans hdj)
            exact hX.dif j i z x hxj hx (fun h => e h.symm) (hzd.trans hd)
          have hlt' : look (l ++ seen os listed a os.length) d ≠ none := by
            rw [look_app]
            split
            · simp
            · exact seen_look hoj hdj hlj _ hjl
          rw [same d hne (hl3 d hlt')]
          exact (inv.sp j oj d hoj hdj hlj).stay hF
    unfold wpList at hw
    split
    · rename_i hwd
      rw [if_pos hwd] at hw
      exact (hw.imp wpRQ (fun h => ⟨h.1, RQ.out h.2⟩)).imp (Oper.wp_mono fun a' w' h => next a' w' h) id
    · rename_i hwd
      rw [if_neg hwd] at hw
      exact next _ _ hw
def outsB (os : List Oper) (outs : List (Nat × Nat)) : Bool := outs.all fun y => slotIs os y.1 y.2
theorem WC.free {id : Nat} (Ss : List SpT) (X : List FreeX) (outs : List (Nat × Nat)) (hm : P.follows .mixedOrders = true) (hB : frB os (l.map Prod.fst) n 0 X [] = true) (hO : outsB os outs = true)
    (hst : ∀ x ∈ X, FreeStep P os Q n p w0 Ss l L x)
    (hend : ∀ w1, St p w0 w1 L → Given Ss w1 (fun l' => WE Q .normal n (fun _ => False) w1 l' []) outs l) : WC P (.region id os.toArray true) Q n p w0 l L := by
  intro a w ha hS
  refine Code.wp_mono NP.imp (wp_region_any hm ?_)
  have hX := frB_ok hB
  have hsz : (Array.replicate os.toArray.size false).size = os.length := by simp
  refine any_free (Ss := Ss) hX hst (fun a' w' ha' hS' hsp => ?_) _ _ a w.drew ⟨hsz, ha, hS.drew, ?_⟩ ?_
  · obtain ⟨l', h1, h2, _⟩ := Given.use outs l (hend w' hS') ha' (fun y hy => by
      obtain ⟨o, ho, hd⟩ := slotIs_spec (List.all_eq_true.1 hO y hy)
      exact hsp y.1 o y.2 ho hd)
    exact h2 a' w' h1 (St.start _ _)
  · intro j o d _ _ hl
    rw [getD_replicate_false] at hl; cases hl
  · unfold left
    refine Nat.le_trans (List.length_filter_le _ _) ?_
    simp
end
end Go.Proofs.YtodaanhhnjkncaaDoor
