/- Texts joined: engine, contracts and laws, in the order in which they build. -/
import Derived.Lib.MakeNoZero
import Derived.Shelf.SlSortCmp.WholeK
import Derived.Shelf.SlSortCmp.NoneTotal
import Derived.Shelf.SlLaysF0
import Derived.Shelf.SlSortCmp.InsertionK
import Derived.OrdersHeld
import Derived.Scope
import Derived.DeepKeys3
import Derived.Test.YtkeonnnhogaggaaGreatDoorBbStageChecks
/- Comparisons in three ways; lists in strict order are told by what is in them. -/
namespace Go.Proofs.YtkeonnnhogaggaaGreatDoor
open Go.RowKit

/-- A comparison: below 0, 0, above 0. -/
structure Cm {α : Type} (c : α → α → Int) : Prop where
  refl : ∀ a, c a a = 0
  sgn : ∀ a b, 0 < c a b ↔ c b a < 0
  tr : ∀ a b d, c a b ≤ 0 → c b d ≤ 0 → c a d ≤ 0
section
variable {α β : Type} {c d : α → α → Int}
theorem Cm.zero (h : Cm c) {a b : α} (e : c a b = 0) : c b a = 0 := by have := h.sgn a b; have := h.sgn b a; omega
theorem Cm.lt_le (h : Cm c) {a b e : α} (h1 : c a b < 0) (h2 : c b e ≤ 0) : c a e < 0 := by
  have := h.tr a b e (by omega) h2
  have := h.sgn b a; have := h.sgn e a; have := h.sgn a e
  have : c e a ≤ 0 → c b a ≤ 0 := h.tr b e a h2
  omega
theorem Cm.le_lt (h : Cm c) {a b e : α} (h1 : c a b ≤ 0) (h2 : c b e < 0) : c a e < 0 := by
  have := h.tr a b e h1 (by omega)
  have := h.sgn e b; have := h.sgn e a; have := h.sgn a e
  have : c e a ≤ 0 → c e b ≤ 0 := fun k => h.tr e a b k h1
  omega
theorem Cm.lex (hc : Cm c) (hd : Cm d) : Cm (fun a b => if c a b ≠ 0 then c a b else d a b) := by
  refine ⟨fun a => by rw [if_neg (by rw [hc.refl]; omega), hd.refl], fun a b => ?_, fun a b e h1 h2 => ?_⟩
  · have k1 := hc.sgn a b; have k2 := hc.sgn b a; have k3 := hd.sgn a b
    by_cases h : c a b = 0
    · rw [if_neg (by omega), if_neg (by omega)]; exact k3
    · rw [if_pos h, if_pos (by omega)]; exact k1
  · have l1 : c a b ≤ 0 := by split at h1 <;> omega
    have l2 : c b e ≤ 0 := by split at h2 <;> omega
    by_cases z1 : c a b = 0
    · by_cases z2 : c b e = 0
      · rw [if_neg (by omega)] at h1 h2
        have e1 := hc.tr a b e l1 l2
        have e2 := hc.tr e b a (by have := hc.zero z2; omega) (by have := hc.zero z1; omega)
        have e3 := hc.sgn a e; have e4 := hc.sgn e a
        rw [if_neg (by omega)]
        exact hd.tr a b e h1 h2
      · have := hc.le_lt l1 (show c b e < 0 by omega)
        rw [if_pos (by omega)]; omega
    · have := hc.lt_le (show c a b < 0 by omega) l2
      rw [if_pos (by omega)]; omega
theorem Cm.on (f : β → α) (h : Cm c) : Cm (fun a b => c (f a) (f b)) := ⟨fun _ => h.refl _, fun _ _ => h.sgn _ _, fun _ _ _ => h.tr _ _ _⟩
theorem Cm.triv : Cm (fun (_ _ : α) => 0) := ⟨fun _ => rfl, fun _ _ => by omega, fun _ _ _ _ _ => by omega⟩
/-- Two lists in strict order with the same in them are one. -/
theorem strict_only (h : Cm c) : ∀ (l m : List α), l.Pairwise (fun a b => c a b < 0) → m.Pairwise (fun a b => c a b < 0) → (∀ x, x ∈ l ↔ x ∈ m) → l = m
  | [], [], _, _, _ => rfl
  | [], y :: m, _, _, hm => absurd ((hm y).2 (List.mem_cons_self ..)) (by simp)
  | x :: l, [], _, _, hm => absurd ((hm x).1 (List.mem_cons_self ..)) (by simp)
  | x :: l, y :: m, h1, h2, hm => by
    rw [List.pairwise_cons] at h1 h2
    have irr : ∀ z, ¬ c z z < 0 := fun z => by have := h.refl z; omega
    have e : x = y := by
      rcases List.mem_cons.1 ((hm x).1 (List.mem_cons_self ..)) with e | hx
      · exact e
      · rcases List.mem_cons.1 ((hm y).2 (List.mem_cons_self ..)) with e | hy
        · exact e.symm
        · have a1 := h2.1 x hx; have a2 := h1.1 y hy; have := h.sgn x y; omega
    subst e
    refine congrArg (x :: ·) (strict_only h l m h1.2 h2.2 fun z => ⟨fun hz => ?_, fun hz => ?_⟩)
    · rcases List.mem_cons.1 ((hm z).1 (List.mem_cons_of_mem _ hz)) with e | hz'
      · subst e; exact absurd (h1.1 z hz) (irr z)
      · exact hz'
    · rcases List.mem_cons.1 ((hm z).2 (List.mem_cons_of_mem _ hz)) with e | hz'
      · subst e; exact absurd (h2.1 z hz) (irr z)
      · exact hz'
end
/-- What follows p, each that is as its neighbour ahead left out. -/
def uq {α : Type} (eq : α → α → Bool) : α → List α → List α
  | _, [] => []
  | p, x :: l => if eq x p then uq eq x l else x :: uq eq x l
def uniq {α : Type} (eq : α → α → Bool) : List α → List α
  | [] => []
  | x :: l => x :: uq eq x l
section
variable {α : Type} {eq : α → α → Bool}
theorem uq_snoc (b : α) : ∀ (l : List α) (p : α), uq eq p (l ++ [b]) = uq eq p l ++ if eq b ((p :: l).getLast (List.cons_ne_nil _ _)) then [] else [b]
  | [], p => by
    show (if eq b p then [] else [b]) = [] ++ _
    rw [List.nil_append]; rfl
  | x :: l, p => by
    show (if eq x p then uq eq x (l ++ [b]) else x :: uq eq x (l ++ [b])) = (if eq x p then uq eq x l else x :: uq eq x l) ++ _
    rw [uq_snoc b l x]
    have e : (p :: x :: l).getLast (List.cons_ne_nil _ _) = (x :: l).getLast (List.cons_ne_nil _ _) := rfl
    rw [e]
    split <;> rfl
theorem uq_len : ∀ (l : List α) (p : α), (uq eq p l).length ≤ l.length
  | [], _ => Nat.le_refl _
  | x :: l, p => by
    show (if eq x p then uq eq x l else x :: uq eq x l).length ≤ l.length + 1
    have := uq_len l x
    split
    · omega
    · rw [List.length_cons]; omega
theorem uniq_len (l : List α) : (uniq eq l).length ≤ l.length := by
  cases l with
  | nil => exact Nat.le_refl _
  | cons x l => show (uq eq x l).length + 1 ≤ l.length + 1; have := uq_len (eq := eq) l x; omega
theorem uq_sub : ∀ (l : List α) (p : α), (uq eq p l).Sublist l
  | [], _ => .refl _
  | x :: l, p => by
    show (if eq x p then uq eq x l else x :: uq eq x l).Sublist (x :: l)
    split
    · exact .cons _ (uq_sub l x)
    · exact (uq_sub l x).cons_cons _
theorem uniq_sub (l : List α) : (uniq eq l).Sublist l := by
  cases l with
  | nil => exact .refl _
  | cons x l => exact (uq_sub l x).cons_cons _
/-- One more: it stays out if it is as the last one. -/
theorem uniq_take {l : List α} {m : Nat} {a b : α} (ha : l[m]? = some a) (hb : l[m + 1]? = some b) : uniq eq (l.take (m + 2)) = uniq eq (l.take (m + 1)) ++ if eq b a then [] else [b] := by
  have lb := (List.getElem?_eq_some_iff.1 hb).1
  have e1 : l.take (m + 2) = l.take (m + 1) ++ [b] := by
    rw [List.take_succ_eq_append_getElem lb]
    congr 2
    exact Option.some.inj ((List.getElem?_eq_getElem lb).symm.trans hb)
  have e2 : l.take (m + 1) = l.take m ++ [a] := by
    have la := (List.getElem?_eq_some_iff.1 ha).1
    rw [List.take_succ_eq_append_getElem la]
    congr 2
    exact Option.some.inj ((List.getElem?_eq_getElem la).symm.trans ha)
  rw [e1]
  cases hq : l.take (m + 1) with
  | nil => rw [e2] at hq; simp at hq
  | cons x r =>
    show x :: uq eq x (r ++ [b]) = x :: uq eq x r ++ _
    rw [uq_snoc b r x]
    have e3 : (x :: r).getLast (List.cons_ne_nil _ _) = a := by
      have : ∀ (q : List α) (hq : q ≠ []), q = l.take m ++ [a] → q.getLast hq = a := fun q hn e => by subst e; simp
      exact this _ _ (hq ▸ e2)
    rw [e3]
    rfl
theorem uq_strict {c : α → α → Int} (hc : Cm c) : ∀ (l : List α) (p : α), (p :: l).Pairwise (fun a b => c a b ≤ 0) → (∀ x ∈ l, ∀ y ∈ p :: l, eq x y = false → c y x ≠ 0) → (∀ y ∈ uq eq p l, c p y < 0) ∧ (uq eq p l).Pairwise fun a b => c a b < 0
  | [], _, _, _ => ⟨fun y h => (by cases h), List.Pairwise.nil⟩
  | x :: l, p, h, hn => by
    rw [List.pairwise_cons] at h
    have ih := uq_strict hc l x h.2 (fun z hz y hy => hn z (List.mem_cons_of_mem _ hz) y (List.mem_cons_of_mem _ hy))
    have hpx := h.1 x (List.mem_cons_self ..)
    show (∀ y ∈ (if eq x p then uq eq x l else x :: uq eq x l), c p y < 0) ∧ (if eq x p then uq eq x l else x :: uq eq x l).Pairwise _
    split
    · exact ⟨fun y hy => hc.le_lt hpx (ih.1 y hy), ih.2⟩
    · rename_i he
      have h0 := hn x (List.mem_cons_self ..) p (List.mem_cons_self ..) (by simpa using he)
      refine ⟨fun y hy => ?_, List.pairwise_cons.2 ⟨ih.1, ih.2⟩⟩
      rcases List.mem_cons.1 hy with rfl | hy
      · omega
      · exact hc.le_lt hpx (ih.1 y hy)
/-- In order, what is left is in strict order. -/
theorem uniq_strict {c : α → α → Int} (hc : Cm c) {l : List α} (h : l.Pairwise fun a b => c a b ≤ 0) (hn : ∀ x ∈ l, ∀ y ∈ l, eq x y = false → c y x ≠ 0) : (uniq eq l).Pairwise fun a b => c a b < 0 := by
  cases l with
  | nil => exact List.Pairwise.nil
  | cons x l =>
    have := uq_strict hc l x h (fun z hz y hy => hn z (List.mem_cons_of_mem _ hz) y hy)
    exact List.pairwise_cons.2 this
theorem uq_mem : ∀ (l : List α) (p : α), (∀ x ∈ l, ∀ y ∈ p :: l, eq x y = true → x = y) → ∀ x ∈ l, x ∈ p :: uq eq p l
  | [], _, _, x, h => by cases h
  | z :: l, p, he, x, hx => by
    have ih := uq_mem l z fun x hx y hy => he x (List.mem_cons_of_mem _ hx) y (List.mem_cons_of_mem _ hy)
    have hz : x ∈ z :: uq eq z l := by
      rcases List.mem_cons.1 hx with rfl | hx
      · exact List.mem_cons_self ..
      · exact ih x hx
    show x ∈ p :: (if eq z p then uq eq z l else z :: uq eq z l)
    split
    · rename_i e
      have := he z (List.mem_cons_self ..) p (List.mem_cons_self ..) e
      subst this; exact hz
    · exact List.mem_cons_of_mem _ hz
theorem uniq_mem {l : List α} (he : ∀ x ∈ l, ∀ y ∈ l, eq x y = true → x = y) (x : α) : x ∈ uniq eq l ↔ x ∈ l := by
  refine ⟨fun h => (uniq_sub l).subset h, fun h => ?_⟩
  cases l with
  | nil => cases h
  | cons z l =>
    rcases List.mem_cons.1 h with rfl | h
    · exact List.mem_cons_self ..
    · exact uq_mem l z (fun x hx y hy => he x (List.mem_cons_of_mem _ hx) y hy) x h
end
end Go.Proofs.YtkeonnnhogaggaaGreatDoor
/- The engine: a region that draws its order, of which every operation only makes new things: each operation's value is said by itself, and the order does not matter. -/
namespace Go.Proofs.YtkeonnnhogaggaaGreatDoor
open Go.RowKit

/-- What is said of a value; it stays true where only new blocks come. -/
structure SpT where
  S : Value → World → Prop
  st : ∀ v w w', S v w → Frm (fun _ => False) w w' → S v w'
def spec (Ss : List SpT) (i : Nat) (v : Value) (w : World) : Prop := match Ss[i]? with | some s => s.S v w | none => True
def Given (Ss : List SpT) (w1 : World) (G : Kn → Prop) : List (Nat × Nat) → Kn → Prop
  | [], l => G l
  | x :: js, l => ∀ v, spec Ss x.1 v w1 → Given Ss w1 G js ((x.2, v) :: l)
abbrev FreeX := Nat × Nat × List (Nat × Nat)
section
variable {P : Program} {os : List Oper} {Q : Exit → Act → World → Prop} {n : Nat} {p : Nat → Prop} {w0 : World} {l : Kn} {L : List Ent}
/-- What an operation must hand on. -/
def FreeK (Ss : List SpT) (i d : Nat) (w1 : World) (n : Nat) (l' : Kn) : Act → World → Prop := fun a' w' => Frm (fun _ => False) w1 w' ∧ ∃ v, spec Ss i v w' ∧ Has n a' ((d, v) :: l')
def FreeStep (P : Program) (os : List Oper) (Q : Exit → Act → World → Prop) (n : Nat) (p : Nat → Prop) (w0 : World) (Ss : List SpT) (l : Kn) (L : List Ent) (x : FreeX) : Prop :=
  ∀ w1, St p w0 w1 L → ∀ lx : Kn, Given Ss w1 (fun l' => WL P os.toArray (RQ (FreeK Ss x.1 x.2.1 w1 n l') (NP Q)) n (fun _ => False) w1 [at_ os x.1] l' []) x.2.2 (l ++ lx)
/-! ### The checks -/
def boundTo (o : Oper) (j : Nat) : Bool := o.after.toList.any fun e => Region.binds .any e && Nat.beq e.on j
def slotIs (os : List Oper) (j d : Nat) : Bool := match os[j]? with | some o => (match o.dst with | some e => Nat.beq e d | none => false) | none => false
def frB1 (os : List Oper) (ks : List Nat) (n : Nat) (k : Nat) (x : FreeX) : Bool :=
  Nat.beq x.1 k && slotIs os k x.2.1 && Nat.blt x.2.1 n && !(ks.contains x.2.1) &&
  (match os[k]? with
   | some o => o.after.toList.all (fun e => Nat.blt e.on k) && x.2.2.all (fun y => boundTo o y.1 && slotIs os y.1 y.2)
   | none => false)
def frB (os : List Oper) (ks : List Nat) (n : Nat) : Nat → List FreeX → List Nat → Bool
  | k, [], _ => Nat.beq k os.length
  | k, x :: X, used => frB1 os ks n k x && !(used.contains x.2.1) && frB os ks n (k + 1) X (x.2.1 :: used)
structure FreeOk (os : List Oper) (ks : List Nat) (n : Nat) (X : List FreeX) : Prop where
  len : X.length = os.length
  one : ∀ (k : Nat) (x : FreeX), X[k]? = some x → frB1 os ks n k x = true
  dif : ∀ (j k : Nat) (x y : FreeX), X[j]? = some x → X[k]? = some y → j ≠ k → x.2.1 ≠ y.2.1
/-- All that is listed, as the frame says. -/
def seen (os : List Oper) (listed : Array Bool) (a : Act) : Nat → Kn
  | 0 => []
  | k + 1 => match os[k]? with
    | some o => (match o.dst with | some d => if listed.getD k false = true then (d, a.tmps.getD d undef) :: seen os listed a k else seen os listed a k | none => seen os listed a k)
    | none => seen os listed a k
/-- What holds on the way. -/
structure FreeInv (os : List Oper) (n : Nat) (p : Nat → Prop) (w0 : World) (Ss : List SpT) (l : Kn) (L : List Ent) (listed : Array Bool) (a : Act) (w : World) : Prop where
  size : listed.size = os.length
  has : Has n a l
  st : St p w0 w L
  sp : ∀ j o d, os[j]? = some o → o.dst = some d → listed.getD j false = true → spec Ss j (a.tmps.getD d undef) w
def left (os : List Oper) (listed : Array Bool) : Nat := ((List.range os.length).filter fun j => !listed.getD j false).length
def outsB (os : List Oper) (outs : List (Nat × Nat)) : Bool := outs.all fun y => slotIs os y.1 y.2
end
end Go.Proofs.YtkeonnnhogaggaaGreatDoor
/- The engine: functions of the runtime's own (externs), append to a full slice whose cells are known, x[:hi:max]. -/
namespace Go.Proofs.YtkeonnnhogaggaaGreatDoor
open Go.RowKit

/-- What a call has made beside what was there. -/
theorem St.join {p : Nat → Prop} {w0 w1 w' : World} {L M : List Ent} (hS : St p w0 w1 L) (h : St (fun _ => False) w1 w' M) : St p w0 w' (M ++ L) := by
  refine ⟨hS.frm.trans (h.frm.mono (fun _ h => h.elim)), ?_, ?_, ?_⟩
  · intro e he
    rcases List.mem_append.1 he with he | he
    · exact h.holds e he
    · exact Ent.keep (hS.holds e he) (h.frm.block _ (Ent.lt (hS.holds e he)) (fun h => h))
  · rw [List.map_append, List.nodup_append]
    refine ⟨h.dist, hS.dist, ?_⟩
    rintro a ha b hb rfl
    obtain ⟨e, he, e1⟩ := List.mem_map.1 ha
    obtain ⟨e', he', e2⟩ := List.mem_map.1 hb
    have h1 := (h.mine e he).resolve_left (fun h => h)
    have h2 := Ent.lt (hS.holds e' he')
    omega
  · intro e he
    rcases List.mem_append.1 he with he | he
    · exact .inr (Nat.le_trans hS.frm.size ((h.mine e he).resolve_left (fun h => h)))
    · exact hS.mine e he
theorem rgIn {p : Nat → Prop} {w0 : World} {L : List Ent} {b off : Nat} {cs : List Value} (hp : ¬ p b) (h : w0.rangeAt b off cs) : ∀ w, St p w0 w L → w.rangeAt b off cs := fun _ hS j v hj => hS.old hp (h j v hj)
section
variable {P : Program} {C : World → Prop} {ops : Array Oper} {Q : Exit → Act → World → Prop} {n : Nat} {p : Nat → Prop} {w0 : World} {o : Oper} {rest : List Oper} {l : Kn} {L : List Ent}
section
variable {t tx e s by_ k d m : Nat} {ad : Option Addr} {xs new zs : List Value} {x y : Operand}
end
end
end Go.Proofs.YtkeonnnhogaggaaGreatDoor
/- slices.SortFunc at any element of k cells, whatever their number: the kit's sort as my worlds. -/
namespace Go.Proofs.YtkeonnnhogaggaaGreatDoor
open Go.RowKit Go.Sort Go.Shelf

theorem gs_ext : ∀ a b : World, a.heap = b.heap → a.tape = b.tape → a.drawn = b.drawn → a.os = b.os → a.output = b.output → a = b := by
  rintro ⟨⟩ ⟨⟩ h1 h2 h3 h4 h5
  dsimp only at h1 h2 h3 h4 h5
  subst h1 h2 h3 h4 h5
  rfl
theorem Frm.grows {w w' : World} (h : Frm (fun _ => False) w w') : ∃ q os', w' = Go.Sort.grow (w.drewN q) os' := by
  refine ⟨w'.drawn - w.drawn, (w'.heap.toList.drop w.heap.size).toArray, ?_⟩
  have h1 := h.drawn
  have hh : w'.heap = w.heap ++ (w'.heap.toList.drop w.heap.size).toArray := by
    apply Array.ext_getElem?
    intro k
    rw [Array.getElem?_append]
    split
    · rename_i hk; exact h.block k hk (fun h => h)
    · rename_i hk
      simp only [List.getElem?_toArray, List.getElem?_drop, Array.getElem?_toList]
      rw [show w.heap.size + (k - w.heap.size) = k by omega]
  exact gs_ext _ _ hh h.tape (by show w'.drawn = w.drawn + (w'.drawn - w.drawn); omega) h.os h.output
/-- Elements as cells. -/
def encL {α : Type} (enc : α → List Value) : List α → List Value
  | [] => []
  | x :: xs => enc x ++ encL enc xs
theorem encL_len {α : Type} {enc : α → List Value} {k : Nat} (hk : ∀ x, (enc x).length = k) : ∀ xs : List α, (encL enc xs).length = xs.length * k
  | [] => by simp [encL]
  | x :: xs => by
    show (enc x ++ encL enc xs).length = _
    rw [List.length_append, encL_len hk xs, hk, List.length_cons, Nat.add_mul, Nat.one_mul]; omega
theorem encL_seg {α : Type} {enc : α → List Value} {k : Nat} (hk : ∀ x, (enc x).length = k) : ∀ (xs : List α) (i : Nat) (x : α), xs[i]? = some x → ((encL enc xs).drop (i * k)).take k = enc x
  | [], _, _, h => by simp at h
  | y :: xs, 0, x, h => by
    simp only [List.getElem?_cons_zero, Option.some.injEq] at h
    subst h
    show ((enc y ++ encL enc xs).drop (0 * k)).take k = _
    rw [Nat.zero_mul, List.drop_zero, List.take_left' (hk y)]
  | y :: xs, i + 1, x, h => by
    rw [List.getElem?_cons_succ] at h
    show ((enc y ++ encL enc xs).drop ((i + 1) * k)).take k = _
    rw [Nat.add_mul, Nat.one_mul, Nat.add_comm, ← List.drop_drop, List.drop_left' (hk y)]
    exact encL_seg hk xs i x h
section
variable {α : Type} [Inhabited α] {enc : α → List Value} {k : Nat}
theorem gsW_frm (w : World) (blk off m : Nat) (d : Array α) (os : Array Obj) : Frm (fun b => b = blk) w (sortWorldK enc k w blk off m d os) := by
  have hsz : (putRowK enc k (Go.Sort.ahead w m) blk off d).heap.size = w.heap.size := by unfold putRowK; rw [Go.Sort.size_putRow]; rfl
  refine ⟨rfl, rfl, rfl, ?_, ?_, Nat.le_add_right _ _⟩
  · show w.heap.size ≤ ((putRowK enc k (Go.Sort.ahead w m) blk off d).heap ++ os).size
    rw [Array.size_append, hsz]; omega
  · intro j hj hn
    show ((putRowK enc k (Go.Sort.ahead w m) blk off d).heap ++ os)[j]? = _
    rw [Array.getElem?_append_left (by rw [hsz]; exact hj)]
    show (w.heap.modify blk _)[j]? = _
    rw [Array.getElem?_modify, if_neg (fun e => hn e.symm)]
def gsL (enc : α → List Value) (k : Nat) (d : Array α) (cs : List Value) : List Value := (Go.Sort.putCells id 0 (flatK enc k d) cs.toArray).toList
theorem gsL_len (d : Array α) (cs : List Value) : (gsL enc k d cs).length = cs.length := by simp [gsL, Go.Sort.putCells]
theorem encL_get (hk : ∀ x, (enc x).length = k) (hk0 : 0 < k) (d : Array α) {t : Nat} (ht : t < d.size * k) : (encL enc d.toList)[t]? = some ((enc d[t / k]!)[t % k]!) := by
  have hq : t / k < d.size := (Nat.div_lt_iff_lt_mul hk0).2 ht
  have hr : t % k < k := Nat.mod_lt _ hk0
  have e2 : d.toList[t / k]? = some d[t / k]! := by
    rw [Array.getElem?_toList, Array.getElem?_eq_getElem hq, getElem!_pos d (t / k) hq]
  have e3 := encL_seg hk _ _ _ e2
  have e4 : (enc d[t / k]!)[t % k]? = (encL enc d.toList)[t]? := by
    rw [← e3, List.getElem?_take, if_pos hr, List.getElem?_drop]
    congr 1
    exact Nat.div_add_mod' t k
  rw [← e4, getElem!_pos (enc d[t / k]!) (t % k) (by rw [hk]; exact hr)]
  exact List.getElem?_eq_getElem _
theorem gsL_take (hk : ∀ x, (enc x).length = k) (hk0 : 0 < k) (d : Array α) (cs : List Value) (h : d.size * k ≤ cs.length) : (gsL enc k d cs).take (d.size * k) = encL enc d.toList := by
  have hl : (encL enc d.toList).length = d.size * k := by rw [encL_len hk, Array.length_toList]
  apply List.ext_getElem?
  intro t
  by_cases ht : t < d.size * k
  · rw [List.getElem?_take, if_pos ht]
    have e1 : (gsL enc k d cs)[t]? = some ((enc d[t / k]!)[t % k]!) := by
      unfold gsL Go.Sort.putCells
      rw [Array.getElem?_toList, Array.getElem?_mapIdx]
      rw [show cs.toArray[t]? = some (cs[t]'(by omega)) by rw [List.getElem?_toArray]; exact List.getElem?_eq_getElem _]
      simp only [Option.map_some, size_flatK]
      rw [if_pos (by omega), Nat.sub_zero, get_flatK _ _ _ _ ht]
      rfl
    rw [e1, encL_get hk hk0 d ht]
  · rw [List.getElem?_eq_none (by rw [List.length_take]; omega), List.getElem?_eq_none (by rw [hl]; omega)]
theorem gsW_row {w : World} {blk m : Nat} {cs : List Value} {d : Array α} {os : Array Obj} (h : Row w blk cs) : Row (sortWorldK enc k w blk 0 m d os) blk (gsL enc k d cs) := by
  have hlt := h.lt
  obtain ⟨T, lo, hi, hb, hf⟩ := h
  refine ⟨T, lo, hi, ?_, by rw [gsL_len]; exact hf⟩
  have hsz : (putRowK enc k (Go.Sort.ahead w m) blk 0 d).heap.size = w.heap.size := by unfold putRowK; rw [Go.Sort.size_putRow]; rfl
  show ((putRowK enc k (Go.Sort.ahead w m) blk 0 d).heap ++ os)[blk]? = _
  rw [Array.getElem?_append_left (by rw [hsz]; exact hlt)]
  show (w.heap.modify blk _)[blk]? = _
  rw [Array.getElem?_modify, if_pos rfl, hb]
  rfl
theorem gsW_st {p : Nat → Prop} {w0 w : World} {blk m : Nat} {cs : List Value} {d : Array α} {os : Array Obj} {L : List Ent} (hS : St p w0 w (.row blk cs :: L)) : St p w0 (sortWorldK enc k w blk 0 m d os) (.row blk (gsL enc k d cs) :: L) := by
  have hF := gsW_frm (enc := enc) (k := k) w blk 0 m d os
  have hR : Row w blk cs := hS.holds (.row blk cs) (by simp)
  have hm := hS.mine (.row blk cs) (by simp)
  refine ⟨⟨hF.os.trans hS.frm.os, hF.tape.trans hS.frm.tape, hF.output.trans hS.frm.output, Nat.le_trans hS.frm.size hF.size, fun j hj hn => ?_, Nat.le_trans hS.frm.drawn hF.drawn⟩, ?_, hS.dist, ?_⟩
  · have hne : ¬ j = blk := fun e => by
      subst e
      rcases hm with h | h
      · exact hn h
      · exact absurd hj (by show ¬ j < w0.heap.size; have : w0.heap.size ≤ j := h; omega)
    exact (hF.block j (Nat.lt_of_lt_of_le hj hS.frm.size) hne).trans (hS.frm.block j hj hn)
  · intro e he
    rcases List.mem_cons.1 he with rfl | he
    · exact gsW_row hR
    · have hh := hS.holds e (List.mem_cons_of_mem _ he)
      refine Ent.keep hh (hF.block _ (Ent.lt hh) fun e' => ?_)
      have hd := hS.dist
      simp only [List.map_cons, List.nodup_cons] at hd
      exact hd.1 (List.mem_map.2 ⟨e, he, e'⟩)
  · intro e he
    rcases List.mem_cons.1 he with rfl | he
    · exact hm
    · exact hS.mine e (List.mem_cons_of_mem _ he)
/-- Ascending by an order: no later one is less than an earlier one. -/
def AscBy (cf : α → α → Int) (ys : List α) : Prop := ∀ (i j : Nat) (x y : α), ys[i]? = some x → ys[j]? = some y → i < j → ¬ cf y x < 0
theorem gsort_c {P : Program} {ρ : Go.Shelf.Ren} (Ly : SlLaysF0.n6 P ρ) (hk0 : 0 < k) (aE : ∀ w, (isAgg (ρ.t 24)).run P w = .ok true w) (zE : ∀ w, (Go.sizeOf (ρ.t 24)).run P w = .ok k w) (hk : ∀ x, (enc x).length = k) (h1 : ∀ x, ∀ v ∈ enc x, v.oneCell' = true)
    (cf : α → α → Int) (hO : SWO (ltOf cf)) (g : Nat) (cb : Array Value) (eg : ∀ args w, (callFunc g args).run P w = .ok (.enter g args) w) (p : Nat → Prop) (w0 w : World) (L E : List Ent) (ad : Option Addr) (c : Nat) (xs : List α)
    (hcmp : ∀ gb cs, St p w0 w (.row gb cs :: L) → ∀ w', Frm (fun b => b = gb) w w' → ∀ x y, Calls P g (#[.agg (enc x).toArray, .agg (enc y).toArray] ++ cb) w' fun e w'' => e = .returned (.int .i64 (cf x y)) ∧ Frm (fun _ => False) w' w'')
    (hV : Vec k ad xs.length c (encL enc xs) E) (hS : St p w0 w (E ++ L)) (hlen : xs.length < 4611686018427387904) :
    Calls P (ρ.f 6) #[.slice ad xs.length c, .func (.func g) #[] cb] w fun e w' =>
      e = .returned (.tuple #[]) ∧ ∃ ys E', ys.Perm xs ∧ AscBy cf ys ∧ Vec k ad xs.length c (encL enc ys) E' ∧ St p w0 w' (E' ++ L) := by
  rcases hV with ⟨ha, hn, hc, hx, hE⟩ | ⟨gb, cs, rfl, rfl, hx, hcl, hkc⟩
  · have e0 : xs = [] := List.length_eq_zero_iff.1 hn
    subst e0
    refine (Go.Proofs.AnyF.slices_SortFunc_none Ly ad c _ w).mono fun e w' h => ⟨h.1, [], E, .refl _, fun i j A B h => by simp at h, .inl ⟨ha, hn, hc, hx, hE⟩, by rw [h.2]; exact hS⟩
  · have hS' : St p w0 w (.row gb cs :: L) := hS
    have hR : Row w gb cs := hS'.holds (.row gb cs) (by simp)
    have hcs : xs.length * k ≤ cs.length := by rw [hcl]; exact Nat.mul_le_mul_right k hkc
    have hsz : xs.toArray.size = xs.length := by simp
    have hcm : CmpLays P g cb enc k cf gb 0 xs.toArray.size w := fun m os dk hs x y =>
      (hcmp gb cs hS' _ (gsW_frm w gb 0 m dk os) x y).mono fun e w' ⟨he, hF⟩ => ⟨he, hF.grows⟩
    have hH : HoldsK enc k w gb 0 xs.toArray := fun t ht => by
      rw [size_flatK] at ht
      have ht2 : t < cs.length := by rw [hsz] at ht; omega
      rw [Nat.zero_add]
      refine ⟨hR.cell ?_, hR.frozen ht2⟩
      show cs[t]? = some ((flatK enc k xs.toArray)[t]!)
      rw [get_flatK _ _ _ _ ht, ← encL_get hk hk0 _ ht]
      show cs[t]? = (encL enc xs)[t]?
      rw [← hx, List.getElem?_take, if_pos (by rw [← hsz]; exact ht)]
    have key := Go.Proofs.AnyQ.slices_SortFunc Ly k aE zE enc hk h1 cf hO g cb gb 0 c xs.toArray w eg hcm hH hR.lt (by rw [hsz]; exact hlen)
    rw [hsz] at key
    refine key.mono ?_
    rintro e w' ⟨he, d', n, os, ⟨hs1, _, hperm⟩, hsort, rfl⟩
    have hd' : d'.size = xs.length := by rw [hs1, hsz]
    have f1 : d'.extract 0 xs.length = d' := by rw [← hd']; simp
    have f2 : xs.toArray.extract 0 xs.length = xs.toArray := by rw [← hsz]; exact Array.extract_size
    rw [f1, f2] at hperm
    have hrow := gsL_take hk hk0 d' cs (by rw [hd']; exact hcs)
    refine ⟨he, d'.toList, [.row gb (gsL enc k d' cs)], ?_, ?_, ?_, gsW_st hS'⟩
    · exact hperm
    · intro i j A B hi hj hij
      have li := (List.getElem?_eq_some_iff.1 hi).1
      have lj := (List.getElem?_eq_some_iff.1 hj).1
      rw [Array.length_toList] at li lj
      have h := hsort i j (Nat.zero_le _) hij (by rw [← hd']; exact lj)
      rw [Array.getElem?_toList, Array.getElem?_eq_getElem li] at hi
      rw [Array.getElem?_toList, Array.getElem?_eq_getElem lj] at hj
      rw [getElem!_pos d' i li, getElem!_pos d' j lj] at h
      have ea := Option.some.inj hi
      have eb := Option.some.inj hj
      subst ea eb
      exact of_decide_eq_false h
    · exact .inr ⟨gb, gsL enc k d' cs, rfl, rfl, by rw [← hd', hrow], by rw [gsL_len]; exact hcl, hkc⟩
end
end Go.Proofs.YtkeonnnhogaggaaGreatDoor
/- make of elements of s cells; clear of a slice; elements laid over others in a block. -/
namespace Go.Proofs.YtkeonnnhogaggaaGreatDoor
open Go.RowKit

/-- The same blocks in another order, by counting. -/
theorem St.permX {p : Nat → Prop} {w0 w : World} {L L' : List Ent} (hS : St p w0 w L) (h : ∀ (c : Ent → List Ent → Nat) (k : Ent → Ent → Nat), (∀ e a l, c e (a :: l) = c e l + k e a) → (∀ e l r, c e (l ++ r) = c e l + c e r) → (∀ e, c e [] = 0) → ∀ e, c e L = c e L' := by intro c k h1 h2 h3 e; simp only [h1, h2, h3] <;> omega) : St p w0 w L' := hS.perm (by
  classical
  exact List.perm_iff_count.2 fun e => (h (fun e l => l.count e) (fun e a => if a == e then 1 else 0) (fun _ _ _ => List.count_cons) (fun _ _ _ => List.count_append) (fun _ => List.count_nil) e).symm)
/-- Some of the blocks, in whatever order; Z: the others. -/
theorem St.dropX {p : Nat → Prop} {w0 w : World} {L L' : List Ent} (Z : List Ent) (hS : St p w0 w L) (h : ∀ (c : Ent → List Ent → Nat) (k : Ent → Ent → Nat), (∀ e a l, c e (a :: l) = c e l + k e a) → (∀ e l r, c e (l ++ r) = c e l + c e r) → (∀ e, c e [] = 0) → ∀ e, c e L = c e (L' ++ Z) := by intro c k h1 h2 h3 e; simp only [h1, h2, h3] <;> omega) : St p w0 w L' :=
  (hS.permX (L' := L' ++ Z) h).sub (List.sublist_append_left _ _)
section
variable {P : Program} {ops : Array Oper} {Q : Exit → Act → World → Prop} {n : Nat} {p : Nat → Prop} {w0 : World} {o : Oper} {rest : List Oper} {l : Kn} {L : List Ent}
/-- make([]T, m, c), an element s cells. -/
theorem WL.makeN {t e d m c by_ s : Nat} {x y : Operand} {k k' : IntKind} {A B : Int} {zs : List Value} (ho : o.op = .makeSlice t x y) (hx : ev l x = some (.int k A)) (hy : ev l y = some (.int k' B)) (hA : A = (m : Int)) (hB : B = (c : Int)) (hmc : m ≤ c)
    (hu : P.underlying t = some (.slice e)) (hb : (P.info? e).map (·.bytes) = some by_) (hbig : by_ * c ≤ 281474976710656) (hc63 : c < 2 ^ 62) (hs : (P.info? e).map (·.size) = some s) (hz : Zero P e zs) (hzl : zs.length = s) (hg : On ops o l) (hd : o.dst = some d) (hn : Nat.blt d n = true)
    (h : ∀ g, w0.heap.size ≤ g → WL P ops Q n p w0 rest ((d, .slice (some ⟨g, 0, none⟩) m c) :: l) (.row g (List.replicate c zs).flatten :: L)) : WL P ops Q n p w0 (o :: rest) l L := by
  refine WL.op hg hd hn fun a w ha hS => ?_
  have h1 := ha.ev hx
  have h2 := ha.ev hy
  subst hA hB
  obtain ⟨zz, hz, hzz⟩ := hz
  refine ⟨_, _, _, ?_, St.new (cs := (List.replicate c zs).flatten) (T := e) hS, h _ hS.frm.size⟩
  have hzc : zz.cells = zs.toArray := by rw [← hzz]
  have hwm : IntKind.i64.wrap (m : Int) = m := w_i64 (by omega) (by omega)
  have hwc : IntKind.i64.wrap (c : Int) = c := w_i64 (by omega) (by omega)
  have hsz := run_sizeOf (P := P) hs
  have hq : ∃ i, P.info? e = some i ∧ i.bytes = by_ := by
    cases hq : P.info? e with
    | none => simp [hq] at hb
    | some i => exact ⟨i, rfl, by simpa [hq] using hb⟩
  obtain ⟨i, hi, hib⟩ := hq
  have hnc : ¬ ((by_ : Int) * (c : Int) > 2 ^ 48) := by
    have h := Int.ofNat_le.2 hbig
    rw [Int.natCast_mul] at h
    omega
  have hask : ∀ (k : Nat) (w : World), (askRoom k).run P w = .ok () w := fun k w => by
    unfold askRoom
    by_cases h : k > roomBytes
    · rw [if_pos h]; rfl
    · rw [if_neg h]; rfl
  have hrow := zero_row hzl c
  unfold execOp
  simp only [ho, h1, h2, Instr.makeSlice, Sem.run_bind, run_underlying hu, Result.andThen, asInt, asIntOf, Sem.run_pure, typeInfo, program, Sem.run, hi, hib, hwm, hwc]
  have ht1 : (decide ((c : Int) < 0) || decide ((by_ : Int) * (c : Int) > 2 ^ 48) || decide ((m : Int) < 0) || decide ((m : Int) > (c : Int))) = false := by
    simp only [Bool.or_eq_false_iff, decide_eq_false_iff_not]
    exact ⟨⟨⟨by omega, hnc⟩, by omega⟩, by omega⟩
  simp only [ht1, Bool.false_eq_true, if_false, Int.toNat_natCast]
  by_cases h0 : c * s = 0
  · have hnil : (List.replicate c zs).flatten = [] := List.length_eq_zero_iff.1 (by rw [flat_len hzl]; exact h0)
    have h0' : ∀ f : Nat → Value, Array.map f (Array.range 0) = #[] := fun f => Array.ext (by simp) (fun i h => by simp at h)
    rw [hnil]
    simp [hask, hsz, newRow, newObj, Sem.run, h0, h0']
  · have hr2 : Array.map (fun x => zs[x % zs.length]?.getD default) (Array.range (c * s)) = ((List.replicate c zs).flatten).toArray := by
      rw [← hrow]; simp
    simp [hask, hsz, h0, run_zeroValue hz, hzc, hr2, newRow, newObj, Sem.run]
def zrs (zs : List Value) (k : Nat) : List Value := (List.replicate k zs).flatten
theorem zrs_len (zs : List Value) (k : Nat) : (zrs zs k).length = k * zs.length := by unfold zrs; simp
theorem zrs_one {zs : List Value} (h : zs.all one = true) (k : Nat) : (zrs zs k).all one = true := by
  unfold zrs
  rw [List.all_eq_true] at h ⊢
  intro v hv
  obtain ⟨l, hl, hv⟩ := List.mem_flatten.1 hv
  rw [List.eq_of_mem_replicate hl] at hv
  exact h v hv
/-- clear(s): its k elements are zero. -/
theorem WL.clear {t e g off k c s : Nat} {x : Operand} {zs cs : List Value} {L' : List Ent} (ho : o.op = .call { callee := .builtin .clear, args := #[x], argTypes := #[t] }) (hx : ev l x = some (.slice (some ⟨g, off, none⟩) k c))
    (hu : P.underlying t = some (.slice e)) (hz : Zero P e zs) (hzl : zs.length = s) (hall : zs.all one = true) [At L g cs] (hle : off + k * s ≤ cs.length) [Put L g (.row g (splice cs off (zrs zs k))) L'] (hg : On ops o l) (hd : o.dst = none)
    (h : WL P ops Q n p w0 rest l L') : WL P ops Q n p w0 (o :: rest) l L := by
  refine WL.act hg hd fun a w ha hS => ?_
  have hx' : evs l [x] = some [.slice (some ⟨g, off, none⟩) k c] := by simp [evs, hx]
  obtain ⟨cc, hr⟩ := run_builtin (P := P) (w := w) (xs := [x]) ho hx' ha
  obtain ⟨z, hz, hzs⟩ := hz
  have hzc : z.cells = zs.toArray := by rw [← hzs]
  have hl : off + (zrs zs k).length ≤ cs.length := by rw [zrs_len, hzl]; exact hle
  obtain ⟨w', hst, hR', hF⟩ := run_storeCells_row (P := P) (zrs zs k) 0 off cs w (hS.row (g := g)) (by simpa using hl) (zrs_one hall k)
  have hzr : Builtin.zeroCells zs.toArray k = (zrs zs k).toArray := by
    have := zero_row (zs := zs) rfl k
    unfold Builtin.zeroCells zrs
    rw [← this]
    simp
  by_cases h0 : k = 0
  · subst h0
    have e0 : splice cs off (zrs zs 0) = cs := splice_nil cs off
    refine ⟨w, L', .inr ⟨.tuple #[], ?_⟩, hS.put (g := g) (e := .row g (splice cs off (zrs zs 0))) rfl (Frm.refl _ _) (by rw [e0]; exact hS.row (g := g)), h⟩
    rw [hr]
    simp [builtin, Builtin.clear_, run_underlying hu]
  · refine ⟨w', L', .inr ⟨.tuple #[], ?_⟩, hS.put (g := g) (e := .row g (splice cs off (zrs zs k))) rfl hF (show Row _ _ _ by simpa using hR'), h⟩
    obtain ⟨m, rfl⟩ : ∃ m, k = m + 1 := ⟨k - 1, by omega⟩
    rw [hr]
    simp [builtin, Builtin.clear_, run_underlying hu, run_zeroValue hz, hzc, hzr, hst]
section
variable {C : World → Prop}
theorem v_neq_aggE {t yt : TypeId} {x y : Operand} {xs ys : List Value} {ks : List CK} {b : Bool} (ho : o.op = .binOp .neq t x y yt) (hx : ev l x = some (.agg xs.toArray)) (hy : ev l y = some (.agg ys.toArray)) (hE : EqK P 10000 t true ks) (hg : P.eqGuardType P.depth t = false)
    (fx : fitsAll ks xs = true) (fy : fitsAll ks ys = true) (hb : b = true ↔ ¬ xs = ys) : Val P C n l o (.bool b) := by
  cases b with
  | true => exact v_neq_aggT ho hx hy hE hg fx fy (hb.1 rfl)
  | false => exact v_neq_aggF ho hx hy hE hg fx fy (Classical.byContradiction fun h => by have := hb.2 h; cases this)
theorem v_eql_aggD {t yt : TypeId} {x y : Operand} {xs ys : List Value} {ks : List CK} {b : Bool} (ho : o.op = .binOp .eql t x y yt) (hx : ev l x = some (.agg xs.toArray)) (hy : ev l y = some (.agg ys.toArray)) (hE : EqK P 10000 t true ks) (hg : P.eqGuardType P.depth t = false)
    (fx : fitsAll ks xs = true) (fy : fitsAll ks ys = true) (hb : b = true ↔ xs = ys) : Val P C n l o (.bool b) := by
  cases b with
  | false => exact v_eql_aggF ho hx hy hE hg fx fy fun h => by have := hb.2 h; cases this
  | true => exact v_eql_aggT ho hx hy hE hg fx fy (hb.1 rfl)
end
theorem splice_take {cs new : List Value} {k : Nat} (h : k + new.length ≤ cs.length) : (splice cs k new).take k = cs.take k := by
  rw [splice_eq _ _ _ h, List.append_assoc, List.take_left' (by rw [List.length_take]; omega)]
end
/-! ### Elements in a block -/
section
variable {α : Type} {enc : α → List Value} {s : Nat} (hk : ∀ x, (enc x).length = s)
include hk
theorem encL_take : ∀ (ys : List α) (k : Nat) (R : List Value), k ≤ ys.length → (encL enc ys ++ R).take (k * s) = encL enc (ys.take k)
  | ys, 0, R, _ => by rw [Nat.zero_mul]; cases ys <;> rfl
  | [], k + 1, R, h => by simp at h
  | y :: ys, k + 1, R, h => by
    show ((enc y ++ encL enc ys) ++ R).take ((k + 1) * s) = enc y ++ encL enc (ys.take k)
    rw [List.append_assoc, Nat.add_mul, Nat.one_mul, Nat.add_comm, ← hk y, List.take_length_add_append, hk y, encL_take ys k R (by simp at h; omega)]
theorem encL_drop : ∀ (ys : List α) (k : Nat) (R : List Value), k ≤ ys.length → (encL enc ys ++ R).drop (k * s) = encL enc (ys.drop k) ++ R
  | ys, 0, R, _ => by rw [Nat.zero_mul]; cases ys <;> rfl
  | [], k + 1, R, h => by simp at h
  | y :: ys, k + 1, R, h => by
    show ((enc y ++ encL enc ys) ++ R).drop ((k + 1) * s) = encL enc (ys.drop k) ++ R
    rw [List.append_assoc, Nat.add_mul, Nat.one_mul, Nat.add_comm, ← List.drop_drop, List.drop_left' (hk y), encL_drop ys k R (by simp at h; omega)]
/-- An element laid over another one. -/
theorem encL_set (ys : List α) (i : Nat) (x : α) (R : List Value) (h : i < ys.length) : splice (encL enc ys ++ R) (i * s) (enc x) = encL enc (ys.set i x) ++ R := by
  have hl := encL_len hk ys
  have h1 : i * s + s ≤ ys.length * s := by rw [← Nat.succ_mul]; exact Nat.mul_le_mul_right _ h
  rw [splice_eq _ _ _ (by rw [hk, List.length_append]; omega), hk, encL_take hk ys i R (by omega), show i * s + s = (i + 1) * s by rw [Nat.succ_mul], encL_drop hk ys (i + 1) R h]
  have e : ys.set i x = ys.take i ++ x :: ys.drop (i + 1) := by
    rw [List.set_eq_take_append_cons_drop, if_pos h]
  rw [e]
  have : ∀ (xs zs : List α), encL enc (xs ++ zs) = encL enc xs ++ encL enc zs := fun xs zs => by
    induction xs with
    | nil => rfl
    | cons a xs ih => show enc a ++ encL enc (xs ++ zs) = (enc a ++ encL enc xs) ++ encL enc zs; rw [ih, List.append_assoc]
  rw [this]
  show _ = (_ ++ (enc x ++ _)) ++ R
  simp only [List.append_assoc]
theorem encL_at {ys : List α} {i : Nat} {x : α} {R : List Value} (h : ys[i]? = some x) : seg (encL enc ys ++ R) (i * s) s = enc x := by
  have hi := (List.getElem?_eq_some_iff.1 h).1
  unfold seg
  rw [encL_drop hk ys i R (by omega)]
  have e : ys.drop i = x :: ys.drop (i + 1) := by
    rw [List.drop_eq_getElem_cons hi]
    congr 1
    exact Option.some.inj ((List.getElem?_eq_getElem hi).symm.trans h)
  rw [e]
  show ((enc x ++ encL enc (ys.drop (i + 1))) ++ R).take s = enc x
  rw [List.append_assoc, List.take_left' (hk x)]
omit hk in
/-- A slice of one's own: its block's cells are its elements', then others. -/
theorem Vec.split {ad : Option Addr} {c : Nat} {xs : List α} {E : List Ent} (hV : Vec s ad xs.length c (encL enc xs) E) (h : xs ≠ []) : ∃ g R, ad = some ⟨g, 0, none⟩ ∧ E = [.row g (encL enc xs ++ R)] ∧ (encL enc xs ++ R).length = c * s ∧ xs.length ≤ c := by
  rcases hV with ⟨_, hn, _⟩ | ⟨g, cs, rfl, rfl, hx, hl, hc⟩
  · exact absurd (List.length_eq_zero_iff.1 hn) h
  · refine ⟨g, cs.drop (xs.length * s), rfl, ?_, ?_, hc⟩
    · rw [← hx, List.take_append_drop]
    · rw [← hx, List.take_append_drop]; exact hl
end
end Go.Proofs.YtkeonnnhogaggaaGreatDoor
/- Rules and entries of a table: as they lie, as data; their orders. -/
namespace Go.Proofs.YtkeonnnhogaggaaGreatDoor
open Go.RowKit

theorem cmpI_cm : Cm cmpI := by
  refine ⟨fun a => ?_, fun a b => ?_, fun a b c h1 h2 => ?_⟩ <;> unfold cmpI at * <;> (repeat' (split at *)) <;> omega
theorem cmpI_zero {x y : Int} : cmpI x y = 0 ↔ x = y := by unfold cmpI; split <;> (try split) <;> omega
theorem lexK_cm {α : Type} (f : α → Nat → Int) : ∀ k, Cm (fun a b => lexK (f a) (f b) k)
  | 0 => Cm.triv
  | k + 1 => Cm.lex (lexK_cm f k) (cmpI_cm.on fun a => f a k)
theorem lexK_same {f g : Nat → Int} : ∀ {k}, lexK f g k = 0 → ∀ i, i < k → f i = g i
  | 0, _, i, hi => absurd hi (Nat.not_lt_zero i)
  | k + 1, h, i, hi => by
    have h : (if lexK f g k ≠ 0 then lexK f g k else cmpI (f k) (g k)) = 0 := h
    by_cases e : lexK f g k = 0
    · rw [if_neg (fun q => q e)] at h
      by_cases e2 : i = k
      · subst e2; exact cmpI_zero.1 h
      · exact lexK_same e i (by omega)
    · rw [if_pos e] at h; exact absurd h e
theorem acmp_cm : Cm acmp := Cm.lex (cmpI_cm.on Ac.set) (lexK_cm Ac.val 9)
/-- Numbers behind a field's are 0: so an act is told by its cells. -/
def Ac.Nz (a : Ac) : Prop := ∀ k, 9 ≤ k → a.val k = 0
def Mt.Nz (m : Mt) : Prop := ∀ k, 9 ≤ k → m.val k = 0 ∧ m.mask k = 0
theorem Ac.ext' {a b : Ac} (ha : a.Nz) (hb : b.Nz) (h1 : a.set = b.set) (h2 : ∀ k, k < 9 → a.val k = b.val k) : a = b := by
  cases a; cases b
  dsimp only at h1 h2
  subst h1
  congr 1
  funext k
  by_cases hk : k < 9
  · exact h2 k hk
  · exact (ha k (by omega)).trans (hb k (by omega)).symm
theorem acmp_same {a b : Ac} (ha : a.Nz) (hb : b.Nz) (h : acmp a b = 0) : a = b := by
  unfold acmp at h
  split at h
  · rename_i q; exact absurd h q
  · rename_i q; exact Ac.ext' ha hb (cmpI_zero.1 (by omega)) (lexK_same h)
/-- The order of matches: field by field, the mask first. -/
def mcmpK (m n : Mt) : Nat → Int
  | 0 => 0
  | k + 1 => if mcmpK m n k ≠ 0 then mcmpK m n k else (if cmpI (m.mask k) (n.mask k) ≠ 0 then cmpI (m.mask k) (n.mask k) else cmpI (m.val k) (n.val k))
/-! ### Rules -/
structure RuD where
  m : Mt
  acts : List Ac
structure RuL where
  m : Mt
  ad : Option Addr
  c : Nat
  acts : List Ac
def RuL.d (r : RuL) : RuD := ⟨r.m, r.acts⟩
def RuL.ru (r : RuL) : Ru := ⟨r.m, r.ad, r.acts.length, r.c⟩
def RuL.cells (r : RuL) : List Value := ruL r.ru
theorem RuL.len (r : RuL) : r.cells.length = 19 := ruL_len _
abbrev actsL (xs : List Ac) : List Value := encL acL xs
abbrev rulesL (rs : List RuL) : List Value := encL RuL.cells rs
theorem acL_len (a : Ac) : (acL a).length = 10 := by show (_ :: ucs a.val 9).length = 10; rw [List.length_cons, ucs_len]
theorem actsL_len (xs : List Ac) : (actsL xs).length = xs.length * 10 := encL_len acL_len xs
theorem rulesL_len (rs : List RuL) : (rulesL rs).length = rs.length * 19 := encL_len RuL.len rs
theorem encL_append {α : Type} (enc : α → List Value) : ∀ xs ys : List α, encL enc (xs ++ ys) = encL enc xs ++ encL enc ys
  | [], _ => rfl
  | x :: xs, ys => by show enc x ++ encL enc (xs ++ ys) = (enc x ++ encL enc xs) ++ encL enc ys; rw [encL_append enc xs ys, List.append_assoc]
theorem encL_snoc {α : Type} (enc : α → List Value) (xs : List α) (x : α) : encL enc (xs ++ [x]) = encL enc xs ++ enc x := by rw [encL_append]; show _ ++ (enc x ++ []) = _; rw [List.append_nil]
/-- Cells that can be read, from so far on. -/
def Rg (w : World) (ad : Option Addr) (cs : List Value) : Prop := cs ≠ [] → ∃ b o, ad = some ⟨b, o, none⟩ ∧ w.rangeAt b o cs
theorem Rg.seg {w : World} {b o : Nat} {α : Type} {enc : α → List Value} {k : Nat} (hk : ∀ x, (enc x).length = k) {xs : List α} {i : Nat} {x : α} (h : w.rangeAt b o (encL enc xs)) (hx : xs[i]? = some x) : w.rangeAt b (o + i * k) (enc x) := fun j v hj => by
  have := encL_seg hk xs i x hx
  rw [← this] at hj
  rw [List.getElem?_take] at hj
  split at hj
  · rw [List.getElem?_drop] at hj
    have := h _ _ hj
    rwa [Nat.add_assoc]
  · cases hj
theorem Rg.frm {q : Nat → Prop} {w w' : World} {ad : Option Addr} {cs : List Value} (hF : Frm q w w') (h : Rg w ad cs) (hq : ∀ b o, ad = some ⟨b, o, none⟩ → ¬ q b) : Rg w' ad cs := fun hn => by
  obtain ⟨b, o, e, hr⟩ := h hn
  exact ⟨b, o, e, rgIn (p := q) (L := []) (hq b o e) hr w' ⟨hF, (fun _ h => by cases h), (by simp), (fun _ h => by cases h)⟩⟩
def actErr (xs : List Ac) : Int := if xs.length > 64 then 34 else if ∀ a ∈ xs, a.Ok then 0 else 1
def Mt.Okk (m : Mt) : Prop := ∀ k, k < 9 → mtOk k (m.val k) (m.mask k)
instance (m : Mt) : Decidable m.Okk := by unfold Mt.Okk; infer_instance
def RuD.err (r : RuD) : Int := if r.m.Okk then actErr r.acts else 1
/-- The first error. -/
def errs {α : Type} (f : α → Int) : List α → Int
  | [] => 0
  | x :: xs => if f x ≠ 0 then f x else errs f xs
theorem errs_zero {α : Type} {f : α → Int} : ∀ {xs : List α}, errs f xs = 0 ↔ ∀ x ∈ xs, f x = 0
  | [] => ⟨fun _ _ h => (by cases h), fun _ => rfl⟩
  | x :: xs => by
    show (if f x ≠ 0 then f x else errs f xs) = 0 ↔ _
    by_cases h : f x = 0
    · rw [if_neg (fun q => q h), errs_zero]
      exact ⟨fun k y hy => (by rcases List.mem_cons.1 hy with e | hy; (rw [e]; exact h); exact k y hy), fun k y hy => k y (List.mem_cons_of_mem _ hy)⟩
    · rw [if_pos h]
      exact ⟨fun k => absurd k h, fun k => k x (List.mem_cons_self ..)⟩
/-! ### Entries -/
structure EnD where
  prio : Int
  mark : Int
  r : RuD
structure EnL where
  prio : Int
  mark : Int
  r : RuL
def EnL.d (e : EnL) : EnD := ⟨e.prio, e.mark, e.r.d⟩
def EnL.cells (e : EnL) : List Value := .int .i64 e.prio :: .int .i64 e.mark :: e.r.cells
structure RuD.In (r : RuD) : Prop where
  m : r.m.In
  nz : r.m.Nz
  act : ∀ a ∈ r.acts, a.In ∧ a.Nz
structure EnD.In (e : EnD) : Prop where
  prio : -9223372036854775808 ≤ e.prio ∧ e.prio ≤ 9223372036854775807
  mark : -9223372036854775808 ≤ e.mark ∧ e.mark ≤ 9223372036854775807
  r : e.r.In
def EnD.err (e : EnD) : Int := if 0 ≤ e.prio ∧ e.prio ≤ 1073741824 then e.r.err else 1
/-- The order of entries. -/
def ordE (a b : EnD) : Int := if cmpI b.prio a.prio ≠ 0 then cmpI b.prio a.prio else mcmpK a.r.m b.r.m 9
/-- Acts in order, each once. -/
def NormP (xs ys : List Ac) : Prop := ys.Pairwise (fun a b => acmp a b < 0) ∧ ∀ x, x ∈ ys ↔ x ∈ xs
theorem NormP.one {xs ys zs : List Ac} (h1 : NormP xs ys) (h2 : NormP xs zs) : ys = zs := strict_only acmp_cm ys zs h1.1 h2.1 fun x => (h1.2 x).trans (h2.2 x).symm
end Go.Proofs.YtkeonnnhogaggaaGreatDoor
/- match.Check, match.Cmp; rules.List.Check of one rule; an entry's check; the order of entries. -/
namespace Go.Proofs.YtkeonnnhogaggaaGreatDoor
open Go.RowKit

theorem splice_all {cs new : List Value} (h : new.length = cs.length) : splice cs 0 new = new := by
  rw [splice_eq _ _ _ (by omega), List.take_zero, List.nil_append, List.drop_eq_nil_of_le (by omega), List.append_nil]
theorem ruC_acts (r : RuL) : r.cells[18]? = some (.slice r.ad r.acts.length r.c) := ruL_acts _
end Go.Proofs.YtkeonnnhogaggaaGreatDoor
/- slices.Clone, slices.Compact of rules.Act (printed by gen/slc.py). -/
namespace Go.Proofs.YtkeonnnhogaggaaGreatDoor
open Go.RowKit

set_option maxHeartbeats 1000000 in
theorem CloneAc_c (w : World) (ad : Option Addr) (c : Nat) (xs : List Ac) (hr : Rg w ad (encL acL xs)) (hone : (encL acL xs).all one = true) (hn : xs.length ≤ 100000) :
    Calls Tryz.prog 100 #[.slice ad xs.length c] w fun e w' => ∃ ad' c' E, e = .returned (.slice ad' xs.length c') ∧ Vec 10 ad' xs.length c' (encL acL xs) E ∧ St (fun _ => False) w w' E := by
  cases ad with
  | none =>
    obtain rfl : xs = [] := Classical.byContradiction fun h => by
      obtain ⟨b, o, e, _⟩ := hr (fun hn => h (List.length_eq_zero_iff.1 (by have := encL_len acL_len xs; rw [hn] at this; simp at this; omega)))
      cases e
    refine enter Tryz.func100 rfl Tryz.ntmps100 rfl (St.start (fun _ => False) w) ?_
    refine WC.seq <| WC.region <| WL.v (v_assign rfl rfl) rfl <| WL.nt <| WC.seq <| WC.seq <| WC.region <| WL.v (v_move rfl rfl) rfl <| WL.v (v_eql_nil true rfl rfl Tryz.underlying113 rfl) rfl <| WL.nt <| WC.cond_t rfl <| WC.seq <| WC.region <| WL.v (v_assign rfl rfl) rfl <| ?_
    refine WL.nt <| WC.ret <| WE.then_ret <| WE.ret1 (P := Tryz.prog) (.inl rfl) Tryz.results100 rfl <| ?_
    exact fun w' h => ⟨none, 0, [], rfl, Vec.nil 10, h⟩
  | some a =>
    have hl := encL_len acL_len xs
    refine enter Tryz.func100 rfl Tryz.ntmps100 rfl (St.start (fun _ => False) w) ?_
    refine WC.seq <| WC.region <| WL.v (v_assign rfl rfl) rfl <| WL.nt <| WC.seq <| WC.seq <| WC.region <| WL.v (v_move rfl rfl) rfl <| WL.v (v_eql_nil false rfl rfl Tryz.underlying113 rfl) rfl <| WL.nt <| WC.cond_f rfl <| WC.skip <| WE.then_n <| WC.seq <| ?_
    refine WC.region ?_
    refine WL.buildSlice rfl rfl Tryz.underlying113 sz_110 zero_110 rfl (by decide) rfl (.none rfl) rfl rfl ?_
    intro g5 hg5
    refine WL.v (v_move rfl rfl) rfl ?_
    refine WL.appendL rfl rfl rfl Tryz.underlying113 Tryz.underlying113 sz_110 by_110 zero_110 rfl rfl (E := [.row g5 []]) (Vec.row (k := 0) (s := 10) (c := 0) rfl rfl (by omega)) (new := encL acL xs) (fun h => by obtain ⟨b', o', e', hr'⟩ := hr (fun hn => by rw [hn] at hl; simp at hl; omega); exact ⟨b', o', e', rgIn (fun h => h) hr'⟩) hl hone (by omega) (.none rfl) rfl rfl ?_
    intro ad7 c7 E7 hV7 hr7
    refine WL.v (v_assign rfl rfl) rfl <| WL.nt <| WC.ret <| WE.ret1 (P := Tryz.prog) (.inl rfl) Tryz.results100 rfl <| ?_
    exact fun w' h => ⟨ad7, c7, E7, by rw [Nat.zero_add], by simpa using hV7, h.sub (List.sublist_append_left _ _)⟩
structure CsAc where
  k : Nat
  j : Nat
  ys : List Ac
set_option maxHeartbeats 4000000 in
theorem CompactAc_c (p : Nat → Prop) (w0 w : World) (L E : List Ent) (ad : Option Addr) (c : Nat) (xs : List Ac) (eq : Ac → Ac → Bool) (heq : ∀ x y, eq x y = true ↔ acL x = acL y) (hV : Vec 10 ad xs.length c (encL acL xs) E) (hS : St p w0 w (E ++ L)) (hn : xs.length ≤ 100000) :
    Calls Tryz.prog 103 #[.slice ad xs.length c] w fun e w' => ∃ E', e = .returned (.slice ad (uniq eq xs).length c) ∧ Vec 10 ad (uniq eq xs).length c (encL acL (uniq eq xs)) E' ∧ St p w0 w' (E' ++ L) := by
  by_cases h2 : xs.length < 2
  · have e0 : uniq eq xs = xs := (match xs, h2 with | [], _ => rfl | [x], _ => rfl | _ :: _ :: _, h => absurd h (by simp))
    rw [e0]
    refine enter Tryz.func103 rfl Tryz.ntmps103 rfl hS ?_
    refine WC.seq <| WC.region <| WL.v (v_assign rfl rfl) rfl <| WL.nt <| WC.seq <| WC.seq <| WC.region <| WL.v (v_move rfl rfl) rfl <| WL.v (v_len_slice rfl rfl Tryz.underlying113) rfl <| ?_
    refine WL.v ((v_lss rfl rfl rfl).t (by omega)) rfl ?_
    refine WL.nt <| WC.cond_t rfl <| WC.seq <| WC.region <| WL.v (v_move rfl rfl) rfl <| WL.v (v_assign rfl rfl) rfl <| WL.nt <| WC.ret <| WE.then_ret <| WE.ret1 (P := Tryz.prog) (.inl rfl) Tryz.results103 rfl <| ?_
    exact fun w' h => ⟨E, rfl, hV, h⟩
  have hlen := @acL_len
  obtain ⟨g, R, rfl, rfl, hcl, hcap⟩ := hV.split (fun e => h2 (by rw [e]; exact Nat.zero_lt_two))
  have hel := encL_len hlen xs
  rw [List.length_append, hel] at hcl
  refine enter Tryz.func103 rfl Tryz.ntmps103 rfl hS ?_
  refine WC.seq <| WC.region <| WL.v (v_assign rfl rfl) rfl <| WL.nt <| WC.seq <| WC.seq <| WC.region <| WL.v (v_move rfl rfl) rfl <| WL.v (v_len_slice rfl rfl Tryz.underlying113) rfl <| ?_
  refine WL.v ((v_lss rfl rfl rfl).f (by omega)) rfl ?_
  refine WL.nt <| WC.cond_f rfl <| WC.skip <| WE.then_n <| WC.seq <| WC.seq <| WC.region <| WL.v (v_assign rfl rfl) rfl <| WL.nt <| WC.block <| ?_
  refine WC.loop (fun k : Nat => [(3, .int .i64 k), (0, .slice (some ⟨g, 0, none⟩) xs.length c)]) (fun _ => .row g (encL acL xs ++ R) :: L) (fun k => 1 ≤ k ∧ k ≤ xs.length ∧ uniq eq (xs.take k) = xs.take k) (fun k => xs.length - k) 1 ⟨Nat.le_refl _, by omega, by match xs, h2 with | x :: l, _ => rfl⟩ (.cons rfl (.cons rfl .nil)) (.refl _) ?_
  rintro k ⟨hk1, hk, hu⟩
  refine WC.seq <| WC.seq <| WC.region <| WL.v (v_move rfl rfl) rfl <| WL.v (v_move rfl rfl) rfl <| WL.v (v_len_slice rfl rfl Tryz.underlying113) rfl <| ?_
  refine WL.test (v_lss rfl rfl rfl) (.none rfl) rfl rfl (fun h13 => ?_) (fun h13 => ?_)
  ·
   refine WL.nt <| WC.cond_t rfl <| WC.skip <| WE.then_n <| WC.seq <| WC.block <| WC.seq <| ?_
   refine WC.quiet mixed (by kernel_rfl) ?_
   refine WQ.val (v_move rfl rfl) (.none rfl) rfl rfl <| WQ.val (v_move rfl rfl) (.none rfl) rfl rfl <| ?_
   obtain ⟨m, rfl⟩ : ∃ m, k = m + 1 := ⟨k - 1, by omega⟩
   obtain ⟨a, ha⟩ : ∃ a, xs[m]? = some a := ⟨xs[m]'(by omega), List.getElem?_eq_getElem _⟩
   obtain ⟨b, hb⟩ : ∃ b, xs[m + 1]? = some b := ⟨xs[m + 1]'(by omega), List.getElem?_eq_getElem _⟩
   obtain ⟨b25, hb25⟩ : ∃ q, q = eq b a := ⟨_, rfl⟩
   have hbe : b25 = true ↔ acL b = acL a := (by rw [hb25]; exact heq b a)
   have hut := uniq_take (eq := eq) ha hb
   have htk : xs.take (m + 1) ++ [b] = xs.take (m + 2) := (by rw [show m + 2 = (m + 1) + 1 from rfl, List.take_succ_eq_append_getElem (show m + 1 < xs.length by omega)]; exact congrArg (fun z => xs.take (m + 1) ++ [z]) (Option.some.inj (hb.symm.trans (List.getElem?_eq_getElem _))))
   refine WQ.val (v_indexAddr (lo := m + 1) rfl rfl rfl Tryz.underlying113 sz_110 (by omega) (by omega)) (.none rfl) rfl rfl ?_
   refine WQ.val (v_loadN (cs := acL b) rfl rfl many_110 (acL_len b) (segAt (m := 10) (by rw [Nat.zero_add]; exact encL_at hlen hb))) (.none rfl) rfl rfl ?_
   refine WQ.val (v_move rfl rfl) (.none rfl) rfl rfl <| WQ.val (v_move rfl rfl) (.none rfl) rfl rfl <| ?_
   refine WQ.val (v_sub rfl rfl rfl (w_i64 (by omega) (by omega))) (.none rfl) rfl rfl ?_
   refine WQ.val (v_indexAddr (lo := m) rfl rfl rfl Tryz.underlying113 sz_110 (by omega) (by omega)) (.none rfl) rfl rfl ?_
   refine WQ.val (v_loadN (cs := acL a) rfl rfl many_110 (acL_len a) (segAt (m := 10) (by rw [Nat.zero_add]; exact encL_at hlen ha))) (.none rfl) rfl rfl ?_
   refine WQ.val (v_eql_aggD (b := b25) rfl rfl rfl eqk_110 eqg_110 rfl rfl hbe) (.none rfl) rfl rfl ?_
   cases b25
   ·
    refine WQ.nil <| WE.then_n <| WC.cond_f rfl <| WC.skip <| WE.block_n <| WE.then_n <| WC.region <| WL.v (v_move rfl rfl) rfl <| ?_
    refine WL.v (v_add rfl rfl rfl (w_i64 (by omega) (by omega))) rfl ?_
    refine WL.v (v_assign rfl rfl) rfl <| WL.nil <| ?_
    exact WE.next (m + 2) (by omega) ⟨by omega, by omega, by rw [hut, ← hb25, if_neg (by decide), hu]; exact htk⟩ (.int rfl (by omega) (.cons rfl .nil)) (.refl _)
   ·
    refine WQ.nil <| WE.then_n <| WC.cond_t rfl <| WC.seq <| WC.region <| WL.v (v_move rfl rfl) rfl <| WL.v (v_move rfl rfl) rfl <| ?_
    refine WL.v (v_slice_loS (lo := m + 1) rfl rfl rfl Tryz.underlying113 sz_110 (by omega) (by omega) (by omega)) rfl ?_
    refine WL.v (v_assign rfl rfl) rfl <| WL.nt <| WC.seq <| WC.seq <| WC.region <| WL.v (v_assign rfl rfl) rfl <| WL.nt <| WC.block <| ?_
    refine WC.loop (fun x : CsAc => [(3, .int .i64 x.k), (5, .int .i64 x.j), (4, .slice (some ⟨g, 0 + (m + 1) * 10, none⟩) (xs.length - (m + 1)) (c - (m + 1))), (0, .slice (some ⟨g, 0, none⟩) xs.length c)]) (fun x => .row g (encL acL x.ys ++ R) :: L) (fun x => x.ys.length = xs.length ∧ 1 ≤ x.j ∧ m + 1 + x.j ≤ xs.length ∧ x.k ≤ m + x.j ∧ x.ys.take x.k = uniq eq (xs.take (m + 1 + x.j)) ∧ ∀ i, m + x.j ≤ i → x.ys[i]? = xs[i]?) (fun x => xs.length - x.j) ⟨m + 1, 1, xs⟩ ⟨rfl, Nat.le_refl _, by dsimp only; omega, Nat.le_refl _, by dsimp only; rw [show m + 1 + 1 = m + 2 from rfl, hut, ← hb25, if_pos rfl, hu, List.append_nil], fun i _ => rfl⟩ (.int rfl (by first | rfl | (dsimp only; omega)) (.int rfl rfl (.cons rfl (.cons rfl .nil)))) (.refl _) ?_
    rintro ⟨k, j, ys⟩ ⟨hyl, hj1, hj, hkj, hut', hys⟩
    dsimp only at hyl hj1 hj hkj hut' hys
    dsimp only
    refine WC.seq <| WC.seq <| WC.region <| WL.v (v_move rfl rfl) rfl <| WL.v (v_move rfl rfl) rfl <| WL.v (v_len_slice rfl rfl Tryz.underlying113) rfl <| ?_
    refine WL.test (v_lss rfl rfl rfl) (.none rfl) rfl rfl (fun h32 => ?_) (fun h32 => ?_)
    ·
     refine WL.nt <| WC.cond_t rfl <| WC.skip <| WE.then_n <| WC.seq <| WC.block <| WC.seq <| ?_
     refine WC.quiet mixed (by kernel_rfl) ?_
     refine WQ.val (v_move rfl rfl) (.none rfl) rfl rfl <| WQ.val (v_move rfl rfl) (.none rfl) rfl rfl <| ?_
     obtain ⟨i, rfl⟩ : ∃ i, j = i + 1 := ⟨j - 1, by omega⟩
     obtain ⟨a', ha'⟩ : ∃ a, xs[m + 1 + i]? = some a := ⟨xs[m + 1 + i]'(by omega), List.getElem?_eq_getElem _⟩
     obtain ⟨b', hb'⟩ : ∃ b, xs[m + 1 + i + 1]? = some b := ⟨xs[m + 1 + i + 1]'(by omega), List.getElem?_eq_getElem _⟩
     obtain ⟨b44, hb44⟩ : ∃ q, q = !eq b' a' := ⟨_, rfl⟩
     have hbe' : b44 = true ↔ ¬ acL b' = acL a' := (by rw [hb44, ← heq]; simp)
     have hb44' : eq b' a' = !b44 := (by rw [hb44]; simp)
     have hut2 := uniq_take (eq := eq) ha' hb'
     have ya : ys[m + 1 + i]? = some a' := (by rw [hys _ (by omega)]; exact ha')
     have yb : ys[m + 1 + i + 1]? = some b' := (by rw [hys _ (by omega)]; exact hb')
     refine WQ.val (v_indexAddr (lo := i + 1) rfl rfl rfl Tryz.underlying113 sz_110 (by omega) (by omega)) (.none rfl) rfl rfl ?_
     refine WQ.val (v_loadN (cs := acL b') rfl rfl many_110 (acL_len b') (segAt (m := 10) (by rw [show 0 + (m + 1) * 10 + (i + 1) * 10 = (m + 1 + i + 1) * 10 by omega]; exact encL_at hlen yb))) (.none rfl) rfl rfl ?_
     refine WQ.val (v_move rfl rfl) (.none rfl) rfl rfl <| WQ.val (v_move rfl rfl) (.none rfl) rfl rfl <| ?_
     refine WQ.val (v_sub rfl rfl rfl (w_i64 (by omega) (by omega))) (.none rfl) rfl rfl ?_
     refine WQ.val (v_indexAddr (lo := i) rfl rfl rfl Tryz.underlying113 sz_110 (by omega) (by omega)) (.none rfl) rfl rfl ?_
     refine WQ.val (v_loadN (cs := acL a') rfl rfl many_110 (acL_len a') (segAt (m := 10) (by rw [show 0 + (m + 1) * 10 + i * 10 = (m + 1 + i) * 10 by omega]; exact encL_at hlen ya))) (.none rfl) rfl rfl ?_
     refine WQ.val (v_neq_aggE (b := b44) rfl rfl rfl eqk_110 eqg_110 rfl rfl hbe') (.none rfl) rfl rfl ?_
     cases b44
     ·
      refine WQ.nil <| WE.then_n <| WC.cond_f rfl <| WC.skip <| WE.block_n <| WE.then_n <| WC.region <| WL.v (v_move rfl rfl) rfl <| ?_
      refine WL.v (v_add rfl rfl rfl (w_i64 (by omega) (by omega))) rfl ?_
      refine WL.v (v_assign rfl rfl) rfl <| WL.nil <| ?_
      exact WE.next ⟨k, i + 2, ys⟩ (by dsimp only; omega) ⟨hyl, by dsimp only; omega, by dsimp only; omega, by dsimp only; omega, by
      dsimp only
      rw [show m + 1 + (i + 2) = m + 1 + i + 2 by omega, hut2, hb44', if_pos (show (!false) = true from rfl), List.append_nil, show m + 1 + i + 1 = m + 1 + (i + 1) by omega]; exact hut', fun q hq => by dsimp only at hq ⊢; exact hys q (by omega)⟩ (.int rfl rfl (.int rfl (by dsimp only; omega) (.cons rfl (.cons rfl .nil)))) (.refl _)
     ·
      refine WQ.nil <| WE.then_n <| WC.cond_t rfl <| WC.seq <| WC.region <| WL.v (v_move rfl rfl) rfl <| WL.v (v_move rfl rfl) rfl <| WL.v (v_move rfl rfl) rfl <| WL.v (v_move rfl rfl) rfl <| ?_
      refine WL.v (v_indexAddr (lo := i + 1) rfl rfl rfl Tryz.underlying113 sz_110 (by omega) (by omega)) rfl ?_
      refine WL.v (v_loadN (cs := acL b') rfl rfl many_110 (acL_len b') (segAt (m := 10) (by rw [show 0 + (m + 1) * 10 + (i + 1) * 10 = (m + 1 + i + 1) * 10 by omega]; exact encL_at hlen yb))) rfl ?_
      refine WL.v (v_indexAddr (lo := k) rfl rfl rfl Tryz.underlying113 sz_110 (by omega) (by omega)) rfl ?_
      refine WL.storeN rfl rfl rfl rfl many_110 rfl (by rw [List.length_append, encL_len hlen, hyl]; omega) (.none rfl) rfl ?_
      refine WL.as (L' := .row g (encL acL (ys.set k b') ++ R) :: L) (by rw [Nat.zero_add, encL_set hlen ys k b' R (by omega)]) ?_
      refine WL.nt <| WC.region <| WL.v (v_move rfl rfl) rfl <| ?_
      refine WL.v (v_add rfl rfl rfl (w_i64 (by omega) (by omega))) rfl ?_
      refine WL.v (v_assign rfl rfl) rfl <| WL.nil <| WE.block_n <| WE.then_n <| WC.region <| WL.v (v_move rfl rfl) rfl <| ?_
      refine WL.v (v_add rfl rfl rfl (w_i64 (by omega) (by omega))) rfl ?_
      refine WL.v (v_assign rfl rfl) rfl <| WL.nil <| ?_
      exact WE.next ⟨k + 1, i + 2, ys.set k b'⟩ (by dsimp only; omega) ⟨by dsimp only; rw [List.length_set]; exact hyl, by dsimp only; omega, by dsimp only; omega, by dsimp only; omega, by
      dsimp only
      rw [show m + 1 + (i + 2) = m + 1 + i + 2 by omega, hut2, hb44', if_neg (show ¬ (!true) = true by decide), show m + 1 + i + 1 = m + 1 + (i + 1) by omega, ← hut', List.take_succ_eq_append_getElem (by rw [List.length_set]; omega), List.take_set_of_le (Nat.le_refl _), List.getElem_set_self], fun q hq => by dsimp only at hq ⊢; rw [List.getElem?_set_ne (by omega)]; exact hys q (by omega)⟩ (.int rfl (by dsimp only; omega) (.int rfl (by dsimp only; omega) (.cons rfl (.cons rfl .nil)))) (.refl _)
    ·
     refine WL.nt <| WC.cond_f rfl <| WC.exit <| WE.then_exit <| WE.then_exit <| WE.block_hit <| WE.then_n <| WC.seq <| WC.region <| WL.v (v_move rfl rfl) rfl <| WL.v (v_move rfl rfl) rfl <| ?_
     refine WL.v (v_slice_loS (lo := k) rfl rfl rfl Tryz.underlying113 sz_110 (by omega) (by omega) (by omega)) rfl ?_
     refine WL.clear (s := 10) rfl rfl Tryz.underlying113 zero_110 rfl rfl (by rw [List.length_append, encL_len hlen, hyl]; omega) (.none rfl) rfl ?_
     refine WL.nt <| WC.seq <| WC.region <| WL.v (v_move rfl rfl) rfl <| WL.v (v_move rfl rfl) rfl <| ?_
     refine WL.v (v_slice_hi (hi := k) rfl rfl rfl Tryz.underlying113 sz_110 (by omega) (by omega)) rfl ?_
     refine WL.v (v_assign rfl rfl) rfl <| WL.nt <| WC.ret <| WE.block_ret <| WE.then_ret <| WE.then_ret <| WE.block_ret <| WE.then_ret <| WE.ret1 (P := Tryz.prog) (.inl rfl) Tryz.results103 rfl <| ?_
     obtain rfl : j = xs.length - (m + 1) := (by omega)
     have e1 : uniq eq xs = ys.take k := (by rw [hut', show m + 1 + (xs.length - (m + 1)) = xs.length by omega, List.take_length])
     have e2 : (uniq eq xs).length = k := (by rw [e1, List.length_take]; omega)
     refine fun w' h => ⟨[.row g _], by rw [e2], ?_, h⟩
     rw [e2, e1]
     refine Vec.row ?_ ?_ (by omega)
     · rw [Nat.zero_add, splice_take (by rw [zrs_len, List.length_append, encL_len hlen, hyl]; show _ + (xs.length - k) * 10 ≤ _; omega)]
       exact encL_take hlen ys k R (by omega)
     · rw [splice_length _ _ _ (by rw [zrs_len, List.length_append, encL_len hlen, hyl]; show _ + (xs.length - k) * 10 ≤ _; omega), List.length_append, encL_len hlen, hyl]
       exact hcl
  ·
   refine WL.nt <| WC.cond_f rfl <| WC.exit <| WE.then_exit <| WE.then_exit <| WE.block_hit <| WE.then_n <| WC.seq <| WC.region <| WL.v (v_move rfl rfl) rfl <| WL.v (v_assign rfl rfl) rfl <| WL.nt <| WC.ret <| WE.ret1 (P := Tryz.prog) (.inl rfl) Tryz.results103 rfl <| ?_
   have e1 : uniq eq xs = xs := (by have := hu; rwa [show k = xs.length by omega, List.take_length] at this)
   rw [e1]
   exact fun w' h => ⟨_, rfl, Vec.row (by rw [encL_take hlen xs xs.length R (Nat.le_refl _), List.take_length]) (by rw [List.length_append, hel]; exact hcl) hcap, h⟩
end Go.Proofs.YtkeonnnhogaggaaGreatDoor
/- The kit's laying SlLaysF0.n6 at this seat's functions. Printed by wip/tools/lays.py. -/
namespace Go.Proofs.YtkeonnnhogaggaaGreatDoor
open Go.RowKit Go.Shelf

def ren101 : Ren := ⟨fun n => match n with | 6 => 101 | 14 => 142 | 15 => 109 | 20 => 175 | 21 => 176 | 22 => 177 | 23 => 178 | 24 => 179 | 25 => 180 | 26 => 181 | 27 => 182 | 28 => 155 | 29 => 156 | 46 => 198 | 47 => 185 | 48 => 186 | 49 => 199 | 50 => 200 | 57 => 206 | n => n, fun n => match n with | 0 => 0 | 3 => 3 | 4 => 4 | 5 => 5 | 9 => 9 | 22 => 113 | 24 => 110 | 25 => 165 | 39 => 172 | 45 => 212 | 46 => 213 | 50 => 217 | 53 => 56 | 55 => 23 | 66 => 242 | 70 => 246 | 76 => 256 | 77 => 37 | n => n, fun n => n⟩
set_option maxRecDepth 100000 in
theorem lays101 : SlLaysF0.n6 Tryz.prog ren101 where
  mixed := mixed
  f6 := ⟨Tryz.f101.name, by decide, Tryz.func101.trans (congrArg some (by kernel_rfl))⟩
  f14 := ⟨Tryz.f142.name, by decide, Tryz.func142.trans (congrArg some (by kernel_rfl))⟩
  f15 := Tryz.func109.trans (congrArg some (by kernel_rfl))
  f20 := ⟨Tryz.f175.name, by decide, Tryz.func175.trans (congrArg some (by kernel_rfl))⟩
  f21 := ⟨Tryz.f176.name, by decide, Tryz.func176.trans (congrArg some (by kernel_rfl))⟩
  f22 := ⟨Tryz.f177.name, by decide, Tryz.func177.trans (congrArg some (by kernel_rfl))⟩
  f23 := ⟨Tryz.f178.name, by decide, Tryz.func178.trans (congrArg some (by kernel_rfl))⟩
  f24 := ⟨Tryz.f179.name, by decide, Tryz.func179.trans (congrArg some (by kernel_rfl))⟩
  f25 := ⟨Tryz.f180.name, by decide, Tryz.func180.trans (congrArg some (by kernel_rfl))⟩
  f26 := ⟨Tryz.f181.name, by decide, Tryz.func181.trans (congrArg some (by kernel_rfl))⟩
  f27 := ⟨Tryz.f182.name, by decide, Tryz.func182.trans (congrArg some (by kernel_rfl))⟩
  f28 := Tryz.func155.trans (congrArg some (by kernel_rfl))
  f29 := Tryz.func156.trans (congrArg some (by kernel_rfl))
  f46 := ⟨Tryz.f198.name, by decide, Tryz.func198.trans (congrArg some (by kernel_rfl))⟩
  f47 := Tryz.func185.trans (congrArg some (by kernel_rfl))
  f48 := Tryz.func186.trans (congrArg some (by kernel_rfl))
  f49 := ⟨Tryz.f199.name, by decide, Tryz.func199.trans (congrArg some (by kernel_rfl))⟩
  f50 := ⟨Tryz.f200.name, by decide, Tryz.func200.trans (congrArg some (by kernel_rfl))⟩
  f57 := ⟨Tryz.f206.name, by decide, Tryz.func206.trans (congrArg some (by kernel_rfl))⟩
  t0 := Tryz.underlying0
  a0 := Tryz.isAgg0
  z0 := Tryz.sizeOf0
  v0 := Tryz.zeroValue0
  t3 := Tryz.underlying3
  a3 := Tryz.isAgg3
  z3 := Tryz.sizeOf3
  v3 := Tryz.zeroValue3
  t4 := Tryz.underlying4
  a4 := Tryz.isAgg4
  z4 := Tryz.sizeOf4
  v4 := Tryz.zeroValue4
  t5 := Tryz.underlying5
  a5 := Tryz.isAgg5
  z5 := Tryz.sizeOf5
  v5 := Tryz.zeroValue5
  t9 := Tryz.underlying9
  a9 := Tryz.isAgg9
  z9 := Tryz.sizeOf9
  v9 := Tryz.zeroValue9
  t22 := Tryz.underlying113
  a22 := Tryz.isAgg113
  z22 := Tryz.sizeOf113
  v22 := Tryz.zeroValue113
  t25 := Tryz.underlying165
  a25 := Tryz.isAgg165
  z25 := Tryz.sizeOf165
  v25 := Tryz.zeroValue165
  t39 := Tryz.underlying172
  a39 := Tryz.isAgg172
  z39 := Tryz.sizeOf172
  v39 := Tryz.zeroValue172
  t45 := Tryz.underlying212
  a45 := Tryz.isAgg212
  z45 := Tryz.sizeOf212
  v45 := Tryz.zeroValue212
  t46 := Tryz.underlying213
  a46 := Tryz.isAgg213
  z46 := Tryz.sizeOf213
  v46 := Tryz.zeroValue213
  t50 := Tryz.underlying217
  a50 := Tryz.isAgg217
  z50 := Tryz.sizeOf217
  v50 := Tryz.zeroValue217
  t53 := Tryz.underlying56
  a53 := Tryz.isAgg56
  z53 := Tryz.sizeOf56
  v53 := Tryz.zeroValue56
  t55 := Tryz.underlying23
  a55 := Tryz.isAgg23
  z55 := Tryz.sizeOf23
  v55 := Tryz.zeroValue23
  t66 := Tryz.underlying242
  a66 := Tryz.isAgg242
  z66 := Tryz.sizeOf242
  v66 := Tryz.zeroValue242
  t70 := Tryz.underlying246
  a70 := Tryz.isAgg246
  z70 := Tryz.sizeOf246
  v70 := Tryz.zeroValue246
  t76 := Tryz.underlying256
  a76 := Tryz.isAgg256
  z76 := Tryz.sizeOf256
  v76 := Tryz.zeroValue256
  t77 := Tryz.underlying37
  a77 := Tryz.isAgg37
  z77 := Tryz.sizeOf37
  v77 := Tryz.zeroValue37
end Go.Proofs.YtkeonnnhogaggaaGreatDoor
/- rules.Norm: acts in order, each once. -/
namespace Go.Proofs.YtkeonnnhogaggaaGreatDoor
open Go.RowKit Go.Sort

theorem swo_of {α : Type} {c : α → α → Int} (h : Cm c) : Go.Sort.SWO (ltOf c) := by
  constructor
  · intro x; unfold ltOf; exact decide_eq_false (by have := h.refl x; omega)
  · intro x y z h1 h2; unfold ltOf at *; have a := of_decide_eq_true h1; have b := of_decide_eq_true h2; exact decide_eq_true (h.lt_le a (by omega))
  · intro x y z h1 h2
    unfold ltOf at *
    have a := of_decide_eq_false h1; have b := of_decide_eq_false h2
    refine decide_eq_false fun k => ?_
    have s1 := h.sgn x y; have s2 := h.sgn y x; have s3 := h.sgn z y; have s4 := h.sgn y z; have s5 := h.sgn x z; have s6 := h.sgn z x
    have t1 : c y x ≤ 0 := by omega
    have t2 : c z y ≤ 0 := by omega
    have := h.tr z y x t2 t1
    omega
theorem asc_le {α : Type} {c : α → α → Int} (h : Cm c) {ys : List α} (ha : AscBy c ys) : ys.Pairwise fun a b => c a b ≤ 0 := by
  rw [List.pairwise_iff_getElem]
  intro i j hi hj hij
  have := ha i j _ _ (List.getElem?_eq_getElem hi) (List.getElem?_eq_getElem hj) hij
  have s := h.sgn ys[i] ys[j]
  omega
instance : Inhabited Ac := ⟨⟨0, fun _ => 0⟩⟩
theorem acL_one (a : Ac) : ∀ v ∈ acL a, v.oneCell' = true := fun v hv => by
  rcases List.mem_cons.1 hv with rfl | hv
  · rfl
  · obtain ⟨i, _, rfl⟩ := List.mem_map.1 hv; rfl
theorem one_of {v : Value} (h : v.oneCell' = true) : one v = true := by cases v <;> first | rfl | (simp [Value.oneCell'] at h)
theorem encL_one {α : Type} {enc : α → List Value} (h : ∀ x, ∀ v ∈ enc x, v.oneCell' = true) : ∀ xs : List α, (encL enc xs).all one = true
  | [] => rfl
  | x :: xs => by
    show (enc x ++ encL enc xs).all one = true
    rw [List.all_append, encL_one h xs, Bool.and_true]
    exact List.all_eq_true.2 fun v hv => one_of (h x v hv)
theorem SortAc_c (p : Nat → Prop) (w0 w : World) (L E : List Ent) (ad : Option Addr) (c : Nat) (xs : List Ac) (hV : Vec 10 ad xs.length c (actsL xs) E) (hS : St p w0 w (E ++ L)) (hlen : xs.length < 1000000) :
    Calls Tryz.prog 101 #[.slice ad xs.length c, .func (.func 102) #[] #[]] w fun e w' =>
      e = .returned (.tuple #[]) ∧ ∃ ys E', ys.Perm xs ∧ (ys.Pairwise fun a b => acmp a b ≤ 0) ∧ Vec 10 ad xs.length c (actsL ys) E' ∧ St p w0 w' (E' ++ L) := by
  refine (gsort_c (P := Tryz.prog) lays101 (by omega) Tryz.isAgg110 Tryz.sizeOf110 acL_len acL_one acmp (swo_of acmp_cm) 102 #[] ck_102 p w0 w L E ad c xs (fun gb cs _ w' _ x y => ACmp_c w' x y) hV hS (by omega)).mono ?_
  rintro e w' ⟨he, ys, E', hp, ha, hV', hS'⟩
  exact ⟨he, ys, E', hp, asc_le acmp_cm ha, hV', hS'⟩
open Classical in
noncomputable def acEq (a b : Ac) : Bool := decide (acL a = acL b)
theorem acEq_iff (a b : Ac) : acEq a b = true ↔ acL a = acL b := by unfold acEq; simp
theorem acL_same {a b : Ac} (ha : a.Nz) (hb : b.Nz) (h : acL a = acL b) : a = b := by
  have h1 : (Value.int .i64 a.set) = .int .i64 b.set := (List.cons.inj h).1
  have h2 : ucs a.val 9 = ucs b.val 9 := (List.cons.inj h).2
  refine Ac.ext' ha hb (by injection h1) fun k hk => ?_
  have this : (ucs a.val 9)[k]? = (ucs b.val 9)[k]? := congrArg (fun z : List Value => z[k]?) h2
  rw [ucs_get _ hk, ucs_get _ hk] at this
  injection this with this
  injection this
theorem acmp_cells {a b : Ac} (h : acL a ≠ acL b) (ha : a.Nz) (hb : b.Nz) : acmp a b ≠ 0 := fun e => h (by rw [acmp_same ha hb e])
theorem normP_uniq {xs ys : List Ac} (hp : ys.Perm xs) (ha : ys.Pairwise fun a b => acmp a b ≤ 0) (hN : ∀ x ∈ xs, x.Nz) : NormP xs (uniq acEq ys) := by
  have hN' : ∀ x ∈ ys, x.Nz := fun x hx => hN x (hp.mem_iff.1 hx)
  refine ⟨uniq_strict acmp_cm ha fun x hx y hy e => ?_, fun x => (uniq_mem (fun x hx y hy e => acL_same (hN' x hx) (hN' y hy) ((acEq_iff x y).1 e)) x).trans hp.mem_iff⟩
  exact acmp_cells (fun k => by rw [(acEq_iff x y).2 k.symm] at e; cases e) (hN' y hy) (hN' x hx)
/-- What Norm hands back: a list of its own. -/
def NormC (w w' : World) (xs : List Ac) (e : Ending) : Prop := ∃ ad' c' E ys, e = .returned (.slice ad' ys.length c') ∧ NormP xs ys ∧ ys.length ≤ xs.length ∧ Vec 10 ad' ys.length c' (actsL ys) E ∧ St (fun _ => False) w w' E
theorem Norm_c (w : World) (ad : Option Addr) (c : Nat) (xs : List Ac) (hr : Rg w ad (actsL xs)) (hN : ∀ x ∈ xs, x.Nz) (hn : xs.length ≤ 100000) :
    Calls Tryz.prog 49 #[.slice ad xs.length c] w fun e w' => NormC w w' xs e := by
  refine enter Tryz.func49 rfl Tryz.ntmps49 rfl (St.start (fun _ => False) w) ?_
  refine WC.seq <| WC.region <| WL.v (v_assign rfl rfl) rfl <| WL.nt <| WC.seq <| WC.region <| WL.v (v_move rfl rfl) rfl <| WL.call rfl rfl ck_100 (.none rfl) rfl rfl <| ?_
  intro w1 hS
  refine (CloneAc_c w1 ad c xs (hr.frm hS.frm (fun _ _ _ h => h)) (encL_one acL_one xs) hn).mono ?_
  rintro e w' ⟨ad1, c1, E1, rfl, hV1, hS'⟩
  refine ⟨_, _, rfl, hS.join hS', ?_⟩
  refine WL.v (v_assign rfl rfl) rfl <| WL.nt <| WC.seq <| WC.region <| WL.v (v_move rfl rfl) rfl <| WL.call rfl rfl ck_101 (.none rfl) rfl rfl <| ?_
  intro w1 hS
  refine (SortAc_c (fun _ => False) _ w1 [] E1 ad1 c1 xs hV1 hS (by omega)).mono ?_
  rintro e w' ⟨rfl, ys, E2, hp, ha, hV2, hS'⟩
  refine ⟨_, _, rfl, hS', ?_⟩
  refine WL.nt <| WC.seq <| WC.region <| WL.v (v_move rfl rfl) rfl <| WL.call rfl rfl ck_103 (.none rfl) rfl rfl <| ?_
  intro w1 hS
  rw [← hp.length_eq] at hV2
  rw [← hp.length_eq]
  refine (CompactAc_c (fun _ => False) _ w1 [] E2 ad1 c1 ys acEq acEq_iff hV2 hS (by rw [hp.length_eq]; exact hn)).mono ?_
  rintro e w' ⟨E3, rfl, hV3, hS'⟩
  refine ⟨_, _, rfl, hS', ?_⟩
  refine WL.v (v_assign rfl rfl) rfl <| WL.nt <| WC.ret <| WE.ret1 (P := Tryz.prog) (.inl rfl) Tryz.results49 rfl <| ?_
  exact fun w' h => ⟨ad1, c1, E3, uniq acEq ys, rfl, normP_uniq hp ha hN, by have := uniq_len (eq := acEq) ys; rw [hp.length_eq] at this; exact this, hV3, by simpa using h⟩
end Go.Proofs.YtkeonnnhogaggaaGreatDoor
/- slices.Clone, slices.Compact of head.Header (printed by gen/slc.py). -/
namespace Go.Proofs.YtkeonnnhogaggaaGreatDoor
open Go.RowKit

end Go.Proofs.YtkeonnnhogaggaaGreatDoor
/- slices.SortFunc at elements of which something is known: the sort of XGs for a part of a type. -/
namespace Go.Proofs.YtkeonnnhogaggaaGreatDoor
open Go.RowKit Go.Sort Go.Shelf

end Go.Proofs.YtkeonnnhogaggaaGreatDoor
/- table: what Change and Take make of a table, as data; entries put in one by one, or all at once, are one table; what was taken out is as if it had never been put in. -/
namespace Go.Proofs.YtkeonnnhogaggaaGreatDoor
open Go.RowKit

def insA (x : Ac) : List Ac → List Ac
  | [] => [x]
  | y :: l => if acmp x y < 0 then x :: y :: l else if acmp x y = 0 then y :: l else y :: insA x l
def normF : List Ac → List Ac
  | [] => []
  | x :: l => insA x (normF l)
theorem insA_sub (x z : Ac) : ∀ l : List Ac, z ∈ insA x l → z = x ∨ z ∈ l
  | [], h => .inl (List.mem_singleton.1 h)
  | y :: l, h => by
    unfold insA at h
    split at h
    · exact List.mem_cons.1 h
    split at h
    · exact .inr h
    · rcases List.mem_cons.1 h with rfl | h
      · exact .inr (List.mem_cons_self ..)
      · exact (insA_sub x z l h).imp id (List.mem_cons_of_mem _)
theorem insA_len (x : Ac) : ∀ l : List Ac, (insA x l).length ≤ l.length + 1
  | [] => Nat.le_refl _
  | y :: l => by
    unfold insA
    split
    · exact Nat.le_refl _
    split
    · exact Nat.le_succ _
    · exact Nat.succ_le_succ (insA_len x l)
theorem insA_mem {x : Ac} (hx : x.Nz) : ∀ {l : List Ac}, (∀ y ∈ l, y.Nz) → ∀ z, z ∈ insA x l ↔ z = x ∨ z ∈ l
  | [], _, z => by unfold insA; simp
  | y :: l, hl, z => by
    refine ⟨insA_sub x z _, fun h => ?_⟩
    unfold insA
    split
    · exact List.mem_cons.2 h
    split
    · rename_i h0
      have e := acmp_same hx (hl y (List.mem_cons_self ..)) h0
      subst e
      rcases h with rfl | h
      · exact List.mem_cons_self ..
      · exact h
    · have ih := insA_mem hx (l := l) (fun y hy => hl y (List.mem_cons_of_mem _ hy)) z
      rcases h with rfl | h
      · exact List.mem_cons_of_mem _ (ih.2 (.inl rfl))
      · rcases List.mem_cons.1 h with rfl | h
        · exact List.mem_cons_self ..
        · exact List.mem_cons_of_mem _ (ih.2 (.inr h))
theorem insA_strict (x : Ac) : ∀ {l : List Ac}, l.Pairwise (fun a b => acmp a b < 0) → (insA x l).Pairwise fun a b => acmp a b < 0
  | [], _ => List.pairwise_singleton _ _
  | y :: l, h => by
    have h' := List.pairwise_cons.1 h
    unfold insA
    split
    · rename_i h0
      refine List.pairwise_cons.2 ⟨fun z hz => ?_, h⟩
      rcases List.mem_cons.1 hz with rfl | hz
      · exact h0
      · have := h'.1 z hz; exact acmp_cm.lt_le h0 (by omega)
    split
    · exact h
    · rename_i h0 h1
      refine List.pairwise_cons.2 ⟨fun z hz => ?_, insA_strict x h'.2⟩
      rcases insA_sub x z l hz with rfl | hz
      · have := acmp_cm.sgn z y; omega
      · exact h'.1 z hz
theorem normF_sub : ∀ {xs : List Ac} {z : Ac}, z ∈ normF xs → z ∈ xs
  | [], _, h => by cases h
  | x :: l, z, h => by
    rcases insA_sub x z _ h with rfl | h
    · exact List.mem_cons_self ..
    · exact List.mem_cons_of_mem _ (normF_sub h)
theorem normF_len : ∀ xs : List Ac, (normF xs).length ≤ xs.length
  | [] => Nat.le_refl _
  | x :: l => Nat.le_trans (insA_len x _) (Nat.succ_le_succ (normF_len l))
theorem normF_P : ∀ {xs : List Ac}, (∀ x ∈ xs, x.Nz) → NormP xs (normF xs)
  | [], _ => ⟨List.Pairwise.nil, fun _ => Iff.rfl⟩
  | x :: l, h => by
    have ih := normF_P (xs := l) fun y hy => h y (List.mem_cons_of_mem _ hy)
    refine ⟨insA_strict x ih.1, fun z => (insA_mem (h x (List.mem_cons_self ..)) (fun y hy => h y (List.mem_cons_of_mem _ (normF_sub hy))) z).trans ?_⟩
    rw [ih.2, List.mem_cons]
theorem normF_of {xs ys : List Ac} (hN : ∀ x ∈ xs, x.Nz) (h : NormP xs ys) : normF xs = ys := NormP.one (normF_P hN) h
def EnD.norm (e : EnD) : EnD := ⟨e.prio, e.mark, e.r.m, normF e.r.acts⟩
def Strict (T : List EnD) : Prop := T.Pairwise fun a b => ordE a b < 0
def Apart (T : List EnD) : Prop := T.Pairwise fun a b => ordE a b ≠ 0
def leftD (T : List EnD) (outs : List Int) : List EnD := T.filter fun e => decide (e.mark ∉ outs)
/-- What Change answers, and the table behind it. -/
structure ChangeP (most : Int) (T : List EnD) (outs : List Int) (ins : List EnD) (code : Int) (T' : List EnD) : Prop where
  err : errs EnD.err ins ≠ 0 → code = errs EnD.err ins
  full : errs EnD.err ins = 0 → (ins.length : Int) > most - (leftD T outs).length → code = 30
  have_ : errs EnD.err ins = 0 → (ins.length : Int) ≤ most - (leftD T outs).length → ¬ Apart (leftD T outs ++ ins.map EnD.norm) → code = 5
  ok : errs EnD.err ins = 0 → (ins.length : Int) ≤ most - (leftD T outs).length → Apart (leftD T outs ++ ins.map EnD.norm) → code = 0
  not : code ≠ 0 → T' = T
  yes : code = 0 → Strict T' ∧ T'.Perm (leftD T outs ++ ins.map EnD.norm)
end Go.Proofs.YtkeonnnhogaggaaGreatDoor
/- table: without, merge. -/
namespace Go.Proofs.YtkeonnnhogaggaaGreatDoor
open Go.RowKit

/-- A table as it lies. -/
structure TbL where
  most : Int
  ad : Option Addr
  c : Nat
  es : List EnL
def TbL.cells (t : TbL) : List Value := [.int .i64 t.most, .slice t.ad t.es.length t.c]
def TbL.d (t : TbL) : List EnD := t.es.map EnL.d
/-- A rule's acts lie in blocks of K. -/
def RuOwn (K : List Ent) (r : RuL) : Prop := ∃ E, Vec 10 r.ad r.acts.length r.c (actsL r.acts) E ∧ ∀ x ∈ E, x ∈ K
def EnsOwn (K : List Ent) (es : List EnL) : Prop := ∀ e ∈ es, RuOwn K e.r
theorem RuOwn.sub {K K' : List Ent} {r : RuL} (h : RuOwn K r) (hs : ∀ x ∈ K, x ∈ K') : RuOwn K' r := let ⟨E, h1, h2⟩ := h; ⟨E, h1, fun x hx => hs x (h2 x hx)⟩
theorem Vec.rg {s : Nat} {ad : Option Addr} {k c : Nat} {xs : List Value} {E : List Ent} {w : World} (hV : Vec s ad k c xs E) (hw : ∀ e ∈ E, e.holds w) : Rg w ad xs := fun hn => by
  rcases hV with ⟨_, _, _, h, _⟩ | ⟨g, cs, rfl, rfl, hx, hl, hk⟩
  · exact absurd h hn
  · refine ⟨g, 0, rfl, fun j v hj => ?_⟩
    have hR : Row w g cs := hw (.row g cs) (List.mem_singleton.2 rfl)
    rw [Nat.zero_add]
    refine hR.cell ?_
    rw [← hx, List.getElem?_take] at hj
    split at hj
    · exact hj
    · cases hj
end Go.Proofs.YtkeonnnhogaggaaGreatDoor
/- table: merge; the stable sort of fewer than 20 entries. -/
namespace Go.Proofs.YtkeonnnhogaggaaGreatDoor
open Go.RowKit

instance : Inhabited EnL := ⟨⟨0, 0, ⟨⟨fun _ => 0, fun _ => 0⟩, none, 0, []⟩⟩⟩
end Go.Proofs.YtkeonnnhogaggaaGreatDoor
/- The kit's laying SlLaysF0.n20 (insertion sort by a comparison) at entries. -/
namespace Go.Proofs.YtkeonnnhogaggaaGreatDoor
open Go.RowKit Go.Shelf

end Go.Proofs.YtkeonnnhogaggaaGreatDoor
/- table: the stable sort of entries, fewer than 20. -/
namespace Go.Proofs.YtkeonnnhogaggaaGreatDoor
open Go.RowKit Go.Sort

end Go.Proofs.YtkeonnnhogaggaaGreatDoor
/- table: Change. -/
namespace Go.Proofs.YtkeonnnhogaggaaGreatDoor
open Go.RowKit

end Go.Proofs.YtkeonnnhogaggaaGreatDoor
/- The engine: a region that draws its order: what reads only what nobody in the region writes is taken first, although calls come between (the kit's held orders). -/
namespace Go.Proofs.YtkeonnnhogaggaaGreatDoor
open Go.RowKit

section
variable {P : Program} {ops : Array Oper} {Q : Exit → Act → World → Prop} {n : Nat} {p : Nat → Prop} {w0 : World} {o : Oper} {rest os : List Oper} {l : Kn} {L L0 : List Ent} {K : Act → World → Prop}
/-- What is left of the region, as what follows. -/
def RestH (P : Program) (os : List Oper) (Q : Exit → Act → World → Prop) (p : Nat → Prop) (w0 : World) (L0 : List Ent) (g : Nat) (listed : Array Bool) : Act → World → Prop := fun a w => wpAnyH P .any os.toArray (NP Q) (fun w => St p w0 w L0) g listed a w
/-- What is left of a region, of which these are done; the blocks L0 stay as they are. -/
def WRH (P : Program) (os : List Oper) (Q : Exit → Act → World → Prop) (n : Nat) (p : Nat → Prop) (w0 : World) (L0 : List Ent) (g : Nat) (listed : Array Bool) (l : Kn) (L : List Ent) : Prop :=
  ∀ a w, Has n a l → St p w0 w L → RestH P os Q p w0 L0 g listed a w
theorem WC.held {id : Nat} (L0 : List Ent) (hm : P.follows .mixedOrders = true) (h : WRH P os Q n p w0 L0 os.length (Array.replicate os.length false) l L) : WC P (.region id os.toArray true) Q n p w0 l L := fun a w ha hS =>
  Code.wp_mono NP.imp (wp_region_held (S := fun w => St p w0 w L0) hm (by have h1 := h a w.drew ha hS.drew; unfold RestH at h1; simpa using h1))
def wpHeld (P : Program) (ops : Array Oper) (S : World → Prop) (K : Act → Prop) : List Oper → Act → Prop
  | [], a => K a
  | o :: rest, a => ∃ v, YieldsIf P ops S o v a ∧ wpHeld P ops S K rest (a.put o.dst v)
def WH (P : Program) (ops : Array Oper) (K : Act → World → Prop) (n : Nat) (p : Nat → Prop) (w0 : World) (L0 : List Ent) (rest : List Oper) (l : Kn) (L : List Ent) : Prop :=
  ∀ a, Has n a l → wpHeld P ops (fun w => St p w0 w L0) (fun a' => ∀ w, St p w0 w L → K a' w) rest a
theorem anyH_of_held {K : Act → Prop} {S : World → Prop} {w : World} {g : Nat} (hsel : Region.noSelect os.toArray = true) (hw : S w) : ∀ (js : List Nat) (listed : Array Bool) (a : Act), takesB .any os.toArray js listed = true →
    wpHeld P os.toArray S K (js.map (at_ os)) a → (∀ a, K a → wpAnyH P .any os.toArray (NP Q) S g (marks listed js) a w) → wpAnyH P .any os.toArray (NP Q) S (js.length + g) listed a w
  | [], listed, a, _, h, hK => by simpa [marks] using hK a h
  | i :: is, listed, a, hB, h, hK => by
    simp only [takesB, Bool.and_eq_true] at hB
    obtain ⟨⟨hr, hf⟩, hB'⟩ := hB
    obtain ⟨v, hy, h'⟩ := h
    have hr' : i ∈ Region.ready .any os.toArray listed := by simpa using hr
    rw [List.length_cons, show is.length + 1 + g = (is.length + g) + 1 by omega]
    exact wpAnyH_take (at_some hr') hsel hf hr (fun c a w hh => hh) hy hw (anyH_of_held hsel hw is _ _ hB' h' hK)
theorem WRH.first {listed : Array Bool} {g : Nat} (js : List Nat) (hsel : Region.noSelect os.toArray = true) (hB : takesB .any os.toArray js listed = true) (keep : ∀ w, St p w0 w L → St p w0 w L0)
    (h : WH P os.toArray (RestH P os Q p w0 L0 g (marks listed js)) n p w0 L0 (js.map (at_ os)) l L) : WRH P os Q n p w0 L0 (js.length + g) listed l L := fun a w ha hS =>
  anyH_of_held (K := fun a' => ∀ w, St p w0 w L → RestH P os Q p w0 L0 g (marks listed js) a' w) hsel (keep w hS) js listed a hB (h a ha) (fun _ h => h w hS)
theorem WRH.each {g : Nat} {listed : Array Bool} (rs : List Nat) (hr : Region.ready .any os.toArray listed = rs) (hne : rs ≠ [])
    (h : AllOf (fun i => WL P os.toArray (RQ (fun a' w' => St p w0 w' L0 ∧ RestH P os Q p w0 L0 g (listed.setIfInBounds i true) a' w') (NP Q)) n p w0 [at_ os i] l L) rs) : WRH P os Q n p w0 L0 (g + 1) listed l L := fun a w ha hS => by
  refine wpAnyH_all hr hne fun i hi => ?_
  have ho := at_some (listed := listed) (i := i) (by rw [hr]; exact hi)
  have h' : wpList P os.toArray (RQ (fun a' w' => St p w0 w' L0 ∧ RestH P os Q p w0 L0 g (listed.setIfInBounds i true) a' w') (NP Q)) [at_ os i] a w := h.get i hi a w ha hS
  unfold wpOp
  simp only [ho]
  unfold wpList at h'
  split
  · rename_i hwd
    rw [if_pos hwd] at h'
    exact (h'.imp wpRQ (fun h => ⟨h.1, RQ.out h.2⟩)).imp (Oper.wp_mono fun a' w' h => h) id
  · rename_i hwd
    rw [if_neg hwd] at h'
    exact h'
theorem WRH.one {g : Nat} {listed : Array Bool} (i : Nat) (hr : Region.ready .any os.toArray listed = [i])
    (h : WL P os.toArray (RQ (fun a' w' => St p w0 w' L0 ∧ RestH P os Q p w0 L0 g (listed.setIfInBounds i true) a' w') (NP Q)) n p w0 [at_ os i] l L) : WRH P os Q n p w0 L0 (g + 1) listed l L :=
  WRH.each [i] hr (by simp) h
theorem WRH.done {listed : Array Bool} (hB : Region.ready .any os.toArray listed = []) (h : WE Q .normal n p w0 l L) : WRH P os Q n p w0 L0 0 listed l L := fun a w ha hS => ⟨hB, h a w ha hS⟩
theorem WH.nil {listed : Array Bool} {g : Nat} (h : WRH P os Q n p w0 L0 g listed l L) : WH P os.toArray (RestH P os Q p w0 L0 g listed) n p w0 L0 [] l L := fun a ha w hS => h a w ha hS
theorem WL.nilH {listed : Array Bool} {g : Nat} (keep : ∀ w, St p w0 w L → St p w0 w L0) (h : WRH P os Q n p w0 L0 g listed l L) : WL P os.toArray (RQ (fun a' w' => St p w0 w' L0 ∧ RestH P os Q p w0 L0 g listed a' w') (NP Q)) n p w0 [] l L := fun a w ha hS => ⟨keep w hS, h a w ha hS⟩
theorem WH.val {d : Nat} {v : Value} (hv : Val P (fun w => St p w0 w L0) n l o v) (hg : On ops o l) (hd : o.dst = some d) (hn : Nat.blt d n = true)
    (h : WH P ops K n p w0 L0 rest ((d, v) :: l) L) : WH P ops K n p w0 L0 (o :: rest) l L := fun a ha =>
  ⟨v, .inl ⟨hg.ok ha, fun w hw => hv a w ha hw⟩, h _ (ha.put_any hd hn v)⟩
end
end Go.Proofs.YtkeonnnhogaggaaGreatDoor
/- table: New, Take, at, Find, clone, Len, Room. -/
namespace Go.Proofs.YtkeonnnhogaggaaGreatDoor
open Go.RowKit

/-- What is asked of a rule that is handed in. -/
structure RuOk (w : World) (r : RuL) : Prop where
  rd : Rg w r.ad (actsL r.acts)
  len : r.acts.length ≤ 100000
/-- What Find answers: the first entry that is hit, in new memory. -/
def FindP (w w' : World) (es : List EnL) (H : Hd) (e : Ending) : Prop :=
  ((∀ x ∈ es, ¬ x.r.m.hits H) ∧ e = .returned (.tuple #[.agg (EnL.cells ⟨0, 0, ⟨⟨fun _ => 0, fun _ => 0⟩, none, 0, []⟩⟩).toArray, .bool false]) ∧ Frm (fun _ => False) w w') ∨
  ∃ (i : Nat) (x y : EnL) (K : List Ent), es[i]? = some x ∧ x.r.m.hits H ∧ (∀ j y, j < i → es[j]? = some y → ¬ y.r.m.hits H) ∧ y.d = x.d ∧ e = .returned (.tuple #[.agg y.cells.toArray, .bool true]) ∧ RuOwn K y.r ∧ St (fun _ => False) w w' K
/-- The same, whichever it is. -/
def FindQ (w w' : World) (es : List EnL) (H : Hd) (e : Ending) : Prop :=
  ∃ (b : Bool) (y : EnL) (K : List Ent), e = .returned (.tuple #[.agg y.cells.toArray, .bool b]) ∧ (b = false → ∀ x ∈ es, ¬ x.r.m.hits H) ∧ (b = true → ∃ (i : Nat) (x : EnL), es[i]? = some x ∧ x.r.m.hits H ∧ (∀ j y, j < i → es[j]? = some y → ¬ y.r.m.hits H) ∧ y.d = x.d) ∧ RuOwn K y.r ∧ St (fun _ => False) w w' K
end Go.Proofs.YtkeonnnhogaggaaGreatDoor
/- rules.List.Run of one rule, whatever its acts; table.Run. -/
namespace Go.Proofs.YtkeonnnhogaggaaGreatDoor
open Go.RowKit Go.Sort

/-- A header with nothing behind its addresses' six bytes. -/
def Hd.nrm (H : Hd) : Hd := { H with src := fun i => if i < 6 then H.src i else 0, dst := fun i => if i < 6 then H.dst i else 0 }
instance : Inhabited { H : Hd // H.Rt } := ⟨⟨Hd.zero, ⟨Hd.zero_in, by decide⟩⟩⟩
open Classical in
/-- What a rule makes of a header. -/
structure RunD (r : RuD) (H : Hd) (hs : List Hd) : Prop where
  strict : hs.Pairwise fun a b => hcmpK a b 9 < 0
  mem : ∀ x, x ∈ hs ↔ ∃ a ∈ r.acts, x = (appK a H 9).nrm
/-- What Run of a table hands back. -/
def TRunP (es : List EnL) (H : Hd) (hs : List Hd) : Prop := ((∀ x ∈ es, ¬ x.r.m.hits H) ∧ hs = []) ∨ ∃ (i : Nat) (x : EnL), es[i]? = some x ∧ x.r.m.hits H ∧ (∀ j y, j < i → es[j]? = some y → ¬ y.r.m.hits H) ∧ RunD x.r.d H hs
end Go.Proofs.YtkeonnnhogaggaaGreatDoor
/- pile: rules of which none is covered by one ahead, as data. -/
namespace Go.Proofs.YtkeonnnhogaggaaGreatDoor
open Go.RowKit

def Mt.both (m n : Mt) : Mt := ⟨fun k => orN (m.val k) (n.val k), fun k => orN (m.mask k) (n.mask k)⟩
def Mt.meets (m n : Mt) : Prop := ∀ k, k < 9 → andN (andN (xorN (m.val k) (n.val k)) (m.mask k)) (n.mask k) = 0
instance (m n : Mt) : Decidable (m.meets n) := by unfold Mt.meets; infer_instance
/-- The match of what meets both. -/
def Mt.and (m n : Mt) : Option Mt := if m.meets n then some (m.both n) else none
def Mt.without (m : Mt) (f : Nat) : Mt := ⟨fun k => if k = f then 0 else m.val k, fun k => if k = f then 0 else m.mask k⟩
/-- The same in all fields. -/
def Mt.eqv (a b : Mt) : Prop := ∀ k, k < 9 → a.val k = b.val k ∧ a.mask k = b.mask k
instance (m n : Mt) : Decidable (m.eqv n) := by unfold Mt.eqv; infer_instance
/-- A match covers another one, and says of it what it says itself. -/
def Mt.over (r m : Mt) : Prop := ∀ k, k < 9 → andNotN (r.mask k) (m.mask k) = 0 ∧ r.val k = andN (m.val k) (r.mask k)
instance (m n : Mt) : Decidable (m.over n) := by unfold Mt.over; infer_instance
def covD (out : List RuD) (m : Mt) : Prop := ∃ r ∈ out, r.m.eqv m ∨ r.m.over m
instance (out : List RuD) (m : Mt) : Decidable (covD out m) := by unfold covD; infer_instance
structure PlD where
  mr : Int
  ma : Int
  out : List RuD
def sumA : List RuD → Nat
  | [] => 0
  | r :: rs => r.acts.length + sumA rs
theorem sumA_append : ∀ xs ys : List RuD, sumA (xs ++ ys) = sumA xs + sumA ys
  | [], ys => by show sumA ys = 0 + sumA ys; omega
  | x :: xs, ys => by show x.acts.length + sumA (xs ++ ys) = (x.acts.length + sumA xs) + sumA ys; rw [sumA_append xs ys]; omega
def PlD.add (p : PlD) (m : Mt) (us : List Ac) : Option PlD :=
  if (p.out.length : Int) ≥ p.mr ∨ ((sumA p.out : Nat) : Int) + (normF us).length > p.ma then none else some { p with out := p.out ++ [⟨m, normF us⟩] }
/-- One rule with each of others. -/
def crossI (but : List RuD) (sum : List Ac → List Ac → List Ac) (r : RuD) : List RuD → PlD → Option PlD
  | [], p => some p
  | s :: b, p => match r.m.and s.m with
    | none => crossI but sum r b p
    | some m => if covD but m ∨ covD p.out m then crossI but sum r b p else
      match p.add m (sum r.acts s.acts) with
      | none => none
      | some p' => if m.eqv r.m then some p' else crossI but sum r b p'
def crossD (but : List RuD) (sum : List Ac → List Ac → List Ac) (b : List RuD) : List RuD → PlD → Option PlD
  | [], p => some p
  | r :: a, p => match crossI but sum r b p with
    | none => none
    | some p' => crossD but sum b a p'
/-- A match as it is of a header ahead of an act: its first k fields. -/
def aheadK (act : Ac) (m : Mt) : Nat → Option Mt
  | 0 => some m
  | k + 1 => match aheadK act m k with
    | none => none
    | some n => if act.sets k then (if andN (act.val k) (n.mask k) ≠ n.val k then none else some (n.without k)) else some n
def aheadD (act : Ac) : List RuD → List RuD
  | [] => []
  | r :: l => match aheadK act r.m 9 with
    | none => aheadD act l
    | some m => ⟨m, r.acts.map act.then⟩ :: aheadD act l
def appA (a b : List Ac) : List Ac := a ++ b
def bothA (a b : List Ac) : List Ac := if a.length = 0 ∨ b.length = 0 then [] else a
def rowsD (mr ma : Int) (but b : List RuD) : List Ac → List RuD → Option (List RuD)
  | [], rows => some rows
  | a :: us, rows => match crossD but appA (aheadD a b) rows ⟨mr, ma, []⟩ with
    | none => none
    | some q => if q.out.length = 0 then some [] else rowsD mr ma but b us q.out
def addsD : List RuD → PlD → Option PlD
  | [], p => some p
  | x :: rows, p => if covD p.out x.m then addsD rows p else match p.add x.m x.acts with
    | none => none
    | some p' => addsD rows p'
def behindD (b : List RuD) : List RuD → PlD → Option PlD
  | [], p => some p
  | r :: a, p => match rowsD p.mr p.ma p.out b r.acts [⟨r.m, []⟩] with
    | none => none
    | some rows => match addsD rows p with
      | none => none
      | some p' => behindD b a p'
def outD : Option PlD → List RuD
  | none => []
  | some p => p.out
theorem PlD.add_some {p q : PlD} {m : Mt} {us : List Ac} (h : p.add m us = some q) : q = { p with out := p.out ++ [⟨m, normF us⟩] } := by
  unfold PlD.add at h
  split at h
  · cases h
  · exact (Option.some.inj h).symm
/-! ### How many -/
theorem crossI_len {but : List RuD} {sum : List Ac → List Ac → List Ac} {r : RuD} : ∀ (b : List RuD) (p q : PlD), crossI but sum r b p = some q → q.out.length ≤ p.out.length + b.length ∧ q.mr = p.mr ∧ q.ma = p.ma
  | [], p, q, h => by cases h; exact ⟨Nat.le_refl _, rfl, rfl⟩
  | s :: b, p, q, h => by
    rw [crossI] at h
    rw [List.length_cons]
    split at h
    · have := crossI_len b p q h; exact ⟨by omega, this.2⟩
    split at h
    · have := crossI_len b p q h; exact ⟨by omega, this.2⟩
    split at h
    · cases h
    rename_i p' hp
    have e := PlD.add_some hp
    split at h
    · cases h
      subst e
      exact ⟨by dsimp only; rw [List.length_append]; show _ + 1 ≤ _; omega, rfl, rfl⟩
    · have := crossI_len b p' q h
      subst e
      dsimp only at this
      rw [List.length_append] at this
      exact ⟨by have : q.out.length ≤ p.out.length + 1 + b.length := this.1; omega, this.2⟩
theorem crossD_len {but : List RuD} {sum : List Ac → List Ac → List Ac} {b : List RuD} : ∀ (a : List RuD) (p q : PlD), crossD but sum b a p = some q → q.out.length ≤ p.out.length + a.length * b.length ∧ q.mr = p.mr ∧ q.ma = p.ma
  | [], p, q, h => by cases h; exact ⟨by omega, rfl, rfl⟩
  | r :: a, p, q, h => by
    rw [crossD] at h
    split at h
    · cases h
    rename_i p' hp
    have h1 := crossI_len b p p' hp
    have h2 := crossD_len a p' q h
    rw [List.length_cons, Nat.add_mul]
    exact ⟨by omega, h2.2.1.trans h1.2.1, h2.2.2.trans h1.2.2⟩
/-- What is said of all rules' acts stays so. -/
theorem crossI_all {Q : List Ac → Prop} {but : List RuD} {sum : List Ac → List Ac → List Ac} {r : RuD} : ∀ (b : List RuD) (p q : PlD), (∀ s ∈ b, Q (normF (sum r.acts s.acts))) → (∀ x ∈ p.out, Q x.acts) → crossI but sum r b p = some q → ∀ x ∈ q.out, Q x.acts
  | [], p, q, _, hp, h => by cases h; exact hp
  | s :: b, p, q, hQ, hp, h => by
    have hQ' : ∀ s ∈ b, Q (normF (sum r.acts s.acts)) := fun x hx => hQ x (List.mem_cons_of_mem _ hx)
    rw [crossI] at h
    split at h
    · exact crossI_all b p q hQ' hp h
    split at h
    · exact crossI_all b p q hQ' hp h
    split at h
    · cases h
    rename_i p' hp'
    have e := PlD.add_some hp'
    have hp2 : ∀ x ∈ p'.out, Q x.acts := by
      subst e
      intro x hx
      rcases List.mem_append.1 hx with hx | hx
      · exact hp x hx
      · rw [List.mem_singleton.1 hx]; exact hQ s (List.mem_cons_self ..)
    split at h
    · cases h; exact hp2
    · exact crossI_all b p' q hQ' hp2 h
theorem crossD_all {Q : List Ac → Prop} {but : List RuD} {sum : List Ac → List Ac → List Ac} {b : List RuD} : ∀ (a : List RuD) (p q : PlD), (∀ r ∈ a, ∀ s ∈ b, Q (normF (sum r.acts s.acts))) → (∀ x ∈ p.out, Q x.acts) → crossD but sum b a p = some q → ∀ x ∈ q.out, Q x.acts
  | [], p, q, _, hp, h => by cases h; exact hp
  | r :: a, p, q, hQ, hp, h => by
    rw [crossD] at h
    split at h
    · cases h
    rename_i p' hp'
    exact crossD_all a p' q (fun x hx => hQ x (List.mem_cons_of_mem _ hx)) (crossI_all b p p' (hQ r (List.mem_cons_self ..)) hp hp') h
theorem aheadD_len (act : Ac) : ∀ l : List RuD, (aheadD act l).length ≤ l.length
  | [] => Nat.le_refl _
  | r :: l => by
    rw [aheadD]
    have := aheadD_len act l
    split
    · rw [List.length_cons]; omega
    · rw [List.length_cons, List.length_cons]; omega
theorem aheadD_all {act : Ac} {n : Nat} : ∀ l : List RuD, (∀ r ∈ l, r.acts.length ≤ n) → ∀ r ∈ aheadD act l, r.acts.length ≤ n
  | [], _, r, h => by cases h
  | x :: l, hl, r, h => by
    rw [aheadD] at h
    split at h
    · exact aheadD_all l (fun y hy => hl y (List.mem_cons_of_mem _ hy)) r h
    · rcases List.mem_cons.1 h with rfl | h
      · show (x.acts.map act.then).length ≤ n
        rw [List.length_map]; exact hl x (List.mem_cons_self ..)
      · exact aheadD_all l (fun y hy => hl y (List.mem_cons_of_mem _ hy)) r h
/-- A row of one rule ahead of others: so many rules, so many acts. -/
theorem rowsD_len {mr ma : Int} {but b : List RuD} {kr ka : Nat} (hk : 1 ≤ kr) (hb : b.length ≤ kr) (hba : ∀ r ∈ b, r.acts.length ≤ ka) : ∀ (us : List Ac) (rows out : List RuD) (n : Nat), (∀ r ∈ rows, r.acts.length ≤ n * ka) → rowsD mr ma but b us rows = some out → out.length ≤ rows.length * kr ^ us.length ∧ ∀ r ∈ out, r.acts.length ≤ (n + us.length) * ka
  | [], rows, out, n, hr, h => by cases h; exact ⟨by simp, by simpa using hr⟩
  | a :: us, rows, out, n, hr, h => by
    rw [rowsD] at h
    split at h
    · cases h
    rename_i q hq
    have h1 := crossD_len rows ⟨mr, ma, []⟩ q hq
    have h2 := crossD_all (Q := fun l => l.length ≤ (n + 1) * ka) rows ⟨mr, ma, []⟩ q (fun r hr' s hs => by
      refine Nat.le_trans (normF_len _) ?_
      unfold appA
      rw [List.length_append, Nat.add_mul, Nat.one_mul]
      have := hr r hr'
      have := aheadD_all b hba s hs
      omega) (fun x hx => by cases hx) hq
    split at h
    · cases h; exact ⟨Nat.zero_le _, fun r hr => by cases hr⟩
    · have h3 := rowsD_len hk hb hba us q.out out (n + 1) h2 h
      refine ⟨?_, by rw [List.length_cons, show n + (us.length + 1) = n + 1 + us.length by omega]; exact h3.2⟩
      refine Nat.le_trans h3.1 ?_
      rw [List.length_cons, Nat.pow_succ, Nat.mul_comm (kr ^ us.length) kr, ← Nat.mul_assoc]
      refine Nat.mul_le_mul_right _ ?_
      have h4 : q.out.length ≤ 0 + rows.length * (aheadD a b).length := h1.1
      refine Nat.le_trans (by omega : q.out.length ≤ rows.length * (aheadD a b).length) (Nat.mul_le_mul_left _ (Nat.le_trans (aheadD_len a b) hb))
theorem addsD_len : ∀ (rows : List RuD) (p q : PlD), addsD rows p = some q → q.out.length ≤ p.out.length + rows.length ∧ q.mr = p.mr ∧ q.ma = p.ma
  | [], p, q, h => by cases h; exact ⟨Nat.le_refl _, rfl, rfl⟩
  | x :: rows, p, q, h => by
    rw [addsD] at h
    rw [List.length_cons]
    split at h
    · have := addsD_len rows p q h; exact ⟨by omega, this.2⟩
    split at h
    · cases h
    rename_i p' hp
    have e := PlD.add_some hp
    have := addsD_len rows p' q h
    subst e
    dsimp only at this
    rw [List.length_append] at this
    exact ⟨by have : q.out.length ≤ p.out.length + 1 + rows.length := this.1; omega, this.2⟩
theorem addsD_all {n : Nat} : ∀ (rows : List RuD) (p q : PlD), (∀ r ∈ rows, r.acts.length ≤ n) → (∀ r ∈ p.out, r.acts.length ≤ n) → addsD rows p = some q → ∀ r ∈ q.out, r.acts.length ≤ n
  | [], p, q, _, hp, h => by cases h; exact hp
  | x :: rows, p, q, hr, hp, h => by
    have hr' : ∀ r ∈ rows, r.acts.length ≤ n := fun y hy => hr y (List.mem_cons_of_mem _ hy)
    rw [addsD] at h
    split at h
    · exact addsD_all rows p q hr' hp h
    split at h
    · cases h
    rename_i p' hp'
    have e := PlD.add_some hp'
    refine addsD_all rows p' q hr' (fun r h1 => ?_) h
    subst e
    rcases List.mem_append.1 h1 with h1 | h1
    · exact hp r h1
    · rw [List.mem_singleton.1 h1]; exact Nat.le_trans (normF_len _) (hr x (List.mem_cons_self ..))
theorem behindD_len {b : List RuD} {kr ka n : Nat} (hk : 1 ≤ kr) (hb : b.length ≤ kr) (hba : ∀ r ∈ b, r.acts.length ≤ ka) : ∀ (a : List RuD) (p q : PlD), (∀ r ∈ a, r.acts.length ≤ n) → (∀ r ∈ p.out, r.acts.length ≤ n * ka) → behindD b a p = some q → q.out.length ≤ p.out.length + a.length * kr ^ n ∧ (∀ r ∈ q.out, r.acts.length ≤ n * ka) ∧ q.mr = p.mr ∧ q.ma = p.ma
  | [], p, q, _, hp, h => by cases h; exact ⟨by omega, hp, rfl, rfl⟩
  | r :: a, p, q, ha, hp, h => by
    rw [behindD] at h
    split at h
    · cases h
    rename_i rows hrows
    split at h
    · cases h
    rename_i p' hp'
    have hrn := ha r (List.mem_cons_self ..)
    have h1 := rowsD_len hk hb hba r.acts [⟨r.m, []⟩] rows 0 (fun x hx => by rw [List.mem_singleton.1 hx]; exact Nat.zero_le _) hrows
    rw [List.length_singleton, Nat.one_mul, Nat.zero_add] at h1
    have h2 := addsD_len rows p p' hp'
    have h3 := addsD_all (n := n * ka) rows p p' (fun x hx => Nat.le_trans (h1.2 x hx) (Nat.mul_le_mul_right _ hrn)) hp hp'
    have h4 := behindD_len hk hb hba a p' q (fun x hx => ha x (List.mem_cons_of_mem _ hx)) h3 h
    have h5 : kr ^ r.acts.length ≤ kr ^ n := Nat.pow_le_pow_right hk hrn
    refine ⟨?_, h4.2.1, h4.2.2.1.trans h2.2.1, h4.2.2.2.trans h2.2.2⟩
    rw [List.length_cons, Nat.add_mul, Nat.one_mul]
    omega
/-! ### Numbers in range -/
theorem orN_u64 {x y : Int} (h1 : x ≤ 18446744073709551615) (h2 : y ≤ 18446744073709551615) : 0 ≤ orN x y ∧ orN x y ≤ 18446744073709551615 := by
  unfold orN
  have : x.toNat ||| y.toNat < 2 ^ 64 := Nat.or_lt_two_pow (by omega) (by omega)
  omega
theorem Mt.both_in {m n : Mt} (h1 : m.In) (h2 : n.In) : (m.both n).In := ⟨fun k => orN_u64 (h1.val k).2 (h2.val k).2, fun k => orN_u64 (h1.mask k).2 (h2.mask k).2⟩
theorem Mt.both_nz {m n : Mt} (h1 : m.Nz) (h2 : n.Nz) : (m.both n).Nz := fun k hk => by
  have a := h1 k hk
  have b := h2 k hk
  exact ⟨by show orN (m.val k) (n.val k) = 0; rw [a.1, b.1]; rfl, by show orN (m.mask k) (n.mask k) = 0; rw [a.2, b.2]; rfl⟩
theorem Mt.without_in {m : Mt} (h : m.In) (f : Nat) : (m.without f).In :=
  ⟨fun k => by show 0 ≤ (if k = f then 0 else m.val k) ∧ (if k = f then 0 else m.val k) ≤ _; split; exact ⟨Int.le_refl _, by decide⟩; exact h.val k,
   fun k => by show 0 ≤ (if k = f then 0 else m.mask k) ∧ (if k = f then 0 else m.mask k) ≤ _; split; exact ⟨Int.le_refl _, by decide⟩; exact h.mask k⟩
theorem Mt.without_nz {m : Mt} (h : m.Nz) (f : Nat) : (m.without f).Nz := fun k hk =>
  ⟨by show (if k = f then 0 else m.val k) = 0; split; rfl; exact (h k hk).1, by show (if k = f then 0 else m.mask k) = 0; split; rfl; exact (h k hk).2⟩
/-- A rule whose numbers are in range and whose acts are in their form. -/
structure RuD.Fit (r : RuD) : Prop where
  isIn : r.In
  ok : ∀ a ∈ r.acts, a.Ok
theorem Ac.thn_nz {a b : Ac} (ha : a.Nz) (hb : b.Nz) : (a.then b).Nz := fun k hk => by
  show (if b.sets k then b.val k else a.val k) = 0
  split
  · exact hb k hk
  · exact ha k hk
theorem sets_or {a b : Int} {k : Nat} (h0 : 0 ≤ a) (h1 : 0 ≤ b) : orN a b / 2 ^ k % 2 = 1 ↔ (a / 2 ^ k % 2 = 1 ∨ b / 2 ^ k % 2 = 1) := by
  obtain ⟨x, rfl⟩ := Int.eq_ofNat_of_zero_le h0
  obtain ⟨y, rfl⟩ := Int.eq_ofNat_of_zero_le h1
  have hb : ∀ n : Nat, ((n : Int) / 2 ^ k % 2 = 1) ↔ n.testBit k = true := fun n => by
    rw [Nat.testBit_eq_decide_div_mod_eq, decide_eq_true_iff]
    have : ((n : Int) / 2 ^ k % 2) = ((n / 2 ^ k % 2 : Nat) : Int) := by push_cast; rfl
    rw [this]; omega
  show ((((x : Int).toNat ||| (y : Int).toNat : Nat) : Int) / 2 ^ k % 2 = 1) ↔ _
  rw [hb, hb, hb]
  simp [Nat.testBit_or]
theorem Ac.thn_ok {a b : Ac} (ha : a.Ok) (hb : b.Ok) : (a.then b).Ok := by
  refine ⟨?_, fun k hk => ?_⟩
  · show 0 ≤ orN a.set b.set ∧ orN a.set b.set ≤ 511
    unfold orN
    have h1 := ha.1
    have h2 := hb.1
    have : a.set.toNat ||| b.set.toNat < 2 ^ 9 := Nat.or_lt_two_pow (by omega) (by omega)
    omega
  · show (if b.sets k then b.val k else a.val k) ≤ fullI k ∧ ((if b.sets k then b.val k else a.val k) ≠ 0 → (a.then b).sets k)
    have hs : (a.then b).sets k ↔ a.sets k ∨ b.sets k := sets_or ha.1.1 hb.1.1
    rw [hs]
    split
    · rename_i h; exact ⟨(hb.2 k hk).1, fun _ => .inr h⟩
    · exact ⟨(ha.2 k hk).1, fun h => .inl ((ha.2 k hk).2 h)⟩
theorem Ac.thn_in {a b : Ac} (ha : a.In) (hb : b.In) (h1 : a.Ok) (h2 : b.Ok) : (a.then b).In :=
  ⟨by have := (Ac.thn_ok h1 h2).1; omega, fun k => by
    show 0 ≤ (if b.sets k then b.val k else a.val k) ∧ (if b.sets k then b.val k else a.val k) ≤ _
    split
    · exact hb.val k
    · exact ha.val k⟩
theorem fit_new {m : Mt} {us : List Ac} (hm : m.In) (hz : m.Nz) (ha : ∀ a ∈ us, a.In ∧ a.Nz ∧ a.Ok) : (⟨m, normF us⟩ : RuD).Fit :=
  ⟨⟨hm, hz, fun a h => ⟨(ha a (normF_sub h)).1, (ha a (normF_sub h)).2.1⟩⟩, fun a h => (ha a (normF_sub h)).2.2⟩
theorem and_some {r s m : Mt} (h : r.and s = some m) : r.meets s ∧ m = r.both s := by
  unfold Mt.and at h
  split at h
  · rename_i hm; exact ⟨hm, (Option.some.inj h).symm⟩
  · cases h
def SumOk (sum : List Ac → List Ac → List Ac) : Prop := ∀ x y a, a ∈ sum x y → a ∈ x ∨ a ∈ y
theorem appA_ok : SumOk appA := fun _ _ _ h => List.mem_append.1 h
theorem bothA_ok : SumOk bothA := fun _ _ _ h => by
  unfold bothA at h
  split at h
  · cases h
  · exact .inl h
theorem RuD.Fit.three {r : RuD} (h : r.Fit) {a : Ac} (ha : a ∈ r.acts) : a.In ∧ a.Nz ∧ a.Ok := ⟨(h.isIn.act a ha).1, (h.isIn.act a ha).2, h.ok a ha⟩
theorem sum_three {sum : List Ac → List Ac → List Ac} (hs : SumOk sum) {r s : RuD} (hr : r.Fit) (hs' : s.Fit) : ∀ a ∈ sum r.acts s.acts, a.In ∧ a.Nz ∧ a.Ok := fun a h => (hs _ _ a h).elim hr.three hs'.three
theorem aheadK_in {act : Ac} {m : Mt} (hm : m.In) (hz : m.Nz) : ∀ (k : Nat) (n : Mt), aheadK act m k = some n → n.In ∧ n.Nz
  | 0, n, h => by cases h; exact ⟨hm, hz⟩
  | k + 1, n, h => by
    rw [aheadK] at h
    split at h
    · cases h
    rename_i n' hn
    have ih := aheadK_in hm hz k n' hn
    split at h
    · split at h
      · cases h
      · cases h; exact ⟨Mt.without_in ih.1 k, Mt.without_nz ih.2 k⟩
    · cases h; exact ih
theorem aheadD_fit {act : Ac} (h1 : act.In) (h2 : act.Nz) (h3 : act.Ok) : ∀ l : List RuD, (∀ r ∈ l, r.Fit) → ∀ r ∈ aheadD act l, r.Fit
  | [], _, r, h => by cases h
  | x :: l, hl, r, h => by
    rw [aheadD] at h
    split at h
    · exact aheadD_fit h1 h2 h3 l (fun y hy => hl y (List.mem_cons_of_mem _ hy)) r h
    · rename_i m hm
      rcases List.mem_cons.1 h with rfl | h
      · have hx := hl x (List.mem_cons_self ..)
        have hm2 := aheadK_in hx.isIn.m hx.isIn.nz 9 m hm
        refine ⟨⟨hm2.1, hm2.2, fun a ha => ?_⟩, fun a ha => ?_⟩
        · obtain ⟨b, hb, rfl⟩ := List.mem_map.1 ha
          have hb := hx.three hb
          exact ⟨Ac.thn_in h1 hb.1 h3 hb.2.2, Ac.thn_nz h2 hb.2.1⟩
        · obtain ⟨b, hb, rfl⟩ := List.mem_map.1 ha
          have hb := hx.three hb
          exact Ac.thn_ok h3 hb.2.2
      · exact aheadD_fit h1 h2 h3 l (fun y hy => hl y (List.mem_cons_of_mem _ hy)) r h
end Go.Proofs.YtkeonnnhogaggaaGreatDoor
/- The engine: a scope (a body with labels) through which the run goes without a goto. -/
namespace Go.Proofs.YtkeonnnhogaggaaGreatDoor
open Go.RowKit

section
variable {P : Program} {Q : Exit → Act → World → Prop} {n : Nat} {p : Nat → Prop} {w0 : World} {l : Kn} {L : List Ent}
theorem WC.scope {c : Code} (h : WC P c (Exit.noGoto Q) n p w0 l L) : WC P (.scope c) Q n p w0 l L := fun a w ha hS => wp_scope_straight (h a w ha hS)
theorem WE.scope_ret (h : WE Q .ret n p w0 l L) : WE (Exit.noGoto Q) .ret n p w0 l L := h
end
end Go.Proofs.YtkeonnnhogaggaaGreatDoor
/- Matches as a map's keys (structs of arrays of numbers). -/
namespace Go.Proofs.YtkeonnnhogaggaaGreatDoor
open Go.RowKit

theorem mapM_rng {β : Type} {f : Nat → Option β} {g : Nat → β} : ∀ (n : Nat), (∀ i, i < n → f i = some (g i)) → (List.range n).mapM f = some ((List.range n).map g)
  | 0, _ => rfl
  | n + 1, h => by
    rw [List.range_succ, List.mapM_append, mapM_rng n (fun i hi => h i (by omega)), List.map_append]
    simp [h n (by omega)]
theorem lits_ucs {P : Program} {t e : TypeId} {d : Nat} {f : Nat → Int} (hu : P.underlying t = some (.array 9 e)) (he : P.underlying e = some (.int .u64)) (hc : P.cellsOf t = 9) (hce : P.cellsOf e = 1) (hf : ∀ k, 0 ≤ f k ∧ f k ≤ 18446744073709551615) :
    P.keyLits (d + 2) t (ucs f 9) = some ((List.range 9).map fun i => Lit.int .u64 (f i)) := by
  have key : ∀ i, i < 9 → P.keyLits (d + 1) e (((ucs f 9).drop (i * P.cellsOf e)).take (P.cellsOf e)) = some [Lit.int .u64 (f i)] := fun i hi => by
    have h1 : ((ucs f 9).drop (i * P.cellsOf e)).take (P.cellsOf e) = [.int .u64 (f i)] := by
      rw [hce, Nat.mul_one]
      have := List.drop_eq_getElem_cons (l := ucs f 9) (i := i) (by rw [ucs_len]; exact hi)
      rw [this]
      have h2 := ucs_get f hi
      rw [List.getElem?_eq_getElem (by rw [ucs_len]; exact hi)] at h2
      rw [Option.some.inj h2]
      rfl
    rw [h1]
    unfold Program.keyLits
    rw [he]
    have hw : (Lit.int .u64 (f i)).wf = true := by
      have h := hf i
      show (decide (IntKind.u64.min ≤ f i) && decide (f i ≤ IntKind.u64.max)) = true
      rw [decide_eq_true (show IntKind.u64.min ≤ f i from h.1), decide_eq_true (show f i ≤ IntKind.u64.max from h.2)]
      rfl
    simp [hw]
  unfold Program.keyLits
  rw [hu]
  simp only [hc, ucs_len, if_true]
  rw [mapM_rng 9 key]
  rfl
def KMt : Value → Prop := fun v => ∃ l, keyOf Tryz.prog 115 v = some l
theorem keyW_115 : KeyP Tryz.prog 115 KMt := by
  have L : WideMaps.KeyLaw Tryz.prog 115 := deep_law (m := 4) (by decide) (by kernel_rfl) (by kernel_rfl) (by kernel_rfl)
  exact ⟨fun b w v ⟨l, h⟩ => L.check w b h, fun w x es ⟨l, h⟩ he => L.find w h es he, fun w v ⟨l, h⟩ => L.stays w h⟩
theorem lits_mt (m : Mt) (hm : m.In) : ∃ ls, Tryz.prog.keyLits (Tryz.prog.types.size + 1) 115 (mtL m) = some ls := by
  have h1 := lits_ucs (P := Tryz.prog) (t := 108) (e := 23) (d := Tryz.prog.types.size - 2) Tryz.underlying108 Tryz.underlying23 (by kernel_rfl) (by kernel_rfl) hm.val
  have h2 := lits_ucs (P := Tryz.prog) (t := 108) (e := 23) (d := Tryz.prog.types.size - 2) Tryz.underlying108 Tryz.underlying23 (by kernel_rfl) (by kernel_rfl) hm.mask
  have hs : Tryz.prog.types.size - 2 + 2 = Tryz.prog.types.size := by kernel_rfl
  rw [hs] at h1 h2
  have e1 : (mtL m).take 9 = ucs m.val 9 := rfl
  have e2 : ((mtL m).drop 9).take 9 = ucs m.mask 9 := rfl
  have hc : Tryz.prog.cellsOf 108 = 9 := by kernel_rfl
  have hc2 : Tryz.prog.cellsOf 115 = 18 := by kernel_rfl
  unfold Program.keyLits
  rw [Tryz.underlying115]
  generalize Tryz.prog.types.size = Z at h1 h2 ⊢
  simp [hc, hc2, mtL_len, e1, e2, h1, h2]
theorem KMt.mk {m : Mt} (hm : m.In) : KMt (mtV m) := by
  obtain ⟨ls, h⟩ := lits_mt m hm
  have hk : Tryz.prog.keyType 115 = true := by kernel_rfl
  have hf : (mtV m).formed Tryz.prog 115 = true := by
    have hc2 : Tryz.prog.cellsOf 115 = 18 := by kernel_rfl
    unfold mtV Value.formed
    rw [Tryz.underlying115]
    simp [hc2, mtL_len]
  refine ⟨.string (keyBytes ls), ?_⟩
  unfold keyOf
  rw [Tryz.underlying115]
  have hc : (mtV m).cells.toList = mtL m := rfl
  simp only [hk, hf, Bool.and_true, if_true, hc, h, Option.map_some]
end Go.Proofs.YtkeonnnhogaggaaGreatDoor
/- match.And, match.Without; matches as a map's keys. -/
namespace Go.Proofs.YtkeonnnhogaggaaGreatDoor
open Go.RowKit

/-- A match's first k fields, joined with another's. -/
def andK (m n : Mt) (k : Nat) : Mt := ⟨fun i => if i < k then orN (m.val i) (n.val i) else m.val i, fun i => if i < k then orN (m.mask i) (n.mask i) else m.mask i⟩
theorem mtL_congr {a b : Mt} (h : a.eqv b) : mtL a = mtL b := by
  unfold mtL
  rw [ucs_congr (f := a.val) (g := b.val) (fun i hi => (h i hi).1), ucs_congr (f := a.mask) (g := b.mask) (fun i hi => (h i hi).2)]
theorem andK_set {m n : Mt} {k : Nat} (hk : k < 9) : ((mtL (andK m n k)).set (0 + k * 1) (.int .u64 (orN (m.val k) (n.val k)))).set (9 + k * 1) (.int .u64 (orN (m.mask k) (n.mask k))) = mtL (andK m n (k + 1)) := by
  rw [mtL_setVal hk, mtL_setMask hk]
  refine mtL_congr fun i hi => ⟨?_, ?_⟩
  · show (if i = k then _ else (if i < k then _ else _)) = (if i < k + 1 then _ else _)
    by_cases e : i = k
    · subst e; rw [if_pos rfl, if_pos (by omega)]
    · rw [if_neg e]
      by_cases e2 : i < k
      · rw [if_pos e2, if_pos (by omega)]
      · rw [if_neg e2, if_neg (by omega)]
  · show (if i = k then _ else (if i < k then _ else _)) = (if i < k + 1 then _ else _)
    by_cases e : i = k
    · subst e; rw [if_pos rfl, if_pos (by omega)]
    · rw [if_neg e]
      by_cases e2 : i < k
      · rw [if_pos e2, if_pos (by omega)]
      · rw [if_neg e2, if_neg (by omega)]
theorem andK_val {m n : Mt} {k : Nat} (hk : k < 9) : (mtL (andK m n k))[0 + k * 1]? = some (.int .u64 (m.val k)) := by
  rw [mtL_val _ hk]
  show some (Value.int .u64 (if k < k then _ else _)) = _
  rw [if_neg (by omega)]
theorem andK_mask {m n : Mt} {k : Nat} (hk : k < 9) : (mtL (andK m n k))[9 + k * 1]? = some (.int .u64 (m.mask k)) := by
  rw [mtL_mask _ hk]
  show some (Value.int .u64 (if k < k then _ else _)) = _
  rw [if_neg (by omega)]
theorem andN_le {x y : Int} (h : x ≤ 18446744073709551615) : 0 ≤ andN x y ∧ andN x y ≤ 18446744073709551615 := by
  unfold andN
  have : x.toNat &&& y.toNat ≤ x.toNat := Nat.and_le_left
  omega
set_option maxHeartbeats 2000000 in
theorem MAnd_c (w : World) (m n : Mt) (hm : m.In) (hn : n.In) :
    Calls Tryz.prog 135 #[mtV m, mtV n] w fun e w' => e = .returned (.tuple #[mtV ((m.and n).getD mt0), .bool (m.and n).isSome]) ∧ Frm (fun _ => False) w w' := by
  refine enter Tryz.func135 rfl Tryz.ntmps135 rfl (St.start (fun _ => False) w) ?_
  refine WC.seq <| WC.region <| WL.box rfl rfl rfl (.none rfl) rfl rfl <| ?_
  intro g2 hg2
  refine WL.box rfl rfl rfl (.none rfl) rfl rfl ?_
  intro g3 hg3
  refine WL.alloc rfl zero_115 (.none rfl) rfl rfl ?_
  intro g4 hg4
  refine WL.v (v_assign rfl rfl) rfl <| WL.nt <| WC.seq <| WC.seq <| WC.region <| WL.v (v_move rfl rfl) rfl <| WL.nt <| WC.block <| ?_
  refine WC.loop (fun k : Nat => [(7, .int .i64 k), (2, .pointer (some ⟨g2, 0, none⟩)), (3, .pointer (some ⟨g3, 0, none⟩)), (4, .pointer (some ⟨g4, 0, none⟩)), (5, .bool false)]) (fun k => [.row g4 (mtL mt0), .row g3 (mtL n), .row g2 (mtL (andK m n k))]) (fun k => k ≤ 9 ∧ ∀ j, j < k → andN (andN (xorN (m.val j) (n.val j)) (m.mask j)) (n.mask j) = 0) (fun k => 9 - k) 0 ⟨Nat.zero_le _, fun j h => absurd h (by omega)⟩ (.cons rfl (.cons rfl (.cons rfl (.cons rfl (.cons rfl .nil))))) (.refl _) ?_
  rintro k ⟨hk, hok⟩
  have a1 := hm.val k
  have a2 := hm.mask k
  have b1 := hn.val k
  have b2 := hn.mask k
  have hx := xorN_le (x := m.val k) (y := n.val k) a1.2 b1.2
  have hy := andN_le (y := m.mask k) hx.2
  refine WC.seq <| WC.region <| ?_
  refine WL.test (v_lss rfl rfl rfl) (.none rfl) rfl rfl (fun h8 => ?_) (fun h8 => ?_)
  ·
   refine WL.nt <| WC.seq <| WC.cond_t rfl <| WC.skip <| WE.then_n <| WC.seq <| WC.block <| WC.seq <| WC.region <| WL.v (v_move rfl rfl) rfl <| WL.v (v_assign rfl rfl) rfl <| WL.nt <| WC.seq <| WC.seq <| ?_
   refine WC.quiet mixed (by kernel_rfl) ?_
   refine WQ.val (v_move rfl rfl) (.none rfl) rfl rfl <| WQ.val (v_fieldAddr0 rfl rfl fld_115_0) (.none rfl) rfl rfl <| ?_
   refine WQ.val (v_indexAddrA (lo := k) rfl rfl rfl Tryz.underlying108 sz_23 (by omega) (by omega)) (.none rfl) rfl rfl ?_
   refine WQ.val (v_load1 rfl rfl one_23 (cellAt (andK_val (by omega)))) (.none rfl) rfl rfl ?_
   refine WQ.val (v_move rfl rfl) (.none rfl) rfl rfl <| WQ.val (v_fieldAddr0 rfl rfl fld_115_0) (.none rfl) rfl rfl <| ?_
   refine WQ.val (v_indexAddrA (lo := k) rfl rfl rfl Tryz.underlying108 sz_23 (by omega) (by omega)) (.none rfl) rfl rfl ?_
   refine WQ.val (v_load1 rfl rfl one_23 (cellAt (mtL_val n (by omega)))) (.none rfl) rfl rfl ?_
   refine WQ.val (v_xor rfl rfl rfl (bits_xor_u64 a1.1 a1.2 b1.1 b1.2)) (.none rfl) rfl rfl <| WQ.val (v_move rfl rfl) (.none rfl) rfl rfl <| WQ.val (v_fieldAddr0 rfl rfl fld_115_1) (.none rfl) rfl rfl <| ?_
   refine WQ.val (v_indexAddrA (lo := k) rfl rfl rfl Tryz.underlying108 sz_23 (by omega) (by omega)) (.none rfl) rfl rfl ?_
   refine WQ.val (v_load1 rfl rfl one_23 (cellAt (andK_mask (by omega)))) (.none rfl) rfl rfl ?_
   refine WQ.val (v_and rfl rfl rfl (bits_and_u64 hx.1 hx.2 a2.1 a2.2)) (.none rfl) rfl rfl <| WQ.val (v_move rfl rfl) (.none rfl) rfl rfl <| WQ.val (v_fieldAddr0 rfl rfl fld_115_1) (.none rfl) rfl rfl <| ?_
   refine WQ.val (v_indexAddrA (lo := k) rfl rfl rfl Tryz.underlying108 sz_23 (by omega) (by omega)) (.none rfl) rfl rfl ?_
   refine WQ.val (v_load1 rfl rfl one_23 (cellAt (mtL_mask n (by omega)))) (.none rfl) rfl rfl ?_
   refine WQ.val (v_and rfl rfl rfl (bits_and_u64 hy.1 hy.2 b2.1 b2.2)) (.none rfl) rfl rfl ?_
   refine WQ.test (v_neq rfl rfl rfl) (.none rfl) rfl rfl (fun h29 => ?_) (fun h29 => ?_)
   ·
    refine WQ.nil <| WE.then_n <| WC.cond_t rfl <| WC.seq <| WC.region <| WL.v (v_build rfl rfl zero_115 plc_115 rfl) rfl <| WL.storeW rfl rfl rfl rfl many_115 rfl rfl (.none rfl) rfl <| WL.v (v_assign rfl rfl) rfl <| WL.nt <| WC.ret <| WE.then_ret <| WE.block_ret <| WE.then_ret <| WE.then_ret <| ?_
    refine WE.block_ret <| WE.then_ret <| WE.ret2 (P := Tryz.prog) (.inl rfl) Tryz.results135 (resRow rfl many_115 rfl) rfl <| ?_
    have hno : m.and n = none := (by unfold Mt.and; exact if_neg fun q => h29 (q k (by omega)))
    exact fun w' h => ⟨by rw [hno]; rfl, h.frm⟩
   ·
    refine WQ.nil <| WE.then_n <| WC.cond_f rfl <| WC.skip <| WE.then_n <| WC.seq <| WC.orders mixed <| ?_
    refine WR.first (g := 5) [0, 1, 2, 4, 5, 6, 9] (by kernel_rfl) (by kernel_rfl) ?_
    refine WP.val (v_move rfl rfl) (.none rfl) rfl rfl <| WP.val (v_fieldAddr0 rfl rfl fld_115_0) (.none rfl) rfl rfl <| ?_
    refine WP.val (v_indexAddrA (lo := k) rfl rfl rfl Tryz.underlying108 sz_23 (by omega) (by omega)) (.none rfl) rfl rfl ?_
    refine WP.val (v_move rfl rfl) (.none rfl) rfl rfl <| WP.val (v_fieldAddr0 rfl rfl fld_115_0) (.none rfl) rfl rfl <| ?_
    refine WP.val (v_indexAddrA (lo := k) rfl rfl rfl Tryz.underlying108 sz_23 (by omega) (by omega)) (.none rfl) rfl rfl ?_
    refine WP.val (v_fieldAddr0 rfl rfl fld_115_0) (.none rfl) rfl rfl <| WP.nil <| ?_
    refine WR.read (g := 1) [3, 7, 8, 10] (by kernel_rfl) (by kernel_rfl) (by kernel_rfl) (by kernel_rfl) rfl ?_
    refine WQ.val (v_load1 rfl rfl one_23 (cellAt (andK_val (by omega)))) (.none rfl) rfl rfl ?_
    refine WQ.val (v_load1 rfl rfl one_23 (cellAt (mtL_val n (by omega)))) (.none rfl) rfl rfl ?_
    refine WQ.val (v_or rfl rfl rfl (bits_or_u64 a1.1 a1.2 b1.1 b1.2)) (.none rfl) rfl rfl ?_
    refine WQ.val (v_indexAddrA (lo := k) rfl rfl rfl Tryz.underlying108 sz_23 (by omega) (by omega)) (.none rfl) rfl rfl ?_
    refine WQ.nilR ?_
    refine WR.ones (g := 0) [11] (by kernel_rfl) ?_
    refine WL.store1 rfl rfl rfl rfl one_23 (by rw [mtL_len]; omega) (.none rfl) rfl ?_
    refine WL.nilR ?_
    refine WR.done (by kernel_rfl) ?_
    refine WE.then_n <| WC.orders mixed <| ?_
    refine WR.first (g := 5) [0, 1, 2, 4, 5, 6, 9] (by kernel_rfl) (by kernel_rfl) ?_
    refine WP.val (v_move rfl rfl) (.none rfl) rfl rfl <| WP.val (v_fieldAddr0 rfl rfl fld_115_1) (.none rfl) rfl rfl <| ?_
    refine WP.val (v_indexAddrA (lo := k) rfl rfl rfl Tryz.underlying108 sz_23 (by omega) (by omega)) (.none rfl) rfl rfl ?_
    refine WP.val (v_move rfl rfl) (.none rfl) rfl rfl <| WP.val (v_fieldAddr0 rfl rfl fld_115_1) (.none rfl) rfl rfl <| ?_
    refine WP.val (v_indexAddrA (lo := k) rfl rfl rfl Tryz.underlying108 sz_23 (by omega) (by omega)) (.none rfl) rfl rfl ?_
    refine WP.val (v_fieldAddr0 rfl rfl fld_115_1) (.none rfl) rfl rfl <| WP.nil <| ?_
    refine WR.read (g := 1) [3, 7, 8, 10] (by kernel_rfl) (by kernel_rfl) (by kernel_rfl) (by kernel_rfl) rfl ?_
    refine WQ.val (v_load1 rfl rfl one_23 (cellAt (by rw [List.getElem?_set_ne (by omega)]; exact andK_mask (by omega)))) (.none rfl) rfl rfl ?_
    refine WQ.val (v_load1 rfl rfl one_23 (cellAt (mtL_mask n (by omega)))) (.none rfl) rfl rfl ?_
    refine WQ.val (v_or rfl rfl rfl (bits_or_u64 a2.1 a2.2 b2.1 b2.2)) (.none rfl) rfl rfl ?_
    refine WQ.val (v_indexAddrA (lo := k) rfl rfl rfl Tryz.underlying108 sz_23 (by omega) (by omega)) (.none rfl) rfl rfl ?_
    refine WQ.nilR ?_
    refine WR.ones (g := 0) [11] (by kernel_rfl) ?_
    refine WL.store1 rfl rfl rfl rfl one_23 (by rw [List.length_set, mtL_len]; omega) (.none rfl) rfl ?_
    refine WL.nilR ?_
    refine WR.done (by kernel_rfl) ?_
    refine WE.block_n <| WE.then_n <| WC.region <| ?_
    refine WL.v (v_add rfl rfl rfl (w_i64 (by omega) (by omega))) rfl ?_
    refine WL.v (v_move rfl rfl) rfl <| WL.nil <| ?_
    refine WE.as (L' := [.row g4 (mtL mt0), .row g3 (mtL n), .row g2 (mtL (andK m n (k + 1)))]) (by rw [← andK_set (by omega)]) (WE.next (k + 1) (by omega) ⟨by omega, fun j hj => by
    by_cases e : j = k
    · subst e; exact Classical.not_not.1 h29
    · exact hok j (by omega)⟩ (.int rfl (by omega) (.cons rfl (.cons rfl (.cons rfl (.cons rfl .nil))))) (.refl _))
  ·
   refine WL.nt <| WC.seq <| WC.cond_f rfl <| WC.exit <| WE.then_exit <| WE.then_exit <| WE.block_hit <| WE.then_n <| WC.seq <| WC.region <| ?_
   obtain rfl : k = 9 := (by omega)
   have hyes : m.and n = some (m.both n) := (by unfold Mt.and; exact if_pos hok)
   have he : mtL (andK m n 9) = mtL (m.both n) := mtL_congr fun i hi => ⟨if_pos hi, if_pos hi⟩
   rw [he]
   refine WL.v (v_loadN rfl rfl many_115 rfl allAt) rfl <| WL.storeW rfl rfl rfl rfl many_115 rfl rfl (.none rfl) rfl <| WL.v (v_assign rfl rfl) rfl <| WL.nt <| WC.ret <| WE.ret2 (P := Tryz.prog) (.inl rfl) Tryz.results135 (resRow rfl many_115 rfl) rfl <| ?_
   exact fun w' h => ⟨by rw [hyes]; rfl, h.frm⟩
theorem MWithout_c (w : World) (m : Mt) (k : Nat) (hk : k < 9) :
    Calls Tryz.prog 196 #[mtV m, .int .i64 k] w fun e w' => e = .returned (mtV (m.without k)) ∧ Frm (fun _ => False) w w' := by
  refine enter Tryz.func196 rfl Tryz.ntmps196 rfl (St.start (fun _ => False) w) ?_
  refine WC.seq <| WC.region <| WL.box rfl rfl rfl (.none rfl) rfl rfl <| ?_
  intro g2 hg2
  refine WL.alloc rfl zero_115 (.none rfl) rfl rfl ?_
  intro g4 hg4
  refine WL.nt <| WC.seq <| WC.seq <| WC.region <| WL.v (v_move rfl rfl) rfl <| WL.call rfl rfl ck_171 (.none rfl) rfl rfl <| ?_
  intro w hS
  refine Calls.then (MField_c w k hk) hS ?_
  refine WL.nt <| WC.cond_t rfl <| WC.seq <| WC.region <| WL.v (v_move rfl rfl) rfl <| WL.v (v_fieldAddr0 rfl rfl fld_115_0) rfl <| ?_
  refine WL.v (v_indexAddrA (lo := k) rfl rfl rfl Tryz.underlying108 sz_23 (by omega) (by omega)) rfl ?_
  refine WL.store1 rfl rfl rfl rfl one_23 (by rw [mtL_len]; omega) (.none rfl) rfl ?_
  refine WL.as (L' := [.row g4 (mtL mt0), .row g2 (mtL ⟨fun i => if i = k then 0 else m.val i, m.mask⟩)]) (by rw [mtL_setVal hk]; rfl) ?_
  refine WL.nt <| WC.region <| WL.v (v_move rfl rfl) rfl <| WL.v (v_fieldAddr0 rfl rfl fld_115_1) rfl <| ?_
  refine WL.v (v_indexAddrA (lo := k) rfl rfl rfl Tryz.underlying108 sz_23 (by omega) (by omega)) rfl ?_
  refine WL.store1 rfl rfl rfl rfl one_23 (by rw [mtL_len]; omega) (.none rfl) rfl ?_
  refine WL.as (L' := [.row g4 (mtL mt0), .row g2 (mtL (m.without k))]) (by rw [mtL_setMask hk]; rfl) ?_
  refine WL.nt <| WC.seq <| WC.region <| WL.v (v_loadN rfl rfl many_115 rfl allAt) rfl <| WL.storeW rfl rfl rfl rfl many_115 rfl rfl (.none rfl) rfl <| WL.nt <| WC.ret <| WE.ret1 (P := Tryz.prog) (.inl rfl) Tryz.results196 (resRow rfl many_115 rfl) <| ?_
  exact fun w' h => ⟨rfl, h.frm⟩
/-! ### Matches as keys -/
theorem mtL_iff {a b : Mt} : mtL a = mtL b ↔ a.eqv b := by
  refine ⟨fun h k hk => ⟨?_, ?_⟩, mtL_congr⟩
  · have := congrArg (fun l => l[0 + k * 1]?) h
    have this : (mtL a)[0 + k * 1]? = (mtL b)[0 + k * 1]? := this
    rw [mtL_val a hk, mtL_val b hk] at this
    injection this with this
    injection this
  · have := congrArg (fun l => l[9 + k * 1]?) h
    have this : (mtL a)[9 + k * 1]? = (mtL b)[9 + k * 1]? := this
    rw [mtL_mask a hk, mtL_mask b hk] at this
    injection this with this
    injection this
theorem mtV_iff {a b : Mt} : mtV a = mtV b ↔ a.eqv b := by
  rw [← mtL_iff]
  unfold mtV
  constructor
  · intro h
    injection h with h
    exact List.toArray_inj h
  · intro h; rw [h]
end Go.Proofs.YtkeonnnhogaggaaGreatDoor
/- pile: as it lies; New, List; Covers. -/
namespace Go.Proofs.YtkeonnnhogaggaaGreatDoor
open Go.RowKit

structure PlL where
  mr : Int
  ma : Int
  ad : Option Addr
  c : Nat
  ls : List RuL
  mad : Option Addr
  mc : Nat
  ms : List (Nat → Int)
  hv : Option Nat
  es : Array MapEntry
  cl : Nat
abbrev masksL (ms : List (Nat → Int)) : List Value := encL (fun f => ucs f 9) ms
theorem masksL_len (ms : List (Nat → Int)) : (masksL ms).length = ms.length * 9 := encL_len (fun f => ucs_len f 9) ms
def PlL.ds (p : PlL) : List RuD := p.ls.map RuL.d
def PlL.d (p : PlL) : PlD := ⟨p.mr, p.ma, p.ds⟩
def PlL.cells (p : PlL) : List Value := [.int .i64 p.mr, .int .i64 p.ma, .slice p.ad p.ls.length p.c, .slice p.mad p.ms.length p.mc, .map p.hv, .int .i64 ((sumA p.ds : Nat) : Int)]
open Classical in
/-- The matches that are there, as a map's entries. -/
noncomputable def haveM (ds : List RuD) : Value → Option Value := fun v => if ∃ r ∈ ds, v = mtV r.m then some (.agg #[]) else none
theorem haveM_add (ds : List RuD) (m : Mt) (us : List Ac) : updM (haveM ds) (mtV m) (some (.agg #[])) = haveM (ds ++ [⟨m, us⟩]) := by
  funext v
  by_cases h : v = mtV m
  · subst h
    rw [updM_eq]
    exact (if_pos ⟨_, List.mem_append_right _ (List.mem_singleton.2 rfl), rfl⟩).symm
  · rw [updM_ne _ _ h]
    unfold haveM
    by_cases h2 : ∃ r ∈ ds, v = mtV r.m
    · obtain ⟨r, hr, e⟩ := h2
      rw [if_pos ⟨r, hr, e⟩, if_pos ⟨r, List.mem_append_left _ hr, e⟩]
    · rw [if_neg h2, if_neg]
      rintro ⟨r, hr, e⟩
      rcases List.mem_append.1 hr with hr | hr
      · exact h2 ⟨r, hr, e⟩
      · rw [List.mem_singleton.1 hr] at e; exact h e
theorem haveM_nil : haveM [] = fun _ => none := by
  funext v
  exact if_neg (by simp)
theorem haveM_is {ds : List RuD} {m : Mt} : (haveM ds (mtV m)).isSome = true ↔ ∃ r ∈ ds, m.eqv r.m := by
  unfold haveM
  by_cases h : ∃ r ∈ ds, mtV m = mtV r.m
  · rw [if_pos h]
    obtain ⟨r, hr, e⟩ := h
    exact ⟨fun _ => ⟨r, hr, mtV_iff.1 e⟩, fun _ => rfl⟩
  · rw [if_neg h]
    exact ⟨fun k => (by cases k), fun ⟨r, hr, e⟩ => absurd ⟨r, hr, mtV_iff.2 e⟩ h⟩
theorem haveM_get (ds : List RuD) (v : Value) : (haveM ds v).getD (.agg #[]) = .agg #[] := by
  unfold haveM
  split <;> rfl
section
variable {P : Program} {C : World → Prop} {n : Nat} {o : Oper} {l : Kn}
/-- Is a match there? -/
theorem v_have {t kt et : TypeId} {x xi : Operand} {r : Option Nat} {A : Value} {K : Value → Prop} {es : Array MapEntry} {ds : List RuD} (ho : o.op = .lookup t x xi true) (hx : ev l x = some (.map r)) (hi : ev l xi = some A) (hu : P.underlying t = some (.map kt et)) (hk : KeyP P kt K) (hA : K A) (hz : (P.info? et).bind (·.zero) = some (.agg #[]))
    (hV : ∀ w, C w → MapW w r es) (hM : IMap K es (haveM ds)) : Val P C n l o (.tuple #[.agg #[], .bool (haveM ds A).isSome]) := by
  have := v_lookup2 (C := C) (n := n) ho hx hi hu hk hA hz hV hM
  rwa [haveM_get] at this
end
structure PlL.Ok (p : PlL) : Prop where
  fit : ∀ r ∈ p.ds, r.Fit
  mask : ∀ r ∈ p.ds, ∃ f ∈ p.ms, ∀ k, k < 9 → f k = r.m.mask k
  num : ∀ f ∈ p.ms, ∀ k, 0 ≤ f k ∧ f k ≤ 18446744073709551615
  keys : IMap KMt p.es (haveM p.ds)
/-- A pile that can be read. -/
structure PlR (w : World) (g : Nat) (p : PlL) : Prop where
  row : w.rangeAt g 0 p.cells
  masks : Rg w p.mad (masksL p.ms)
  map : MapW w p.hv p.es
theorem PNew_c (w : World) (mr ma : Int) : Calls Tryz.prog 134 #[.agg #[.int .i64 mr, .int .i64 ma]] w fun e w' => ∃ g, e = .returned (.pointer (some ⟨g, 0, none⟩)) ∧ St (fun _ => False) w w' [.row g (PlL.cells ⟨mr, ma, none, 0, [], none, 0, [], none, #[], 0⟩)] := by
  refine enter Tryz.func134 rfl Tryz.ntmps134 rfl (St.start (fun _ => False) w) ?_
  refine WC.seq <| WC.region <| WL.box rfl rfl rfl (.none rfl) rfl rfl <| ?_
  intro g1 hg1
  refine WL.v (v_assign rfl rfl) rfl <| WL.nt <| WC.seq <| WC.region <| WL.v (v_loadN rfl rfl many_194 rfl allAt) rfl <| WL.v (v_build rfl rfl zero_234 plc_234 rfl) rfl <| WL.box rfl rfl rfl (.none rfl) rfl rfl <| ?_
  intro g5 hg5
  refine WL.v (v_assign rfl rfl) rfl <| WL.nt <| WC.ret <| WE.ret1 (P := Tryz.prog) (.inl rfl) Tryz.results134 rfl <| ?_
  exact fun w' h => ⟨g5, rfl, h.sub (.cons_cons _ (.cons _ (.refl _)))⟩
theorem Vec.srcM {s k c : Nat} {ad : Option Addr} {xs : List Value} {E L : List Ent} (hV : Vec s ad k c xs E) (hm : ∀ e ∈ E, e ∈ L) (hn : 0 < xs.length) : ∃ b o, ad = some ⟨b, o, none⟩ ∧ ∀ (p : Nat → Prop) (w0 w : World), St p w0 w L → w.rangeAt b o xs := by
  rcases hV with ⟨_, _, _, rfl, _⟩ | ⟨g, cs, rfl, rfl, hx, hcl, hk⟩
  · simp at hn
  · refine ⟨g, 0, rfl, fun p w0 w hS j v hj => ?_⟩
    have hR : Row w g cs := hS.holds (.row g cs) (hm _ (List.mem_cons_self ..))
    rw [← hx, List.getElem?_take] at hj
    split at hj
    · rw [Nat.zero_add]; exact hR.cell hj
    · cases hj
/-- A key as it grows. -/
def keyK (m : Mt) (f : Nat → Int) (k : Nat) : Mt := ⟨fun i => if i < k then andN (m.val i) (f i) else 0, f⟩
theorem keyK_set {m : Mt} {f : Nat → Int} {k : Nat} (hk : k < 9) : (mtL (keyK m f k)).set (0 + k * 1) (.int .u64 (andN (m.val k) (f k))) = mtL (keyK m f (k + 1)) := by
  rw [mtL_setVal hk]
  refine mtL_congr fun i hi => ⟨?_, rfl⟩
  show (if i = k then _ else (if i < k then _ else _)) = (if i < k + 1 then _ else _)
  by_cases e : i = k
  · subst e; rw [if_pos rfl, if_pos (by omega)]
  · rw [if_neg e]
    by_cases e2 : i < k
    · rw [if_pos e2, if_pos (by omega)]
    · rw [if_neg e2, if_neg (by omega)]
theorem keyK_in {m : Mt} {f : Nat → Int} (hm : m.In) (hf : ∀ k, 0 ≤ f k ∧ f k ≤ 18446744073709551615) (k : Nat) : (keyK m f k).In :=
  ⟨fun i => by
    show 0 ≤ (if i < k then _ else _) ∧ (if i < k then _ else _) ≤ _
    split
    · exact andN_le (hm.val i).2
    · exact ⟨Int.le_refl _, by decide⟩, hf⟩
theorem over_key {r m : Mt} {f : Nat → Int} (hf : ∀ k, k < 9 → f k = r.mask k) (hn : ∀ k, k < 9 → andNotN (f k) (m.mask k) = 0) : r.over m ↔ (keyK m f 9).eqv r := by
  constructor
  · intro h k hk
    refine ⟨?_, hf k hk⟩
    show (if k < 9 then andN (m.val k) (f k) else 0) = _
    rw [if_pos hk, hf k hk]
    exact (h k hk).2.symm
  · intro h k hk
    refine ⟨by rw [← hf k hk]; exact hn k hk, ?_⟩
    have h1 : (if k < 9 then andN (m.val k) (f k) else 0) = r.val k := (h k hk).1
    rw [if_pos hk, hf k hk] at h1
    exact h1.symm
theorem eqv_symm {a b : Mt} (h : a.eqv b) : b.eqv a := fun k hk => ⟨(h k hk).1.symm, (h k hk).2.symm⟩
set_option maxRecDepth 8000 in
set_option maxHeartbeats 2000000 in
theorem Covers_c (w : World) (g : Nat) (p : PlL) (m : Mt) (hR : PlR w g p) (hO : p.Ok) (hm : m.In) (hn : p.ms.length ≤ 1000000000) :
    Calls Tryz.prog 136 #[.pointer (some ⟨g, 0, none⟩), mtV m] w fun e w' => e = .returned (.bool (decide (covD p.ds m))) ∧ Frm (fun _ => False) w w' := by
  have hK := KMt.mk hm
  refine enter Tryz.func136 rfl Tryz.ntmps136 rfl (St.start (fun _ => False) w) ?_
  refine WC.seq <| WC.region <| WL.box rfl rfl rfl (.none rfl) rfl rfl <| ?_
  intro g3 hg3
  refine WL.v (v_assign rfl rfl) rfl <| WL.nt <| WC.scope <| WC.seq <| WC.seq <| WC.orders mixed <| ?_
  refine WR.first (g := 9) [0, 1, 2] (by kernel_rfl) (by kernel_rfl) ?_
  refine WP.val (v_move rfl rfl) (.none rfl) rfl rfl <| WP.val (v_nilCheck rfl rfl) (.none rfl) rfl rfl <| WP.val (v_fieldAddr0 rfl rfl fld_234_3) (.none rfl) rfl rfl <| WP.nil <| ?_
  refine WR.mix (g := 2) 9 [3, 4, 5, 6, 7] [8] rfl zero_162 rfl rfl rfl (by kernel_rfl) (by kernel_rfl) ?_
  refine WM.val (v_load1 rfl rfl one_232 (cellOld (fun h => h) (hR.row 4 _ rfl))) (.none rfl) rfl rfl <| WM.val (v_loadN rfl rfl many_115 rfl allAt) (.none rfl) rfl rfl <| WM.val (v_have rfl rfl rfl Tryz.underlying232 keyW_115 hK rfl (mapOld (fun _ h => h) hR.map) hO.keys) (.none rfl) rfl rfl <| WM.val (v_move rfl rfl) (.none rfl) rfl rfl <| WM.val (v_extract rfl rfl rfl) (.none rfl) rfl rfl <| WM.nil <| WP.val (v_extract rfl rfl rfl) (.none rfl) rfl rfl <| WP.nilM <| ?_
  intro g5 hg5
  refine WR.ones (g := 1) [10] (by kernel_rfl) ?_
  refine WL.storeW rfl rfl rfl rfl many_162 rfl rfl (.none rfl) rfl <| WL.nilR <| ?_
  refine WR.first (g := 0) [11] (by kernel_rfl) (by kernel_rfl) ?_
  refine WP.val (v_assign rfl rfl) (.none rfl) rfl rfl <| WP.nil <| ?_
  refine WR.done (by kernel_rfl) ?_
  refine WE.then_n <| WC.seq <| WC.region <| WL.v (v_move rfl rfl) rfl <| WL.nt <| ?_
  refine WC.cond_b rfl (fun h23 => ?_) (fun h23 => ?_)
  ·
   refine WC.seq <| WC.region <| WL.v (v_assign rfl rfl) rfl <| WL.nt <| WC.ret <| WE.then_ret <| WE.scope_ret <| WE.ret1 (P := Tryz.prog) (.inl rfl) Tryz.results136 rfl <| ?_
   obtain ⟨r, hr, he⟩ := haveM_is.1 h23
   exact fun w' h => ⟨by rw [decide_eq_true (p := covD p.ds m) ⟨r, hr, .inl (eqv_symm he)⟩], h.frm⟩
  ·
   refine WC.skip <| WE.then_n <| WC.seq <| WC.label <| WE.then_n <| WC.seq <| WC.seq <| WC.region <| ?_
   have hne : ∀ r ∈ p.ds, ¬ r.m.eqv m := fun r hr he => (by
   have := haveM_is.2 ⟨r, hr, eqv_symm he⟩
   cases (h23.symm.trans this))
   refine WL.v (v_move rfl rfl) rfl <| WL.v (v_nilCheck rfl rfl) rfl <| WL.v (v_fieldAddr0 rfl rfl fld_234_2) rfl <| WL.v (v_load1 rfl rfl one_231 (cellOld (fun h => h) (hR.row 3 _ rfl))) rfl <| WL.v (v_len_slice rfl rfl Tryz.underlying231) rfl <| WL.v (v_move rfl rfl) rfl <| WL.nt <| WC.block <| ?_
   refine WC.loop (fun i : Nat => [(29, .int .i64 i), (28, .int .i64 p.ms.length), (27, .slice p.mad p.ms.length p.mc), (3, .pointer (some ⟨g3, 0, none⟩)), (0, .pointer (some ⟨g, 0, none⟩)), (4, .bool false)]) (fun _ => [.row g3 (mtL m)]) (fun i => i ≤ p.ms.length ∧ ∀ j f, j < i → p.ms[j]? = some f → ∀ r ∈ p.ds, (∀ k, k < 9 → f k = r.m.mask k) → ¬ r.m.over m) (fun i => p.ms.length - i) 0 ⟨Nat.zero_le _, fun j f h => absurd h (Nat.not_lt_zero _)⟩ (.cons rfl (.cons rfl (.cons rfl (.cons rfl (.cons rfl (.cons rfl .nil)))))) (by first | exact .refl _ | exact List.Sublist.cons _ (.refl _)) ?_
   rintro i ⟨hi, hno⟩
   refine WC.seq <| WC.region <| ?_
   refine WL.test (v_lss rfl rfl rfl) (.none rfl) rfl rfl (fun h30 => ?_) (fun h30 => ?_)
   ·
    refine WL.nt <| WC.seq <| WC.cond_t rfl <| WC.skip <| WE.then_n <| WC.seq <| WC.block <| WC.seq <| WC.region <| ?_
    obtain ⟨f, hfi⟩ : ∃ x, p.ms[i]? = some x := ⟨p.ms[i]'(by omega), List.getElem?_eq_getElem _⟩
    have hfn := hO.num f (List.mem_of_getElem? hfi)
    obtain ⟨b1, o1, ea1, r1⟩ := hR.masks (by intro hh; have := masksL_len p.ms; rw [hh] at this; simp at this; omega)
    refine WL.v ((v_indexAddr (b := b1) (off := o1) (lo := i) rfl (by show some (Value.slice p.mad _ _) = _; rw [ea1]) rfl Tryz.underlying231 sz_108 rfl (by omega))) rfl ?_
    refine WL.v (v_loadN (cs := ucs f 9) rfl rfl many_108 (ucs_len f 9) (rgIn (fun h => h) (Rg.seg (fun f => ucs_len f 9) r1 hfi))) rfl <| WL.alloc rfl zero_108 (.none rfl) rfl rfl <| ?_
    intro g8 hg8
    refine WL.storeW rfl rfl rfl rfl many_108 rfl rfl (.none rfl) rfl <| WL.nt <| WC.seq <| WC.region <| WL.v (v_loadN rfl rfl many_108 rfl allAt) rfl <| WL.v (v_build rfl rfl zero_115 plc_115 rfl) rfl <| WL.alloc rfl zero_115 (.none rfl) rfl rfl <| ?_
    intro g9 hg9
    refine WL.storeW rfl rfl rfl rfl many_115 rfl rfl (.none rfl) rfl ?_
    refine WL.as (L' := [.row g9 (mtL (keyK m f 0)), .row g8 (ucs f 9), .row g3 (mtL m)]) (by first | rfl | kernel_rfl) ?_
    refine WL.nt <| WC.seq <| WC.seq <| WC.region <| WL.v (v_loadN rfl rfl many_108 rfl allAt) rfl <| WL.v (v_move rfl rfl) rfl <| WL.nt <| WC.block <| WC.loop (fun k : Nat => [(36, .int .i64 k), (35, .agg (ucs f 9).toArray), (9, .pointer (some ⟨g9, 0, none⟩)), (29, .int .i64 i), (28, .int .i64 p.ms.length), (27, .slice p.mad p.ms.length p.mc), (3, .pointer (some ⟨g3, 0, none⟩)), (0, .pointer (some ⟨g, 0, none⟩)), (4, .bool false)]) (fun k => [.row g9 (mtL (keyK m f k)), .row g8 (ucs f 9), .row g3 (mtL m)]) (fun k => k ≤ 9 ∧ ∀ j, j < k → andNotN (f j) (m.mask j) = 0) (fun k => 9 - k) 0 ⟨Nat.zero_le _, fun j h => absurd h (Nat.not_lt_zero _)⟩ (.cons rfl (.cons rfl (.cons rfl (.cons rfl (.cons rfl (.cons rfl (.cons rfl (.cons rfl (.cons rfl .nil))))))))) (.refl _) <| ?_
    rintro k ⟨hk, hz⟩
    refine WC.seq <| WC.region <| ?_
    refine WL.test (v_lss rfl rfl rfl) (.none rfl) rfl rfl (fun h37 => ?_) (fun h37 => ?_)
    ·
     refine WL.nt <| WC.seq <| WC.cond_t rfl <| WC.skip <| WE.then_n <| WC.seq <| WC.block <| WC.seq <| WC.region <| WL.v (v_move rfl rfl) rfl <| ?_
     refine WL.v (v_indexV (lo := k) rfl rfl rfl Tryz.underlying108 one_23 (by omega) (by omega) (ucs_get f (by omega))) rfl ?_
     refine WL.v (v_assign rfl rfl) rfl <| WL.v (v_assign rfl rfl) rfl <| WL.nt <| WC.seq <| WC.seq <| WC.region <| WL.v (v_move rfl rfl) rfl <| WL.v (v_move rfl rfl) rfl <| WL.v (v_fieldAddr0 rfl rfl fld_115_1) rfl <| ?_
     refine WL.v (v_indexAddrA (lo := k) rfl rfl rfl Tryz.underlying108 sz_23 (by omega) (by omega)) rfl ?_
     refine WL.v (v_load1 rfl rfl one_23 (cellAt (mtL_mask m (by omega)))) rfl ?_
     refine WL.v (v_andNot rfl rfl rfl (bits_andNot_u64 (hfn k).1 (hfn k).2 (hm.mask k).1 (hm.mask k).2)) rfl ?_
     refine WL.test (v_neq rfl rfl rfl) (.none rfl) rfl rfl (fun h46 => ?_) (fun h46 => ?_)
     ·
      refine WL.nt <| WC.cond_t rfl <| WC.exit <| WE.then_exit <| WE.block_miss rfl <| WE.then_exit <| WE.then_exit <| WE.block_miss rfl <| WE.then_exit <| WE.block_hit <| WE.then_n <| WC.region <| ?_
      refine WL.v (v_add rfl rfl rfl (w_i64 (by omega) (by omega))) rfl ?_
      refine WL.v (v_move rfl rfl) rfl <| WL.nil <| ?_
      exact WE.next (i + 1) (by omega) ⟨by omega, fun j f2 hj hf2 r hr hq hov => by
      by_cases e : j = i
      · subst e
        rw [hfi] at hf2
        cases hf2
        have := (hov k (by omega)).1
        rw [← hq k (by omega)] at this
        exact h46 this
      · exact hno j f2 (by omega) hf2 r hr hq hov⟩ (.int rfl (by omega) (.cons rfl (.cons rfl (.cons rfl (.cons rfl (.cons rfl .nil)))))) (.cons _ (.cons _ (.refl _)))
     ·
      refine WL.nt <| WC.cond_f rfl <| WC.skip <| WE.then_n <| WC.region <| WL.v (v_move rfl rfl) rfl <| WL.v (v_move rfl rfl) rfl <| WL.v (v_fieldAddr0 rfl rfl fld_115_0) rfl <| ?_
      refine WL.v (v_indexAddrA (lo := k) rfl rfl rfl Tryz.underlying108 sz_23 (by omega) (by omega)) rfl ?_
      refine WL.v (v_load1 rfl rfl one_23 (cellAt (mtL_val m (by omega)))) rfl ?_
      refine WL.v (v_move rfl rfl) rfl <| WL.v (v_and rfl rfl rfl (bits_and_u64 (hm.val k).1 (hm.val k).2 (hfn k).1 (hfn k).2)) rfl <| WL.v (v_fieldAddr0 rfl rfl fld_115_0) rfl <| ?_
      refine WL.v (v_indexAddrA (lo := k) rfl rfl rfl Tryz.underlying108 sz_23 (by omega) (by omega)) rfl ?_
      refine WL.store1 rfl rfl rfl rfl one_23 (by rw [mtL_len]; omega) (.none rfl) rfl ?_
      refine WL.nil <| WE.block_n <| WE.then_n <| WC.region <| ?_
      refine WL.v (v_add rfl rfl rfl (w_i64 (by omega) (by omega))) rfl ?_
      refine WL.v (v_move rfl rfl) rfl <| WL.nil <| ?_
      refine WE.as (L' := [.row g9 (mtL (keyK m f (k + 1))), .row g8 (ucs f 9), .row g3 (mtL m)]) (by rw [← keyK_set (by omega)]) (WE.next (k + 1) (by omega) ⟨by omega, fun j hj => by
      by_cases e : j = k
      · subst e; exact Classical.not_not.1 h46
      · exact hz j (by omega)⟩ (.int rfl (by omega) (.cons rfl (.cons rfl (.cons rfl (.cons rfl (.cons rfl (.cons rfl (.cons rfl (.cons rfl .nil))))))))) (.refl _))
    ·
     refine WL.nt <| WC.seq <| WC.cond_f rfl <| WC.exit <| WE.then_exit <| WE.then_exit <| WE.block_hit <| WE.then_n <| WC.seq <| WC.orders mixed <| ?_
     refine WR.first (g := 9) [0, 1, 2] (by kernel_rfl) (by kernel_rfl) ?_
     obtain rfl : k = 9 := (by omega)
     have hK2 := KMt.mk (keyK_in hm hfn 9)
     refine WP.val (v_move rfl rfl) (.none rfl) rfl rfl <| WP.val (v_nilCheck rfl rfl) (.none rfl) rfl rfl <| WP.val (v_fieldAddr0 rfl rfl fld_234_3) (.none rfl) rfl rfl <| WP.nil <| ?_
     refine WR.mix (g := 2) 9 [3, 4, 5, 6, 7] [8] rfl zero_162 rfl rfl rfl (by kernel_rfl) (by kernel_rfl) ?_
     refine WM.val (v_load1 rfl rfl one_232 (cellOld (fun h => h) (hR.row 4 _ rfl))) (.none rfl) rfl rfl <| WM.val (v_loadN rfl rfl many_115 rfl allAt) (.none rfl) rfl rfl <| WM.val (v_have rfl rfl rfl Tryz.underlying232 keyW_115 hK2 rfl (mapOld (fun _ h => h) hR.map) hO.keys) (.none rfl) rfl rfl <| WM.val (v_move rfl rfl) (.none rfl) rfl rfl <| WM.val (v_extract rfl rfl rfl) (.none rfl) rfl rfl <| WM.nil <| WP.val (v_extract rfl rfl rfl) (.none rfl) rfl rfl <| WP.nilM <| ?_
     intro g12 hg12
     refine WR.ones (g := 1) [10] (by kernel_rfl) ?_
     refine WL.storeW rfl rfl rfl rfl many_162 rfl rfl (.none rfl) rfl <| WL.nilR <| ?_
     refine WR.first (g := 0) [11] (by kernel_rfl) (by kernel_rfl) ?_
     refine WP.val (v_assign rfl rfl) (.none rfl) rfl rfl <| WP.nil <| ?_
     refine WR.done (by kernel_rfl) ?_
     refine WE.then_n <| WC.seq <| WC.region <| WL.v (v_move rfl rfl) rfl <| WL.nt <| ?_
     refine WC.cond_b rfl (fun h66 => ?_) (fun h66 => ?_)
     ·
      refine WC.seq <| WC.region <| WL.v (v_assign rfl rfl) rfl <| WL.nt <| WC.ret <| WE.block_ret <| WE.then_ret <| WE.then_ret <| WE.block_ret <| WE.then_ret <| WE.scope_ret <| WE.ret1 (P := Tryz.prog) (.inl rfl) Tryz.results136 rfl <| ?_
      obtain ⟨r, hr, he⟩ := haveM_is.1 h66
      have hq : ∀ k, k < 9 → f k = r.m.mask k := fun k hk => (he k hk).2
      exact fun w' h => ⟨by rw [decide_eq_true (p := covD p.ds m) ⟨r, hr, .inr ((over_key hq hz).2 he)⟩], h.frm⟩
     ·
      refine WC.skip <| WE.block_n <| WE.then_n <| WC.region <| ?_
      refine WL.v (v_add rfl rfl rfl (w_i64 (by omega) (by omega))) rfl ?_
      refine WL.v (v_move rfl rfl) rfl <| WL.nil <| ?_
      exact WE.next (i + 1) (by omega) ⟨by omega, fun j f2 hj hf2 r hr hq hov => by
      by_cases e : j = i
      · subst e
        rw [hfi] at hf2
        cases hf2
        have := haveM_is.2 ⟨r, hr, (over_key hq hz).1 hov⟩
        cases (h66.symm.trans this)
      · exact hno j f2 (by omega) hf2 r hr hq hov⟩ (.int rfl (by omega) (.cons rfl (.cons rfl (.cons rfl (.cons rfl (.cons rfl .nil)))))) (by first | exact .cons _ (.cons _ (.refl _)) | exact .cons _ (.cons _ (.cons _ (.refl _))))
   ·
    refine WL.nt <| WC.seq <| WC.cond_f rfl <| WC.exit <| WE.then_exit <| WE.then_exit <| WE.block_hit <| WE.then_n <| WC.seq <| WC.region <| WL.v (v_assign rfl rfl) rfl <| WL.nt <| WC.ret <| WE.scope_ret <| ?_
    refine WE.ret1 (P := Tryz.prog) (.inl rfl) Tryz.results136 rfl ?_
    exact fun w' h => ⟨by
    rw [decide_eq_false]
    rintro ⟨r, hr, he | ho⟩
    · exact hne r hr he
    · obtain ⟨f, hf, hq⟩ := hO.mask r hr
      obtain ⟨j, hj⟩ := List.mem_iff_getElem?.1 hf
      have := (List.getElem?_eq_some_iff.1 hj).1
      exact hno j f (by omega) hj r hr hq ho, h.frm⟩
end Go.Proofs.YtkeonnnhogaggaaGreatDoor
/- pile.Pile.Add: a rule more. -/
namespace Go.Proofs.YtkeonnnhogaggaaGreatDoor
open Go.RowKit

/-- A pile and the blocks in which it lies: its rules, its masks, its map, the rules' acts. -/
structure PlAt (p : PlL) (E Em H K : List Ent) : Prop where
  out : Vec 19 p.ad p.ls.length p.c (rulesL p.ls) E
  masks : Vec 9 p.mad p.ms.length p.mc (masksL p.ms) Em
  map : (p.hv = none ∧ p.es = #[] ∧ H = []) ∨ ∃ gm, p.hv = some gm ∧ H = [.obj gm (.map p.es p.cl)]
  own : ∀ r ∈ p.ls, RuOwn K r
  ok : p.Ok
  room : p.ms.length ≤ p.ls.length ∧ (p.ls.length : Int) ≤ p.mr ∧ p.mr ≤ 4194304 ∧ ((sumA p.ds : Nat) : Int) ≤ p.ma ∧ p.ma ≤ 16777216
theorem PlAt.r {p : PlL} {E Em H K L : List Ent} {g : Nat} (h : PlAt p E Em H K) {q : Nat → Prop} {w0 w : World} (hS : St q w0 w L) (h0 : Ent.row g p.cells ∈ L) (h1 : ∀ e ∈ Em, e ∈ L) (h2 : ∀ e ∈ H, e ∈ L) : PlR w g p :=
  ⟨fun j v hj => by rw [Nat.zero_add]; exact (show Row w g p.cells from hS.holds _ h0).cell hj, h.masks.rg fun e he => hS.holds e (h1 e he), by
    rcases h.map with ⟨e1, e2, -⟩ | ⟨gm, e1, e2⟩
    · exact .inl ⟨e1, e2⟩
    · exact .inr ⟨gm, p.cl, e1, (hS.holds (.obj gm (.map p.es p.cl)) (h2 _ (by rw [e2]; exact List.mem_singleton.2 rfl))).1⟩⟩
theorem PlAt.new (mr ma : Int) (h : 0 ≤ mr ∧ mr ≤ 4194304) (h2 : 0 ≤ ma ∧ ma ≤ 16777216) : PlAt ⟨mr, ma, none, 0, [], none, 0, [], none, #[], 0⟩ [] [] [] [] :=
  ⟨Vec.nil 19, Vec.nil 9, .inl ⟨rfl, rfl, rfl⟩, fun r h => (by cases h), ⟨fun r h => (by cases h), fun r h => (by cases h), fun r h => (by cases h), by
    show IMap KMt #[] (haveM [])
    rw [haveM_nil]
    exact IMap.empty _⟩, Nat.le_refl _, h.1, h.2, h2.1, h2.2⟩
theorem RuOwn.more {K K' : List Ent} {r : RuL} (h : RuOwn K r) : RuOwn (K' ++ K) r := h.sub fun _ hx => List.mem_append_right _ hx
structure AdS where
  gm : Nat
  es : Array MapEntry
  cl : Nat
structure AdU where
  ad : Option Addr
  c : Nat
  E : List Ent
structure AdT where
  mad : Option Addr
  mc : Nat
  ms : List (Nat → Int)
  Em : List Ent
def addC (p : PlL) (gm : Nat) : List Value := [.int .i64 p.mr, .int .i64 p.ma, .slice p.ad p.ls.length p.c, .slice p.mad p.ms.length p.mc, .map (some gm), .int .i64 ((sumA p.ds : Nat) : Int)]
def addC2 (p : PlL) (gm : Nat) (mad : Option Addr) (mn mc : Nat) : List Value := [.int .i64 p.mr, .int .i64 p.ma, .slice p.ad p.ls.length p.c, .slice mad mn mc, .map (some gm), .int .i64 ((sumA p.ds : Nat) : Int)]
set_option maxRecDepth 8000 in
set_option maxHeartbeats 4000000 in
theorem Add_c {q : Nat → Prop} {w0 w : World} {L E Em H K : List Ent} (g : Nat) (p : PlL) (m : Mt) (aad : Option Addr) (ac : Nat) (us : List Ac) (hA : PlAt p E Em H K) (hS : St q w0 w (.row g p.cells :: (E ++ (Em ++ (H ++ (K ++ L)))))) (hm : m.In) (hz : m.Nz) (hu : ∀ w, St q w0 w (.row g p.cells :: (E ++ (Em ++ (H ++ (K ++ L))))) → Rg w aad (actsL us)) (hus : ∀ a ∈ us, a.In ∧ a.Nz ∧ a.Ok) (hn : us.length ≤ 100000) :
    Calls Tryz.prog 137 #[.pointer (some ⟨g, 0, none⟩), mtV m, .slice aad us.length ac] w fun e w' => ∃ (b : Bool) (p' : PlL) (E' Em' H' K' : List Ent), e = .returned (.bool b) ∧ (b = true → p.d.add m us = some p'.d) ∧ (b = false → p.d.add m us = none ∧ p'.d = p.d) ∧ PlAt p' E' Em' H' K' ∧ St q w0 w' (.row g p'.cells :: (E' ++ (Em' ++ (H' ++ (K' ++ L))))) := by
  obtain ⟨rm1, rm2, rm3, rm4, rm5⟩ := hA.room
  have hK := KMt.mk hm
  refine enter Tryz.func137 rfl Tryz.ntmps137 rfl hS ?_
  refine WC.seq <| WC.region <| WL.box rfl rfl rfl (.none rfl) rfl rfl <| ?_
  intro g4 hg4
  refine WL.v (v_assign rfl rfl) rfl <| WL.nt <| WC.seq <| WC.region <| WL.v (v_move rfl rfl) rfl <| WL.call rfl rfl ck_49 (.none rfl) rfl rfl <| ?_
  intro w1 hS
  refine (Norm_c w1 aad ac us (hu w1 hS.tail) (fun a ha => (hus a ha).2.1) hn).mono ?_
  rintro e w' ⟨adn, cn, En, ys, rfl, hP, hyl, hVn, hS'⟩
  have hys : normF us = ys := normF_of (fun a ha => (hus a ha).2.1) hP
  have hdl : (p.d.out.length : Int) = p.ls.length := (by show ((p.ls.map RuL.d).length : Int) = _; rw [List.length_map])
  refine ⟨_, _, rfl, hS.join hS', ?_⟩
  refine WL.v (v_assign rfl rfl) rfl <| WL.nt <| WC.seq <| WC.seq <| ?_
  refine WC.quiet mixed (by kernel_rfl) ?_
  refine WQ.val (v_move rfl rfl) (.none rfl) rfl rfl <| WQ.val (v_nilCheck rfl rfl) (.none rfl) rfl rfl <| WQ.val (v_fieldAddr0 rfl rfl fld_234_1) (.none rfl) rfl rfl <| WQ.val (v_load1 rfl rfl one_34 (cellAt (v := .slice p.ad p.ls.length p.c) rfl)) (.none rfl) rfl rfl <| WQ.val (v_len_slice rfl rfl Tryz.underlying34) (.none rfl) rfl rfl <| WQ.val (v_move rfl rfl) (.none rfl) rfl rfl <| WQ.val (v_nilCheck rfl rfl) (.none rfl) rfl rfl <| WQ.val (v_fieldAddr0 rfl rfl fld_234_0) (.none rfl) rfl rfl <| WQ.val (v_fieldAddr0 rfl rfl fld_194_0) (.none rfl) rfl rfl <| WQ.val (v_load1 rfl rfl one_3 (cellAt (v := .int .i64 p.mr) rfl)) (.none rfl) rfl rfl <| ?_
  refine WQ.test (v_geq rfl rfl rfl) (.none rfl) rfl rfl (fun h22 => ?_) (fun h22 => ?_)
  ·
   refine WQ.val (v_move rfl rfl) (.none rfl) rfl rfl ?_
   iterate 13 refine WQ.skip rfl rfl rfl rfl rfl rfl ?_
   refine WQ.val (v_pick_t rfl rfl rfl) (.none rfl) rfl rfl <| WQ.nil <| WE.then_n <| WC.cond_t rfl <| WC.seq <| WC.region <| WL.v (v_assign rfl rfl) rfl <| WL.nt <| WC.ret <| WE.then_ret <| WE.ret1 (P := Tryz.prog) (.inl rfl) Tryz.results137 rfl <| ?_
   have hno : p.d.add m us = none := (by unfold PlD.add; exact if_pos (.inl (by show (p.d.out.length : Int) ≥ p.mr; omega)))
   exact fun w' h => ⟨false, p, E, Em, H, En ++ K, rfl, fun k => (by cases k), fun _ => ⟨hno, rfl⟩, ⟨hA.out, hA.masks, hA.map, fun r hr => (hA.own r hr).more, hA.ok, hA.room⟩, h.dropX [.row g4 (mtL m)]⟩
  ·
   refine WQ.val (v_move rfl rfl) (.none rfl) rfl rfl <| WQ.val (v_move rfl rfl) (.some rfl rfl rfl) rfl rfl <| WQ.val (v_nilCheck rfl rfl) (.some rfl rfl rfl) rfl rfl <| WQ.val (v_fieldAddr0 rfl rfl fld_234_4) (.some rfl rfl rfl) rfl rfl <| WQ.val (v_load1 rfl rfl one_3 (cellAt (v := .int .i64 ((sumA p.ds : Nat) : Int)) rfl)) (.some rfl rfl rfl) rfl rfl <| WQ.val (v_move rfl rfl) (.some rfl rfl rfl) rfl rfl <| WQ.val (v_len_slice rfl rfl Tryz.underlying113) (.some rfl rfl rfl) rfl rfl <| ?_
   refine WQ.val (v_add rfl rfl rfl (w_i64 (by omega) (by omega))) (.some rfl rfl rfl) rfl rfl ?_
   refine WQ.val (v_move rfl rfl) (.some rfl rfl rfl) rfl rfl <| WQ.val (v_nilCheck rfl rfl) (.some rfl rfl rfl) rfl rfl <| WQ.val (v_fieldAddr0 rfl rfl fld_234_0) (.some rfl rfl rfl) rfl rfl <| WQ.val (v_fieldAddr0 rfl rfl fld_194_1) (.some rfl rfl rfl) rfl rfl <| WQ.val (v_load1 rfl rfl one_3 (cellAt (v := .int .i64 p.ma) rfl)) (.some rfl rfl rfl) rfl rfl <| ?_
   refine WQ.test (v_gtr rfl rfl rfl) (.some rfl rfl rfl) rfl rfl (fun h36 => ?_) (fun h36 => ?_)
   ·
    refine WQ.val (v_pick_f rfl rfl rfl) (.none rfl) rfl rfl <| WQ.nil <| WE.then_n <| WC.cond_t rfl <| WC.seq <| WC.region <| WL.v (v_assign rfl rfl) rfl <| WL.nt <| WC.ret <| WE.then_ret <| WE.ret1 (P := Tryz.prog) (.inl rfl) Tryz.results137 rfl <| ?_
    have hno : p.d.add m us = none := (by unfold PlD.add; rw [hys]; exact if_pos (.inr (by show ((sumA p.ds : Nat) : Int) + (ys.length : Int) > p.ma; omega)))
    exact fun w' h => ⟨false, p, E, Em, H, En ++ K, rfl, fun k => (by cases k), fun _ => ⟨hno, rfl⟩, ⟨hA.out, hA.masks, hA.map, fun r hr => (hA.own r hr).more, hA.ok, hA.room⟩, h.dropX [.row g4 (mtL m)]⟩
   ·
    refine WQ.val (v_pick_f rfl rfl rfl) (.none rfl) rfl rfl <| WQ.nil <| WE.then_n <| WC.cond_f rfl <| WC.skip <| WE.then_n <| ?_
    refine WC.cut (fun _ : AdS => [(0, .pointer (some ⟨g, 0, none⟩)), (4, .pointer (some ⟨g4, 0, none⟩)), (2, .slice adn ys.length cn), (6, .bool false)]) (fun x => .row g (addC p x.gm) :: .obj x.gm (.map x.es x.cl) :: .row g4 (mtL m) :: (En ++ (E ++ (Em ++ (K ++ L))))) (fun x => IMap KMt x.es (haveM p.ds)) ?_ ?_
    ·
     refine WC.seq <| WC.region <| WL.v (v_move rfl rfl) rfl <| WL.v (v_nilCheck rfl rfl) rfl <| WL.v (v_fieldAddr0 rfl rfl fld_234_3) rfl <| ?_
     obtain ⟨b42, hb42⟩ : ∃ b, p.hv.isNone = b := ⟨_, rfl⟩
     refine WL.v (v_load1 rfl rfl one_232 (cellAt (v := .map p.hv) rfl)) rfl ?_
     refine WL.v (v_eql_nil b42 rfl rfl Tryz.underlying232 (by rw [← hb42]; rfl)) rfl ?_
     cases b42
     ·
      refine WL.nt <| WC.cond_f rfl <| WC.skip <| ?_
      rcases hA.map with ⟨hq, -, -⟩ | ⟨gm, hq, hH⟩
      · rw [hq] at hb42; cases hb42
      · subst hH
        refine WE.to (L' := .row g (addC p gm) :: .obj gm (.map p.es p.cl) :: .row g4 (mtL m) :: (En ++ (E ++ (Em ++ (K ++ L))))) (fun w hS => ?_) (WE.mid ⟨gm, p.es, p.cl⟩ hA.ok.keys (.cons rfl (.cons rfl (.cons rfl (.cons rfl .nil)))) (.refl _))
        have e : addC p gm = p.cells := (by unfold addC PlL.cells; rw [hq])
        rw [e]
        exact hS.permX
     ·
      refine WL.nt <| WC.cond_t rfl <| WC.region <| WL.v (v_move rfl rfl) rfl <| WL.makeMap rfl (.none rfl) rfl rfl <| ?_
      intro g44 hg44
      refine WL.v (v_nilCheck rfl rfl) rfl <| WL.v (v_fieldAddr0 rfl rfl fld_234_3) rfl <| WL.store1 rfl rfl rfl rfl one_232 (Nat.le_of_ble_eq_true rfl) (.none rfl) rfl <| WL.nil <| ?_
      have hh : p.hv = none := (by cases h : p.hv with | none => rfl | some x => rw [h] at hb42; cases hb42)
      rcases hA.map with ⟨-, he, hH⟩ | ⟨gm, hq, -⟩
      · have hk := hA.ok.keys
        rw [he] at hk
        subst hH
        refine WE.to (L' := .row g (addC p g44) :: .obj g44 (.map #[] 0) :: .row g4 (mtL m) :: (En ++ (E ++ (Em ++ (K ++ L))))) (fun w hS => ?_) (WE.mid ⟨g44, #[], 0⟩ hk (.cons rfl (.cons rfl (.cons rfl (.cons rfl .nil)))) (.refl _))
        exact St.permX (L := .obj g44 (.map #[] 0) :: (En ++ (.row g4 (mtL m) :: .row g (addC p g44) :: (E ++ (Em ++ ([] ++ (K ++ L))))))) hS
      · rw [hh] at hq; cases hq
    ·
     rintro ⟨gm, es, cl⟩ hM
     dsimp only at hM
     dsimp only
     have hyes : p.d.add m us = some ⟨p.mr, p.ma, p.ds ++ [⟨m, ys⟩]⟩ := (by
       unfold PlD.add
       rw [hys]
       exact if_neg (fun k => by
         rcases k with k | k
         · have k : (p.d.out.length : Int) ≥ p.mr := k
           omega
         · have k : ((sumA p.ds : Nat) : Int) + (ys.length : Int) > p.ma := k
           omega))
     refine WC.seq <| WC.region <| WL.v (v_assign rfl rfl) rfl <| WL.nt <| ?_
     refine WC.cut (fun b : Bool => [(7, .bool b), (0, .pointer (some ⟨g, 0, none⟩)), (4, .pointer (some ⟨g4, 0, none⟩)), (2, .slice adn ys.length cn), (6, .bool false)]) (fun _ => .row g (addC p gm) :: .obj gm (.map es cl) :: .row g4 (mtL m) :: (En ++ (E ++ (Em ++ (K ++ L))))) (fun b => b = false → ∃ f ∈ p.ms, ∀ k, k < 9 → f k = m.mask k) ?_ ?_
     ·
      refine WC.seq <| WC.region <| WL.v (v_move rfl rfl) rfl <| WL.v (v_nilCheck rfl rfl) rfl <| WL.v (v_fieldAddr0 rfl rfl fld_234_2) rfl <| WL.v (v_load1 rfl rfl one_231 (cellAt (v := .slice p.mad p.ms.length p.mc) rfl)) rfl <| WL.v (v_len_slice rfl rfl Tryz.underlying231) rfl <| WL.v (v_move rfl rfl) rfl <| WL.nt <| WC.block <| WC.loop (fun i : Nat => [(52, .int .i64 i), (51, .int .i64 p.ms.length), (50, .slice p.mad p.ms.length p.mc), (7, .bool true), (0, .pointer (some ⟨g, 0, none⟩)), (4, .pointer (some ⟨g4, 0, none⟩)), (2, .slice adn ys.length cn), (6, .bool false)]) (fun _ => .row g (addC p gm) :: .obj gm (.map es cl) :: .row g4 (mtL m) :: (En ++ (E ++ (Em ++ (K ++ L))))) (fun i => i ≤ p.ms.length) (fun i => p.ms.length - i) 0 (Nat.zero_le _) (.cons rfl (.cons rfl (.cons rfl (.cons rfl (.cons rfl (.cons rfl (.cons rfl (.cons rfl .nil)))))))) (.refl _) <| ?_
      intro i hi
      refine WC.seq <| WC.region <| ?_
      refine WL.test (v_lss rfl rfl rfl) (.none rfl) rfl rfl (fun h53 => ?_) (fun h53 => ?_)
      ·
       refine WL.nt <| WC.seq <| WC.cond_t rfl <| WC.skip <| WE.then_n <| WC.seq <| WC.block <| WC.seq <| WC.region <| ?_
       obtain ⟨f, hfi⟩ : ∃ x, p.ms[i]? = some x := ⟨p.ms[i]'(by omega), List.getElem?_eq_getElem _⟩
       obtain ⟨b1, o1, ea1, q1⟩ := hA.masks.srcM (L := .row g (addC p gm) :: .obj gm (.map es cl) :: .row g4 (mtL m) :: (En ++ (E ++ (Em ++ (K ++ L))))) (fun e he => by simp [he]) (by rw [masksL_len]; omega)
       obtain ⟨b59, hbe⟩ : ∃ c : Bool, c = true ↔ ucs f 9 = ucs m.mask 9 := ⟨@decide _ (Classical.propDecidable _), @decide_eq_true_iff _ (Classical.propDecidable _)⟩
       refine WL.v ((v_indexAddr (b := b1) (off := o1) (lo := i) rfl (by show some (Value.slice p.mad _ _) = _; rw [ea1]) rfl Tryz.underlying231 sz_108 rfl (by omega))) rfl ?_
       refine WL.v (v_loadN (cs := ucs f 9) rfl rfl many_108 (ucs_len f 9) (fun w' hS' => Rg.seg (fun f => ucs_len f 9) (q1 _ _ w' hS') hfi)) rfl <| WL.alloc rfl zero_108 (.none rfl) rfl rfl <| ?_
       intro g9 hg9
       refine WL.storeW rfl rfl rfl rfl many_108 rfl rfl (.none rfl) rfl <| WL.nt <| WC.seq <| WC.region <| WL.v (v_loadN rfl rfl many_108 rfl allAt) rfl <| WL.v (v_fieldAddr0 rfl rfl fld_115_1) rfl <| WL.v (v_loadN rfl rfl many_108 rfl (segAt (g := g4) (m := 9) (new := ucs m.mask 9) rfl)) rfl <| ?_
       refine WL.v (v_eql_aggD (b := b59) rfl rfl rfl eqk_108 eqg_108 (by first | rfl | (show (ucs f 9).length = 9; exact ucs_len f 9)) (by first | rfl | (show (ucs m.mask 9).length = 9; exact ucs_len m.mask 9)) hbe) rfl ?_
       cases b59
       ·
        refine WL.nt <| WC.cond_f rfl <| WC.skip <| WE.block_n <| WE.then_n <| WC.region <| ?_
        refine WL.v (v_add rfl rfl rfl (w_i64 (by omega) (by omega))) rfl ?_
        refine WL.v (v_move rfl rfl) rfl <| WL.nil <| ?_
        exact WE.next (i + 1) (by omega) (by omega) (.int rfl (by omega) (.cons rfl (.cons rfl (.cons rfl (.cons rfl (.cons rfl (.cons rfl (.cons rfl .nil)))))))) (.cons _ (.refl _))
       ·
        refine WL.nt <| WC.cond_t rfl <| WC.seq <| WC.region <| WL.v (v_assign rfl rfl) rfl <| WL.nt <| WC.exit <| WE.block_miss rfl <| WE.then_exit <| WE.then_exit <| WE.block_hit <| ?_
        exact WE.mid false (fun _ => ⟨f, List.mem_of_getElem? hfi, fun k hk => (by
        have h := hbe.1 rfl
        have h2 := congrArg (fun l => l[k]?) h
        have h2 : (ucs f 9)[k]? = (ucs m.mask 9)[k]? := h2
        rw [ucs_get f hk, ucs_get m.mask hk] at h2
        injection h2 with h2
        injection h2)⟩) (.cons rfl (.cons rfl (.cons rfl (.cons rfl (.cons rfl .nil))))) (.cons _ (.refl _))
      ·
       refine WL.nt <| WC.seq <| WC.cond_f rfl <| WC.exit <| WE.then_exit <| WE.then_exit <| WE.block_hit <| ?_
       exact WE.mid true (fun k => (by cases k)) (.cons rfl (.cons rfl (.cons rfl (.cons rfl (.cons rfl .nil))))) (.refl _)
     ·
      intro fr hfr
      refine WC.cut (fun _ : AdT => [(0, .pointer (some ⟨g, 0, none⟩)), (4, .pointer (some ⟨g4, 0, none⟩)), (2, .slice adn ys.length cn), (6, .bool false)]) (fun x => .row g (addC2 p gm x.mad x.ms.length x.mc) :: .obj gm (.map es cl) :: .row g4 (mtL m) :: (En ++ (E ++ (x.Em ++ (K ++ L))))) (fun x => Vec 9 x.mad x.ms.length x.mc (masksL x.ms) x.Em ∧ x.ms.length ≤ p.ms.length + 1 ∧ (∀ f ∈ p.ms, f ∈ x.ms) ∧ (∃ f ∈ x.ms, ∀ k, k < 9 → f k = m.mask k) ∧ ∀ f ∈ x.ms, ∀ k, 0 ≤ f k ∧ f k ≤ 18446744073709551615) ?_ ?_
      ·
       refine WC.seq <| WC.region <| WL.v (v_move rfl rfl) rfl <| ?_
       skip
       cases fr
       ·
        refine WL.nt <| WC.cond_f rfl <| WC.skip <| ?_
        exact WE.mid ⟨p.mad, p.mc, p.ms, Em⟩ ⟨hA.masks, Nat.le_succ _, fun f h => h, hfr rfl, hA.ok.num⟩ (.cons rfl (.cons rfl (.cons rfl (.cons rfl .nil)))) (.refl _)
       ·
        refine WL.nt <| WC.cond_t rfl <| WC.orders mixed <| ?_
        refine WR.first (g := 7) [0, 1, 2, 3, 5] (by kernel_rfl) (by kernel_rfl) ?_
        refine WP.val (v_move rfl rfl) (.none rfl) rfl rfl <| WP.val (v_move rfl rfl) (.none rfl) rfl rfl <| WP.val (v_nilCheck rfl rfl) (.none rfl) rfl rfl <| WP.val (v_fieldAddr0 rfl rfl fld_234_2) (.none rfl) rfl rfl <| WP.val (v_fieldAddr0 rfl rfl fld_115_1) (.none rfl) rfl rfl <| WP.nil <| ?_
        refine WR.each (g := 6) [4, 6] (by kernel_rfl) (by decide) ?_
        refine ⟨?_, ?_⟩
        ·
         refine WL.v (v_load1 rfl rfl one_231 (cellAt (v := .slice p.mad p.ms.length p.mc) rfl)) rfl <| WL.nilR <| ?_
         refine WR.read (g := 5) [6] (by kernel_rfl) (by kernel_rfl) (by kernel_rfl) (by kernel_rfl) rfl ?_
         refine WQ.val (v_loadN rfl rfl many_108 rfl (segAt (g := g4) (m := 9) (new := ucs m.mask 9) rfl)) (.none rfl) rfl rfl <| WQ.nilR <| ?_
         refine WR.ones (g := 3) [7, 8] (by kernel_rfl) ?_
         refine WL.buildSlice rfl rfl Tryz.underlying231 sz_108 zero_108 rfl (by decide) (by show some (splice (List.replicate 1 _).flatten 0 (ucs m.mask 9)) = some (ucs m.mask 9); exact congrArg some (splice_all rfl)) (.none rfl) rfl rfl ?_
         intro g69 hg69
         refine WL.to (L' := Em ++ (.row g69 (ucs m.mask 9) :: .row g (addC p gm) :: .obj gm (.map es cl) :: .row g4 (mtL m) :: (En ++ (E ++ (K ++ L))))) (fun w hS => hS.permX) ?_
         refine WL.appendL rfl rfl rfl Tryz.underlying231 Tryz.underlying231 sz_108 by_108 zero_108 rfl rfl hA.masks (new := ucs m.mask 9) (fun _ => ⟨g69, 0, rfl, fun w hS => allAt (g := g69) w hS⟩) rfl rfl (by omega) (.none rfl) rfl rfl ?_
         intro ad70 c70 E70 hV70 hr70
         refine WL.nilR ?_
         refine WR.first (g := 1) [9, 10] (by kernel_rfl) (by kernel_rfl) ?_
         refine WP.val (v_nilCheck rfl rfl) (.none rfl) rfl rfl <| WP.val (v_fieldAddr0 rfl rfl fld_234_2) (.none rfl) rfl rfl <| WP.nil <| ?_
         refine WR.ones (g := 0) [11] (by kernel_rfl) ?_
         refine WL.store1 rfl rfl rfl rfl one_231 (Nat.le_of_ble_eq_true rfl) (.none rfl) rfl <| WL.nilR <| ?_
         refine WR.done (by kernel_rfl) ?_
         refine WE.to (L' := .row g (addC2 p gm ad70 (p.ms ++ [m.mask]).length c70) :: .obj gm (.map es cl) :: .row g4 (mtL m) :: (En ++ (E ++ (E70 ++ (K ++ L))))) (fun w hS => ?_) (WE.mid ⟨ad70, c70, p.ms ++ [m.mask], E70⟩ ⟨by rw [List.length_append]; rw [show masksL (p.ms ++ [m.mask]) = masksL p.ms ++ ucs m.mask 9 from encL_snoc _ _ _]; exact hV70, by rw [List.length_append]; exact Nat.le_refl _, fun f h => List.mem_append_left _ h, ⟨m.mask, List.mem_append_right _ (List.mem_singleton.2 rfl), fun _ _ => rfl⟩, fun f h => (by
             rcases List.mem_append.1 h with h | h
             · exact hA.ok.num f h
             · rw [List.mem_singleton.1 h]; exact hm.mask)⟩ (.cons rfl (.cons rfl (.cons rfl (.cons rfl .nil)))) (.refl _))
         rw [show (p.ms ++ [m.mask]).length = p.ms.length + 1 by rw [List.length_append]; rfl]
         exact St.dropX (L := E70 ++ (.row g69 (ucs m.mask 9) :: .row g (addC2 p gm ad70 (p.ms.length + 1) c70) :: .obj gm (.map es cl) :: .row g4 (mtL m) :: (En ++ (E ++ (K ++ L))))) [.row g69 (ucs m.mask 9)] hS
        ·
         refine WL.v (v_loadN rfl rfl many_108 rfl (segAt (g := g4) (m := 9) (new := ucs m.mask 9) rfl)) rfl <| WL.nilR <| ?_
         refine WR.each (g := 5) [4, 7] (by kernel_rfl) (by decide) ?_
         refine ⟨?_, ?_⟩
         ·
          refine WL.v (v_load1 rfl rfl one_231 (cellAt (v := .slice p.mad p.ms.length p.mc) rfl)) rfl <| WL.nilR <| ?_
          refine WR.ones (g := 3) [7, 8] (by kernel_rfl) ?_
          refine WL.buildSlice rfl rfl Tryz.underlying231 sz_108 zero_108 rfl (by decide) (by show some (splice (List.replicate 1 _).flatten 0 (ucs m.mask 9)) = some (ucs m.mask 9); exact congrArg some (splice_all rfl)) (.none rfl) rfl rfl ?_
          intro g69 hg69
          refine WL.to (L' := Em ++ (.row g69 (ucs m.mask 9) :: .row g (addC p gm) :: .obj gm (.map es cl) :: .row g4 (mtL m) :: (En ++ (E ++ (K ++ L))))) (fun w hS => hS.permX) ?_
          refine WL.appendL rfl rfl rfl Tryz.underlying231 Tryz.underlying231 sz_108 by_108 zero_108 rfl rfl hA.masks (new := ucs m.mask 9) (fun _ => ⟨g69, 0, rfl, fun w hS => allAt (g := g69) w hS⟩) rfl rfl (by omega) (.none rfl) rfl rfl ?_
          intro ad70 c70 E70 hV70 hr70
          refine WL.nilR ?_
          refine WR.first (g := 1) [9, 10] (by kernel_rfl) (by kernel_rfl) ?_
          refine WP.val (v_nilCheck rfl rfl) (.none rfl) rfl rfl <| WP.val (v_fieldAddr0 rfl rfl fld_234_2) (.none rfl) rfl rfl <| WP.nil <| ?_
          refine WR.ones (g := 0) [11] (by kernel_rfl) ?_
          refine WL.store1 rfl rfl rfl rfl one_231 (Nat.le_of_ble_eq_true rfl) (.none rfl) rfl <| WL.nilR <| ?_
          refine WR.done (by kernel_rfl) ?_
          refine WE.to (L' := .row g (addC2 p gm ad70 (p.ms ++ [m.mask]).length c70) :: .obj gm (.map es cl) :: .row g4 (mtL m) :: (En ++ (E ++ (E70 ++ (K ++ L))))) (fun w hS => ?_) (WE.mid ⟨ad70, c70, p.ms ++ [m.mask], E70⟩ ⟨by rw [List.length_append]; rw [show masksL (p.ms ++ [m.mask]) = masksL p.ms ++ ucs m.mask 9 from encL_snoc _ _ _]; exact hV70, by rw [List.length_append]; exact Nat.le_refl _, fun f h => List.mem_append_left _ h, ⟨m.mask, List.mem_append_right _ (List.mem_singleton.2 rfl), fun _ _ => rfl⟩, fun f h => (by
              rcases List.mem_append.1 h with h | h
              · exact hA.ok.num f h
              · rw [List.mem_singleton.1 h]; exact hm.mask)⟩ (.cons rfl (.cons rfl (.cons rfl (.cons rfl .nil)))) (.refl _))
          rw [show (p.ms ++ [m.mask]).length = p.ms.length + 1 by rw [List.length_append]; rfl]
          exact St.dropX (L := E70 ++ (.row g69 (ucs m.mask 9) :: .row g (addC2 p gm ad70 (p.ms.length + 1) c70) :: .obj gm (.map es cl) :: .row g4 (mtL m) :: (En ++ (E ++ (K ++ L))))) [.row g69 (ucs m.mask 9)] hS
         ·
          refine WL.buildSlice rfl rfl Tryz.underlying231 sz_108 zero_108 rfl (by decide) (by show some (splice (List.replicate 1 _).flatten 0 (ucs m.mask 9)) = some (ucs m.mask 9); exact congrArg some (splice_all rfl)) (.none rfl) rfl rfl ?_
          intro g69 hg69
          refine WL.to (L' := Em ++ (.row g69 (ucs m.mask 9) :: .row g (addC p gm) :: .obj gm (.map es cl) :: .row g4 (mtL m) :: (En ++ (E ++ (K ++ L))))) (fun w hS => hS.permX) <| WL.nilR <| ?_
          refine WR.read (g := 4) [4] (by kernel_rfl) (by kernel_rfl) (by kernel_rfl) (by kernel_rfl) rfl ?_
          refine WQ.val (v_load1 rfl rfl one_231 (cellAt (v := .slice p.mad p.ms.length p.mc) rfl)) (.none rfl) rfl rfl <| WQ.nilR <| ?_
          refine WR.ones (g := 3) [8] (by kernel_rfl) ?_
          refine WL.appendL rfl rfl rfl Tryz.underlying231 Tryz.underlying231 sz_108 by_108 zero_108 rfl rfl hA.masks (new := ucs m.mask 9) (fun _ => ⟨g69, 0, rfl, fun w hS => allAt (g := g69) w hS⟩) rfl rfl (by omega) (.none rfl) rfl rfl ?_
          intro ad70 c70 E70 hV70 hr70
          refine WL.nilR ?_
          refine WR.first (g := 1) [9, 10] (by kernel_rfl) (by kernel_rfl) ?_
          refine WP.val (v_nilCheck rfl rfl) (.none rfl) rfl rfl <| WP.val (v_fieldAddr0 rfl rfl fld_234_2) (.none rfl) rfl rfl <| WP.nil <| ?_
          refine WR.ones (g := 0) [11] (by kernel_rfl) ?_
          refine WL.store1 rfl rfl rfl rfl one_231 (Nat.le_of_ble_eq_true rfl) (.none rfl) rfl <| WL.nilR <| ?_
          refine WR.done (by kernel_rfl) ?_
          refine WE.to (L' := .row g (addC2 p gm ad70 (p.ms ++ [m.mask]).length c70) :: .obj gm (.map es cl) :: .row g4 (mtL m) :: (En ++ (E ++ (E70 ++ (K ++ L))))) (fun w hS => ?_) (WE.mid ⟨ad70, c70, p.ms ++ [m.mask], E70⟩ ⟨by rw [List.length_append]; rw [show masksL (p.ms ++ [m.mask]) = masksL p.ms ++ ucs m.mask 9 from encL_snoc _ _ _]; exact hV70, by rw [List.length_append]; exact Nat.le_refl _, fun f h => List.mem_append_left _ h, ⟨m.mask, List.mem_append_right _ (List.mem_singleton.2 rfl), fun _ _ => rfl⟩, fun f h => (by
              rcases List.mem_append.1 h with h | h
              · exact hA.ok.num f h
              · rw [List.mem_singleton.1 h]; exact hm.mask)⟩ (.cons rfl (.cons rfl (.cons rfl (.cons rfl .nil)))) (.refl _))
          rw [show (p.ms ++ [m.mask]).length = p.ms.length + 1 by rw [List.length_append]; rfl]
          exact St.dropX (L := E70 ++ (.row g69 (ucs m.mask 9) :: .row g (addC2 p gm ad70 (p.ms.length + 1) c70) :: .obj gm (.map es cl) :: .row g4 (mtL m) :: (En ++ (E ++ (K ++ L))))) [.row g69 (ucs m.mask 9)] hS
      ·
       rintro ⟨mad2, mc2, ms2, Em2⟩ ⟨hV2, hml, hsub, hhas, hnum⟩
       dsimp only at hV2 hml hsub hhas hnum
       dsimp only
       refine WC.seq <| WC.orders mixed <| ?_
       refine WR.first (g := 3) [0, 1, 2, 5] (by kernel_rfl) (by kernel_rfl) ?_
       refine WP.val (v_move rfl rfl) (.none rfl) rfl rfl <| WP.val (v_nilCheck rfl rfl) (.none rfl) rfl rfl <| WP.val (v_fieldAddr0 rfl rfl fld_234_3) (.none rfl) rfl rfl <| WP.val (v_build rfl rfl zero_162 plc_162 rfl) (.none rfl) rfl rfl <| WP.nil <| ?_
       refine WR.read (g := 1) [3, 4] (by kernel_rfl) (by kernel_rfl) (by kernel_rfl) (by kernel_rfl) rfl ?_
       refine WQ.val (v_load1 rfl rfl one_232 (cellAt (v := .map (some gm)) rfl)) (.none rfl) rfl rfl <| WQ.val (v_loadN rfl rfl many_115 rfl allAt) (.none rfl) rfl rfl <| WQ.nilR <| ?_
       refine WR.ones (g := 0) [6] (by kernel_rfl) ?_
       refine WL.mapUpdate rfl rfl rfl rfl Tryz.underlying232 keyW_115 (hK) (hM) (.none rfl) rfl ?_
       intro esU cU hMU hsU
       refine WL.nilR ?_
       refine WR.done (by kernel_rfl) ?_
       refine WE.then_n ?_
       refine WC.cut (fun x : AdU => [(0, .pointer (some ⟨g, 0, none⟩)), (2, .slice adn ys.length cn), (6, .bool false)]) (fun x => .row g [.int .i64 p.mr, .int .i64 p.ma, .slice x.ad (p.ls.length + 1) x.c, .slice mad2 ms2.length mc2, .map (some gm), .int .i64 ((sumA p.ds : Nat) : Int)] :: (x.E ++ (.obj gm (.map esU cU) :: (En ++ (Em2 ++ (K ++ L)))))) (fun x => Vec 19 x.ad (p.ls.length + 1) x.c (rulesL p.ls ++ RuL.cells ⟨m, adn, cn, ys⟩) x.E) ?_ ?_
       ·
        refine WC.orders mixed ?_
        refine WR.first (g := 8) [0, 1, 2, 3, 6] (by kernel_rfl) (by kernel_rfl) ?_
        refine WP.val (v_move rfl rfl) (.none rfl) rfl rfl <| WP.val (v_move rfl rfl) (.none rfl) rfl rfl <| WP.val (v_nilCheck rfl rfl) (.none rfl) rfl rfl <| WP.val (v_fieldAddr0 rfl rfl fld_234_1) (.none rfl) rfl rfl <| WP.val (v_move rfl rfl) (.none rfl) rfl rfl <| WP.nil <| ?_
        refine WR.each (g := 7) [4, 5] (by kernel_rfl) (by decide) ?_
        refine ⟨?_, ?_⟩
        ·
         refine WL.v (v_load1 rfl rfl one_34 (cellAt (v := .slice p.ad p.ls.length p.c) rfl)) rfl <| WL.nilR <| ?_
         refine WR.read (g := 5) [5, 7] (by kernel_rfl) (by kernel_rfl) (by kernel_rfl) (by kernel_rfl) rfl ?_
         refine WQ.val (v_loadN rfl rfl many_115 rfl allAt) (.none rfl) rfl rfl <| WQ.val (v_build rfl rfl zero_117 plc_117 rfl) (.none rfl) rfl rfl <| WQ.nilR <| ?_
         refine WR.ones (g := 3) [8, 9] (by kernel_rfl) ?_
         refine WL.buildSlice rfl rfl Tryz.underlying34 sz_117 zero_117 rfl (by decide) (by show some (splice (List.replicate 1 _).flatten 0 (RuL.cells ⟨m, adn, cn, ys⟩)) = some (RuL.cells ⟨m, adn, cn, ys⟩); exact congrArg some (splice_all rfl)) (.none rfl) rfl rfl ?_
         intro g87 hg87
         refine WL.to (L' := E ++ (.row g87 (RuL.cells ⟨m, adn, cn, ys⟩) :: .row g (addC2 p gm mad2 ms2.length mc2) :: .obj gm (.map esU cU) :: .row g4 (mtL m) :: (En ++ (Em2 ++ (K ++ L))))) (fun w hS => hS.permX) ?_
         refine WL.appendL rfl rfl rfl Tryz.underlying34 Tryz.underlying34 sz_117 by_117 zero_117 rfl rfl hA.out (new := RuL.cells ⟨m, adn, cn, ys⟩) (fun _ => ⟨g87, 0, rfl, fun w hS => allAt (g := g87) w hS⟩) rfl rfl (by omega) (.none rfl) rfl rfl ?_
         intro ad88 c88 E88 hV88 hr88
         refine WL.nilR ?_
         refine WR.first (g := 1) [10, 11] (by kernel_rfl) (by kernel_rfl) ?_
         refine WP.val (v_nilCheck rfl rfl) (.none rfl) rfl rfl <| WP.val (v_fieldAddr0 rfl rfl fld_234_1) (.none rfl) rfl rfl <| WP.nil <| ?_
         refine WR.ones (g := 0) [12] (by kernel_rfl) ?_
         refine WL.store1 rfl rfl rfl rfl one_34 (Nat.le_of_ble_eq_true rfl) (.none rfl) rfl <| WL.nilR <| ?_
         refine WR.done (by kernel_rfl) ?_
         refine WE.to (L' := .row g [.int .i64 p.mr, .int .i64 p.ma, .slice ad88 (p.ls.length + 1) c88, .slice mad2 ms2.length mc2, .map (some gm), .int .i64 ((sumA p.ds : Nat) : Int)] :: (E88 ++ (.obj gm (.map esU cU) :: (En ++ (Em2 ++ (K ++ L)))))) (fun w hS => St.dropX (L := E88 ++ (.row g87 (RuL.cells ⟨m, adn, cn, ys⟩) :: .row g [.int .i64 p.mr, .int .i64 p.ma, .slice ad88 (p.ls.length + 1) c88, .slice mad2 ms2.length mc2, .map (some gm), .int .i64 ((sumA p.ds : Nat) : Int)] :: .obj gm (.map esU cU) :: .row g4 (mtL m) :: (En ++ (Em2 ++ (K ++ L))))) [.row g87 (RuL.cells ⟨m, adn, cn, ys⟩), .row g4 (mtL m)] hS) (WE.mid ⟨ad88, c88, E88⟩ hV88 (.cons rfl (.cons rfl (.cons rfl .nil))) (.refl _))
        ·
         refine WL.v (v_loadN rfl rfl many_115 rfl allAt) rfl <| WL.nilR <| ?_
         refine WR.first (g := 6) [7] (by kernel_rfl) (by kernel_rfl) ?_
         refine WP.val (v_build rfl rfl zero_117 plc_117 rfl) (.none rfl) rfl rfl <| WP.nil <| ?_
         refine WR.each (g := 5) [4, 8] (by kernel_rfl) (by decide) ?_
         refine ⟨?_, ?_⟩
         ·
          refine WL.v (v_load1 rfl rfl one_34 (cellAt (v := .slice p.ad p.ls.length p.c) rfl)) rfl <| WL.nilR <| ?_
          refine WR.ones (g := 3) [8, 9] (by kernel_rfl) ?_
          refine WL.buildSlice rfl rfl Tryz.underlying34 sz_117 zero_117 rfl (by decide) (by show some (splice (List.replicate 1 _).flatten 0 (RuL.cells ⟨m, adn, cn, ys⟩)) = some (RuL.cells ⟨m, adn, cn, ys⟩); exact congrArg some (splice_all rfl)) (.none rfl) rfl rfl ?_
          intro g87 hg87
          refine WL.to (L' := E ++ (.row g87 (RuL.cells ⟨m, adn, cn, ys⟩) :: .row g (addC2 p gm mad2 ms2.length mc2) :: .obj gm (.map esU cU) :: .row g4 (mtL m) :: (En ++ (Em2 ++ (K ++ L))))) (fun w hS => hS.permX) ?_
          refine WL.appendL rfl rfl rfl Tryz.underlying34 Tryz.underlying34 sz_117 by_117 zero_117 rfl rfl hA.out (new := RuL.cells ⟨m, adn, cn, ys⟩) (fun _ => ⟨g87, 0, rfl, fun w hS => allAt (g := g87) w hS⟩) rfl rfl (by omega) (.none rfl) rfl rfl ?_
          intro ad88 c88 E88 hV88 hr88
          refine WL.nilR ?_
          refine WR.first (g := 1) [10, 11] (by kernel_rfl) (by kernel_rfl) ?_
          refine WP.val (v_nilCheck rfl rfl) (.none rfl) rfl rfl <| WP.val (v_fieldAddr0 rfl rfl fld_234_1) (.none rfl) rfl rfl <| WP.nil <| ?_
          refine WR.ones (g := 0) [12] (by kernel_rfl) ?_
          refine WL.store1 rfl rfl rfl rfl one_34 (Nat.le_of_ble_eq_true rfl) (.none rfl) rfl <| WL.nilR <| ?_
          refine WR.done (by kernel_rfl) ?_
          refine WE.to (L' := .row g [.int .i64 p.mr, .int .i64 p.ma, .slice ad88 (p.ls.length + 1) c88, .slice mad2 ms2.length mc2, .map (some gm), .int .i64 ((sumA p.ds : Nat) : Int)] :: (E88 ++ (.obj gm (.map esU cU) :: (En ++ (Em2 ++ (K ++ L)))))) (fun w hS => St.dropX (L := E88 ++ (.row g87 (RuL.cells ⟨m, adn, cn, ys⟩) :: .row g [.int .i64 p.mr, .int .i64 p.ma, .slice ad88 (p.ls.length + 1) c88, .slice mad2 ms2.length mc2, .map (some gm), .int .i64 ((sumA p.ds : Nat) : Int)] :: .obj gm (.map esU cU) :: .row g4 (mtL m) :: (En ++ (Em2 ++ (K ++ L))))) [.row g87 (RuL.cells ⟨m, adn, cn, ys⟩), .row g4 (mtL m)] hS) (WE.mid ⟨ad88, c88, E88⟩ hV88 (.cons rfl (.cons rfl (.cons rfl .nil))) (.refl _))
         ·
          refine WL.buildSlice rfl rfl Tryz.underlying34 sz_117 zero_117 rfl (by decide) (by show some (splice (List.replicate 1 _).flatten 0 (RuL.cells ⟨m, adn, cn, ys⟩)) = some (RuL.cells ⟨m, adn, cn, ys⟩); exact congrArg some (splice_all rfl)) (.none rfl) rfl rfl ?_
          intro g87 hg87
          refine WL.to (L' := E ++ (.row g87 (RuL.cells ⟨m, adn, cn, ys⟩) :: .row g (addC2 p gm mad2 ms2.length mc2) :: .obj gm (.map esU cU) :: .row g4 (mtL m) :: (En ++ (Em2 ++ (K ++ L))))) (fun w hS => hS.permX) <| WL.nilR <| ?_
          refine WR.read (g := 4) [4] (by kernel_rfl) (by kernel_rfl) (by kernel_rfl) (by kernel_rfl) rfl ?_
          refine WQ.val (v_load1 rfl rfl one_34 (cellAt (v := .slice p.ad p.ls.length p.c) rfl)) (.none rfl) rfl rfl <| WQ.nilR <| ?_
          refine WR.ones (g := 3) [9] (by kernel_rfl) ?_
          refine WL.appendL rfl rfl rfl Tryz.underlying34 Tryz.underlying34 sz_117 by_117 zero_117 rfl rfl hA.out (new := RuL.cells ⟨m, adn, cn, ys⟩) (fun _ => ⟨g87, 0, rfl, fun w hS => allAt (g := g87) w hS⟩) rfl rfl (by omega) (.none rfl) rfl rfl ?_
          intro ad88 c88 E88 hV88 hr88
          refine WL.nilR ?_
          refine WR.first (g := 1) [10, 11] (by kernel_rfl) (by kernel_rfl) ?_
          refine WP.val (v_nilCheck rfl rfl) (.none rfl) rfl rfl <| WP.val (v_fieldAddr0 rfl rfl fld_234_1) (.none rfl) rfl rfl <| WP.nil <| ?_
          refine WR.ones (g := 0) [12] (by kernel_rfl) ?_
          refine WL.store1 rfl rfl rfl rfl one_34 (Nat.le_of_ble_eq_true rfl) (.none rfl) rfl <| WL.nilR <| ?_
          refine WR.done (by kernel_rfl) ?_
          refine WE.to (L' := .row g [.int .i64 p.mr, .int .i64 p.ma, .slice ad88 (p.ls.length + 1) c88, .slice mad2 ms2.length mc2, .map (some gm), .int .i64 ((sumA p.ds : Nat) : Int)] :: (E88 ++ (.obj gm (.map esU cU) :: (En ++ (Em2 ++ (K ++ L)))))) (fun w hS => St.dropX (L := E88 ++ (.row g87 (RuL.cells ⟨m, adn, cn, ys⟩) :: .row g [.int .i64 p.mr, .int .i64 p.ma, .slice ad88 (p.ls.length + 1) c88, .slice mad2 ms2.length mc2, .map (some gm), .int .i64 ((sumA p.ds : Nat) : Int)] :: .obj gm (.map esU cU) :: .row g4 (mtL m) :: (En ++ (Em2 ++ (K ++ L))))) [.row g87 (RuL.cells ⟨m, adn, cn, ys⟩), .row g4 (mtL m)] hS) (WE.mid ⟨ad88, c88, E88⟩ hV88 (.cons rfl (.cons rfl (.cons rfl .nil))) (.refl _))
       ·
        rintro ⟨ad88, c88, E88⟩ hV88
        dsimp only at hV88
        dsimp only
        refine WC.seq <| WC.region <| WL.v (v_move rfl rfl) rfl <| WL.v (v_nilCheck rfl rfl) rfl <| WL.v (v_fieldAddr0 rfl rfl fld_234_4) rfl <| WL.v (v_load1 rfl rfl one_3 (cellAt (v := .int .i64 ((sumA p.ds : Nat) : Int)) rfl)) rfl <| WL.v (v_move rfl rfl) rfl <| WL.v (v_len_slice rfl rfl Tryz.underlying113) rfl <| ?_
        refine WL.v (v_add rfl rfl rfl (w_i64 (by omega) (by omega))) rfl ?_
        refine WL.v (v_nilCheck rfl rfl) rfl <| WL.v (v_fieldAddr0 rfl rfl fld_234_4) rfl <| WL.store1 rfl rfl rfl rfl one_3 (Nat.le_of_ble_eq_true rfl) (.none rfl) rfl <| WL.nt <| WC.seq <| WC.region <| WL.v (v_assign rfl rfl) rfl <| WL.nt <| WC.ret <| WE.ret1 (P := Tryz.prog) (.inl rfl) Tryz.results137 rfl <| ?_
        have hds : (p.ls ++ [(⟨m, adn, cn, ys⟩ : RuL)]).map RuL.d = p.ds ++ [⟨m, ys⟩] := (by rw [List.map_append]; rfl)
        have hfit : (⟨m, ys⟩ : RuD).Fit := (by rw [← hys]; exact fit_new hm hz hus)
        have hsA : ((sumA (p.ds ++ [(⟨m, ys⟩ : RuD)]) : Nat) : Int) = (sumA p.ds : Nat) + (ys.length : Int) := (by
          rw [sumA_append]
          show ((sumA p.ds + (ys.length + 0) : Nat) : Int) = _
          omega)
        have hu2 := haveM_add p.ds m ys
        exact fun w' h => ⟨true, ⟨p.mr, p.ma, ad88, c88, p.ls ++ [⟨m, adn, cn, ys⟩], mad2, mc2, ms2, some gm, esU, cU⟩, E88, Em2, [.obj gm (.map esU cU)], En ++ K, rfl, fun _ => by rw [hyes]; show _ = some (⟨p.mr, p.ma, (p.ls ++ [(⟨m, adn, cn, ys⟩ : RuL)]).map RuL.d⟩ : PlD); rw [hds], fun k => (by cases k),
          ⟨by dsimp only; rw [List.length_append, show rulesL (p.ls ++ [(⟨m, adn, cn, ys⟩ : RuL)]) = rulesL p.ls ++ RuL.cells ⟨m, adn, cn, ys⟩ from encL_snoc _ _ _]; exact hV88, hV2, .inr ⟨gm, rfl, rfl⟩, fun r hr => (by
            rcases List.mem_append.1 hr with hr | hr
            · exact (hA.own r hr).more
            · rw [List.mem_singleton.1 hr]; exact ⟨En, hVn, fun e he => List.mem_append_left _ he⟩),
          ⟨fun r hr => (by
            have hr : r ∈ (p.ls ++ [(⟨m, adn, cn, ys⟩ : RuL)]).map RuL.d := hr
            rw [hds] at hr
            rcases List.mem_append.1 hr with hr | hr
            · exact hA.ok.fit r hr
            · rw [List.mem_singleton.1 hr]; exact hfit), fun r hr => (by
            have hr : r ∈ (p.ls ++ [(⟨m, adn, cn, ys⟩ : RuL)]).map RuL.d := hr
            rw [hds] at hr
            rcases List.mem_append.1 hr with hr | hr
            · obtain ⟨f, hf, hq⟩ := hA.ok.mask r hr; exact ⟨f, hsub f hf, hq⟩
            · rw [List.mem_singleton.1 hr]; exact hhas), hnum, by
            show IMap KMt esU (haveM ((p.ls ++ [(⟨m, adn, cn, ys⟩ : RuL)]).map RuL.d))
            rw [hds, ← hu2]
            exact hMU⟩,
          by dsimp only; rw [List.length_append]; show ms2.length ≤ p.ls.length + 1; omega, by dsimp only; rw [List.length_append]; show ((p.ls.length + 1 : Nat) : Int) ≤ _; omega, rm3, by show ((sumA ((p.ls ++ [(⟨m, adn, cn, ys⟩ : RuL)]).map RuL.d) : Nat) : Int) ≤ p.ma; rw [hds, hsA]; omega, rm5⟩, by
          have e9 : PlL.cells ⟨p.mr, p.ma, ad88, c88, p.ls ++ [⟨m, adn, cn, ys⟩], mad2, mc2, ms2, some gm, esU, cU⟩ = [.int .i64 p.mr, .int .i64 p.ma, .slice ad88 (p.ls.length + 1) c88, .slice mad2 ms2.length mc2, .map (some gm), .int .i64 ((sumA p.ds : Nat) + (ys.length : Int))] := (by
            unfold PlL.cells
            dsimp only
            rw [← hsA, List.length_append]
            show _ = [_, _, _, _, _, Value.int .i64 ((sumA (p.ds ++ [(⟨m, ys⟩ : RuD)]) : Nat) : Int)]
            rw [← hds]
            rfl)
          rw [e9]
          exact St.permX (L := .row g [.int .i64 p.mr, .int .i64 p.ma, .slice ad88 (p.ls.length + 1) c88, .slice mad2 ms2.length mc2, .map (some gm), .int .i64 ((sumA p.ds : Nat) + (ys.length : Int))] :: (E88 ++ (.obj gm (.map esU cU) :: (En ++ (Em2 ++ (K ++ L)))))) h⟩
end Go.Proofs.YtkeonnnhogaggaaGreatDoor
/- pile: Sum; cross and Cross. -/
namespace Go.Proofs.YtkeonnnhogaggaaGreatDoor
open Go.RowKit

/-- What a sum of acts is: where it can be read. -/
def SumC (fn : FuncId) (sum : List Ac → List Ac → List Ac) : Prop := ∀ (w : World) (a b : Option Addr) (ac bc : Nat) (us vs : List Ac), Rg w a (actsL us) → Rg w b (actsL vs) → us.length ≤ 5000 → vs.length ≤ 5000 →
  Calls Tryz.prog fn #[.slice a us.length ac, .slice b vs.length bc] w fun e w' => ∃ ad c M, e = .returned (.slice ad (sum us vs).length c) ∧ (∀ w2, (∀ x ∈ M, Ent.holds w2 x) → Rg w2 a (actsL us) → Rg w2 b (actsL vs) → Rg w2 ad (actsL (sum us vs))) ∧ St (fun _ => False) w w' M
theorem Sum_own (w : World) (a b : Option Addr) (ac bc : Nat) (us vs : List Ac) (hA1 : Rg w a (actsL us)) (hB1 : Rg w b (actsL vs)) (h1 : us.length ≤ 5000) (h2 : vs.length ≤ 5000) :
    Calls Tryz.prog 95 #[.slice a us.length ac, .slice b vs.length bc] w fun e w' => ∃ ad c E, e = .returned (.slice ad (us ++ vs).length c) ∧ Vec 10 ad (us ++ vs).length c (actsL (us ++ vs)) E ∧ St (fun _ => False) w w' E := by
  refine enter Tryz.func95 rfl Tryz.ntmps95 rfl (St.start (fun _ => False) w) ?_
  refine WC.seq <| WC.region <| WL.v (v_assign rfl rfl) rfl <| WL.nt <| WC.seq <| WC.region <| WL.v (v_move rfl rfl) rfl <| WL.v (v_len_slice rfl rfl Tryz.underlying113) rfl <| WL.v (v_move rfl rfl) rfl <| WL.v (v_len_slice rfl rfl Tryz.underlying113) rfl <| ?_
  refine WL.v (v_add rfl rfl rfl (w_i64 (by omega) (by omega))) rfl ?_
  refine WL.makeN (m := 0) (c := us.length + vs.length) rfl rfl rfl (by omega) (by omega) (by omega) Tryz.underlying113 by_110 (by omega) (by omega) sz_110 zero_110 rfl (.none rfl) rfl rfl ?_
  intro g11 hg11
  generalize hZ : List.flatten _ = Z
  have hV : Vec 10 (some ⟨g11, 0, none⟩) 0 (us.length + vs.length) [] [.row g11 Z] := Vec.row (by rw [Nat.zero_mul]; rfl) (by rw [← hZ]; exact flat_len rfl _) (Nat.zero_le _)
  refine WL.to (L' := [.row g11 Z] ++ []) (fun w hS => by simpa using hS) ?_
  refine WL.v (v_assign rfl rfl) rfl <| WL.nt <| WC.seq <| WC.region <| WL.v (v_move rfl rfl) rfl <| WL.v (v_move rfl rfl) rfl <| ?_
  refine WL.appendL rfl rfl rfl Tryz.underlying113 Tryz.underlying113 sz_110 by_110 zero_110 rfl rfl hV (new := actsL us) (fun hp => by obtain ⟨b1, o1, e1, r1⟩ := hA1 (by intro h; have := actsL_len us; rw [h] at this; simp at this; omega); exact ⟨b1, o1, e1, rgIn (fun h => h) r1⟩) (actsL_len us) (encL_one acL_one us) (by omega) (.none rfl) rfl rfl ?_
  intro ad14 c14 E14 hV14 hr14
  refine WL.v (v_assign rfl rfl) rfl <| WL.nt <| WC.seq <| WC.region <| WL.v (v_move rfl rfl) rfl <| WL.v (v_move rfl rfl) rfl <| ?_
  refine WL.appendL rfl rfl rfl Tryz.underlying113 Tryz.underlying113 sz_110 by_110 zero_110 rfl rfl hV14 (new := actsL vs) (fun hp => by obtain ⟨b1, o1, e1, r1⟩ := hB1 (by intro h; have := actsL_len vs; rw [h] at this; simp at this; omega); exact ⟨b1, o1, e1, rgIn (fun h => h) r1⟩) (actsL_len vs) (encL_one acL_one vs) (by omega) (.none rfl) rfl rfl ?_
  intro ad17 c17 E17 hV17 hr17
  refine WL.v (v_assign rfl rfl) rfl <| WL.nt <| WC.ret <| WE.ret1 (P := Tryz.prog) (.inl rfl) Tryz.results95 rfl <| ?_
  have e1 : (us ++ vs).length = 0 + us.length + vs.length := (by rw [List.length_append]; omega)
  have e2 : actsL (us ++ vs) = [] ++ actsL us ++ actsL vs := (by show encL acL (us ++ vs) = _; rw [encL_append, List.nil_append])
  exact fun w' h => ⟨ad17, c17, E17, by rw [e1], by rw [e1, e2]; exact hV17, by simpa using h⟩
theorem sumC_app : SumC 95 appA := fun w a b ac bc us vs hA hB h1 h2 =>
  (Sum_own w a b ac bc us vs hA hB h1 h2).mono fun _ _ ⟨ad, c, E, he, hV, hS⟩ => ⟨ad, c, E, he, fun _ h2 _ _ => hV.rg h2, hS⟩
/-- Rules that can be read. -/
structure RsAt (w : World) (ad : Option Addr) (xs : List RuL) : Prop where
  rd : Rg w ad (rulesL xs)
  ok : ∀ r ∈ xs, Rg w r.ad (actsL r.acts)
structure RsFit (n : Nat) (xs : List RuL) : Prop where
  fit : ∀ r ∈ xs, r.d.Fit
  few : ∀ r ∈ xs, r.acts.length ≤ n
theorem RgS {q : Nat → Prop} {w0 w : World} {L : List Ent} {ad : Option Addr} {cs : List Value} (h : ∀ w, St q w0 w L → Rg w ad cs) (hS : St q w0 w L) (hn : cs ≠ []) : ∃ b o, ad = some ⟨b, o, none⟩ ∧ ∀ w, St q w0 w L → w.rangeAt b o cs := by
  obtain ⟨b, o, e, _⟩ := h w hS hn
  refine ⟨b, o, e, fun w' hS' => ?_⟩
  obtain ⟨b', o', e', hr⟩ := h w' hS' hn
  rw [e] at e'
  injection e' with e'
  injection e' with e1 e2
  subst e1 e2
  exact hr
/-- Another pile whose rules count as covering. -/
def butD (bo : Option Nat) (pb : PlL) : List RuD := match bo with | none => [] | some _ => pb.ds
structure ButAt (q : Nat → Prop) (w0 : World) (L : List Ent) (bo : Option Nat) (pb : PlL) : Prop where
  rd : ∀ gb, bo = some gb → ∀ w, St q w0 w L → PlR w gb pb
  ok : ∀ gb, bo = some gb → pb.Ok ∧ pb.ms.length ≤ 1000000000
def ptrB (bo : Option Nat) : Value := .pointer (bo.map fun g => ⟨g, 0, none⟩)
theorem crossD_cons (but : List RuD) (sum : List Ac → List Ac → List Ac) (b : List RuD) (r : RuD) (a : List RuD) (p : PlD) : crossD but sum b (r :: a) p = (crossI but sum r b p).bind (crossD but sum b a) := by
  rw [crossD]
  cases crossI but sum r b p <;> rfl
structure CrS where
  i : Nat
  p : PlL
  E : List Ent
  Em : List Ent
  H : List Ent
  K : List Ent
theorem ru_match (r : RuL) : seg r.cells 0 18 = mtL r.m := ruL_match _
set_option maxRecDepth 8000 in
set_option maxHeartbeats 8000000 in
theorem cross_c {q : Nat → Prop} {w0 w : World} {L E Em H K : List Ent} (g : Nat) (p : PlL) (bo : Option Nat) (pb : PlL) (aa ba : Option Addr) (ac bc : Nat) (xs ys : List RuL) (fn : FuncId) (ck_fn : callOk Tryz.prog fn) (sum : List Ac → List Ac → List Ac) (hsum : SumC fn sum) (hso : SumOk sum) (hsl : ∀ us vs, (sum us vs).length ≤ us.length + vs.length)
    (hA : PlAt p E Em H K) (hS : St q w0 w (.row g p.cells :: (E ++ (Em ++ (H ++ (K ++ L)))))) (hbut : ButAt q w0 L bo pb) (ha : ∀ w, St q w0 w L → RsAt w aa xs) (hb : ∀ w, St q w0 w L → RsAt w ba ys) (hfa : RsFit 5000 xs) (hfb : RsFit 5000 ys) (hna : xs.length ≤ 100000000) (hnb : ys.length ≤ 100000000) :
    Calls Tryz.prog 173 #[.pointer (some ⟨g, 0, none⟩), ptrB bo, .slice aa xs.length ac, .slice ba ys.length bc, .func (.func fn) #[] #[]] w fun e w' => ∃ (b : Bool) (p' : PlL) (E' Em' H' K' : List Ent), e = .returned (.bool b) ∧ crossD (butD bo pb) sum (ys.map RuL.d) (xs.map RuL.d) p.d = (if b then some p'.d else none) ∧ (p'.mr = p.mr ∧ p'.ma = p.ma) ∧ PlAt p' E' Em' H' K' ∧ St q w0 w' (.row g p'.cells :: (E' ++ (Em' ++ (H' ++ (K' ++ L))))) := by
  have hS0 : St q w0 w L := hS.dropX (.row g p.cells :: (E ++ (Em ++ (H ++ K))))
  generalize hC : crossD (butD bo pb) sum (ys.map RuL.d) (xs.map RuL.d) p.d = C
  generalize hmr : p.mr = MR
  generalize hma : p.ma = MA
  obtain ⟨b41, hb41⟩ : ∃ b, bo.isSome = b := ⟨_, rfl⟩
  refine enter Tryz.func173 rfl Tryz.ntmps173 rfl hS ?_
  refine WC.seq <| WC.region <| WL.v (v_assign rfl rfl) rfl <| WL.nt <| WC.seq <| WC.seq <| WC.region <| WL.v (v_move rfl rfl) rfl <| WL.v (v_len_slice rfl rfl Tryz.underlying34) rfl <| WL.v (v_move rfl rfl) rfl <| WL.nt <| WC.block <| ?_
  refine WC.loop (fun x : CrS => [(19, .int .i64 x.i), (18, .int .i64 xs.length), (17, .slice aa xs.length ac), (0, .pointer (some ⟨g, 0, none⟩)), (1, ptrB bo), (3, .slice ba ys.length bc), (4, .func (.func fn) #[] #[]), (10, .bool false)]) (fun x => .row g x.p.cells :: (x.E ++ (x.Em ++ (x.H ++ (x.K ++ L))))) (fun x => x.i ≤ xs.length ∧ crossD (butD bo pb) sum (ys.map RuL.d) ((xs.drop x.i).map RuL.d) x.p.d = C ∧ (x.p.mr = MR ∧ x.p.ma = MA) ∧ PlAt x.p x.E x.Em x.H x.K) (fun x => xs.length - x.i) ⟨0, p, E, Em, H, K⟩ ⟨Nat.zero_le _, by dsimp only; rw [List.drop_zero]; exact hC, ⟨hmr, hma⟩, hA⟩ (.cons rfl (.cons rfl (.cons rfl (.cons rfl (.cons rfl (.cons rfl (.cons rfl (.cons rfl .nil)))))))) (.refl _) ?_
  rintro ⟨i, p1, E1, Em1, H1, K1⟩ ⟨hi, hc, ⟨hm1, hm2⟩, hA1⟩
  dsimp only at hi hc hm1 hm2 hA1
  dsimp only
  refine WC.seq <| WC.region <| ?_
  refine WL.test (v_lss rfl rfl rfl) (.none rfl) rfl rfl (fun h20 => ?_) (fun h20 => ?_)
  ·
   refine WL.nt <| WC.seq <| WC.cond_t rfl <| WC.skip <| WE.then_n <| ?_
   refine WC.cut (fun x : CrS => [(19, .int .i64 i), (18, .int .i64 xs.length), (17, .slice aa xs.length ac), (0, .pointer (some ⟨g, 0, none⟩)), (1, ptrB bo), (3, .slice ba ys.length bc), (4, .func (.func fn) #[] #[]), (10, .bool false)]) (fun x => .row g x.p.cells :: (x.E ++ (x.Em ++ (x.H ++ (x.K ++ L))))) (fun x => crossD (butD bo pb) sum (ys.map RuL.d) ((xs.drop (i + 1)).map RuL.d) x.p.d = C ∧ (x.p.mr = MR ∧ x.p.ma = MA) ∧ PlAt x.p x.E x.Em x.H x.K) ?_ ?_
   ·
    refine WC.block <| WC.seq <| WC.region <| ?_
    obtain ⟨r, hr⟩ : ∃ x, xs[i]? = some x := ⟨xs[i]'(by omega), List.getElem?_eq_getElem _⟩
    have hrm := List.mem_of_getElem? hr
    have hrf := hfa.fit r hrm
    have hrn := hfa.few r hrm
    obtain ⟨b1, o1, ea1, r1⟩ := RgS (fun w hS => (ha w hS).rd) hS0 (by intro hh; have := rulesL_len xs; rw [hh] at this; simp at this; omega)
    rw [drop_cons hr, List.map_cons, crossD_cons] at hc
    refine WL.v ((v_indexAddr (b := b1) (off := o1) (lo := i) rfl (by show some (Value.slice aa _ _) = _; rw [ea1]) rfl Tryz.underlying34 sz_117 rfl (by omega))) rfl ?_
    refine WL.v (v_loadN (cs := r.cells) rfl rfl many_117 (RuL.len r) (fun w' hS' => Rg.seg RuL.len (r1 w' (hS'.dropX (.row g p1.cells :: (E1 ++ (Em1 ++ (H1 ++ K1)))))) hr)) rfl <| WL.alloc rfl zero_117 (.none rfl) rfl rfl <| ?_
    intro g12 hg12
    refine WL.storeW rfl rfl rfl rfl many_117 rfl rfl (.none rfl) rfl <| WL.as (L' := .row g12 r.cells :: .row g p1.cells :: (E1 ++ (Em1 ++ (H1 ++ (K1 ++ L))))) rfl <| WL.nt <| WC.seq <| WC.region <| WL.v (v_move rfl rfl) rfl <| WL.v (v_len_slice rfl rfl Tryz.underlying34) rfl <| WL.v (v_move rfl rfl) rfl <| WL.nt <| WC.block <| ?_
    refine WC.loop (fun x : CrS => [(25, .int .i64 x.i), (24, .int .i64 ys.length), (23, .slice ba ys.length bc), (12, .pointer (some ⟨g12, 0, none⟩)), (19, .int .i64 i), (18, .int .i64 xs.length), (17, .slice aa xs.length ac), (0, .pointer (some ⟨g, 0, none⟩)), (1, ptrB bo), (3, .slice ba ys.length bc), (4, .func (.func fn) #[] #[]), (10, .bool false)]) (fun x => .row g12 r.cells :: .row g x.p.cells :: (x.E ++ (x.Em ++ (x.H ++ (x.K ++ L))))) (fun x => x.i ≤ ys.length ∧ (crossI (butD bo pb) sum r.d ((ys.drop x.i).map RuL.d) x.p.d).bind (crossD (butD bo pb) sum (ys.map RuL.d) ((xs.drop (i + 1)).map RuL.d)) = C ∧ (x.p.mr = MR ∧ x.p.ma = MA) ∧ PlAt x.p x.E x.Em x.H x.K) (fun x => ys.length - x.i) ⟨0, p1, E1, Em1, H1, K1⟩ ⟨Nat.zero_le _, by dsimp only; rw [List.drop_zero]; exact hc, ⟨hm1, hm2⟩, hA1⟩ (.cons rfl (.cons rfl (.cons rfl (.cons rfl (.cons rfl (.cons rfl (.cons rfl (.cons rfl (.cons rfl (.cons rfl (.cons rfl (.cons rfl .nil)))))))))))) (.refl _) ?_
    rintro ⟨j, p2, E2, Em2, H2, K2⟩ ⟨hj, hd, ⟨hn1, hn2⟩, hA2⟩
    dsimp only at hj hd hn1 hn2 hA2
    dsimp only
    refine WC.seq <| WC.region <| ?_
    refine WL.test (v_lss rfl rfl rfl) (.none rfl) rfl rfl (fun h26 => ?_) (fun h26 => ?_)
    ·
     refine WL.nt <| WC.seq <| WC.cond_t rfl <| WC.skip <| WE.then_n <| WC.seq <| WC.block <| WC.seq <| WC.region <| ?_
     obtain ⟨s, hs⟩ : ∃ x, ys[j]? = some x := ⟨ys[j]'(by omega), List.getElem?_eq_getElem _⟩
     have hsm := List.mem_of_getElem? hs
     have hsf := hfb.fit s hsm
     have hsn := hfb.few s hsm
     obtain ⟨b2, o2, ea2, r2⟩ := RgS (fun w hS => (hb w hS).rd) hS0 (by intro hh; have := rulesL_len ys; rw [hh] at this; simp at this; omega)
     rw [drop_cons hs, List.map_cons, crossI] at hd
     refine WL.v ((v_indexAddr (b := b2) (off := o2) (lo := j) rfl (by show some (Value.slice ba _ _) = _; rw [ea2]) rfl Tryz.underlying34 sz_117 rfl (by omega))) rfl ?_
     refine WL.v (v_loadN (cs := s.cells) rfl rfl many_117 (RuL.len s) (fun w' hS' => Rg.seg RuL.len (r2 w' (hS'.dropX (.row g12 r.cells :: .row g p2.cells :: (E2 ++ (Em2 ++ (H2 ++ K2)))))) hs)) rfl <| WL.alloc rfl zero_117 (.none rfl) rfl rfl <| ?_
     intro g14 hg14
     refine WL.storeW rfl rfl rfl rfl many_117 rfl rfl (.none rfl) rfl <| WL.as (L' := .row g14 s.cells :: .row g12 r.cells :: .row g p2.cells :: (E2 ++ (Em2 ++ (H2 ++ (K2 ++ L))))) rfl <| WL.nt <| WC.seq <| WC.region <| WL.v (v_fieldAddr0 rfl rfl fld_117_0) rfl <| WL.v (v_loadN rfl rfl many_115 rfl (segAt (g := g12) (m := 18) (new := mtL r.m) (ru_match r))) rfl <| WL.v (v_fieldAddr0 rfl rfl fld_117_0) rfl <| WL.v (v_loadN rfl rfl many_115 rfl (segAt (g := g14) (m := 18) (new := mtL s.m) (ru_match s))) rfl <| WL.call rfl rfl ck_135 (.none rfl) rfl rfl <| ?_
     intro w hS
     refine Calls.then (MAnd_c w r.m s.m hrf.isIn.m hsf.isIn.m) hS ?_
     refine WL.v (v_move rfl rfl) rfl <| WL.v (v_extract rfl rfl rfl) rfl <| WL.v (v_extract rfl rfl rfl) rfl <| WL.alloc rfl zero_115 (.none rfl) rfl rfl <| ?_
     intro g15 hg15
     refine WL.storeW rfl rfl rfl rfl many_115 rfl rfl (.none rfl) rfl <| WL.as (L' := .row g15 (mtL ((r.m.and s.m).getD mt0)) :: .row g14 s.cells :: .row g12 r.cells :: .row g p2.cells :: (E2 ++ (Em2 ++ (H2 ++ (K2 ++ L))))) rfl <| WL.v (v_assign rfl rfl) rfl <| WL.nt <| ?_
     refine WC.cut (fun _ : Unit => [(15, .pointer (some ⟨g15, 0, none⟩)), (14, .pointer (some ⟨g14, 0, none⟩)), (25, .int .i64 j), (24, .int .i64 ys.length), (23, .slice ba ys.length bc), (12, .pointer (some ⟨g12, 0, none⟩)), (19, .int .i64 i), (18, .int .i64 xs.length), (17, .slice aa xs.length ac), (0, .pointer (some ⟨g, 0, none⟩)), (1, ptrB bo), (3, .slice ba ys.length bc), (4, .func (.func fn) #[] #[]), (10, .bool false)]) (fun _ => .row g15 (mtL ((r.m.and s.m).getD mt0)) :: .row g14 s.cells :: .row g12 r.cells :: .row g p2.cells :: (E2 ++ (Em2 ++ (H2 ++ (K2 ++ L))))) (fun _ => ∃ m, r.m.and s.m = some m ∧ ¬ (covD (butD bo pb) m ∨ covD p2.d.out m)) ?_ ?_
     ·
      refine WC.seq <| WC.region <| WL.v (v_move rfl rfl) rfl <| ?_
      generalize hb36 : (r.m.and s.m).isSome = bb
      cases bb
      ·
       refine WL.v (v_not rfl rfl rfl) rfl <| WL.v (v_move rfl rfl) rfl <| ?_
       iterate 7 refine WL.sk rfl ?_
       refine WL.v (v_pick_t rfl rfl rfl) rfl <| WL.v (v_move rfl rfl) rfl <| ?_
       iterate 3 refine WL.sk rfl ?_
       refine WL.v (v_pick_t rfl rfl rfl) rfl <| WL.nt <| WC.cond_t rfl <| WC.exit <| WE.then_exit <| WE.block_hit <| WE.then_n <| WC.region <| ?_
       refine WL.v (v_add rfl rfl rfl (w_i64 (by omega) (by omega))) rfl ?_
       refine WL.v (v_move rfl rfl) rfl <| WL.nil <| ?_
       have hno : r.d.m.and s.d.m = none := (by cases h : r.m.and s.m with | none => exact h | some x => rw [h] at hb36; cases hb36)
       rw [hno] at hd
       exact WE.next ⟨j + 1, p2, E2, Em2, H2, K2⟩ (by dsimp only; omega) ⟨by dsimp only; omega, hd, ⟨hn1, hn2⟩, hA2⟩ (.int rfl (by dsimp only; omega) (.cons rfl (.cons rfl (.cons rfl (.cons rfl (.cons rfl (.cons rfl (.cons rfl (.cons rfl (.cons rfl (.cons rfl (.cons rfl .nil)))))))))))) (by repeat (first | exact List.Sublist.refl _ | refine List.Sublist.cons _ ?_))
      ·
       have hmm : ∃ m, r.m.and s.m = some m := (by cases h : r.m.and s.m with | none => rw [h] at hb36; cases hb36 | some x => exact ⟨x, rfl⟩)
       obtain ⟨m, hmm⟩ := hmm
       rw [hmm]
       obtain ⟨hmeet, hmb⟩ := and_some hmm
       have hmI : m.In := (by rw [hmb]; exact Mt.both_in hrf.isIn.m hsf.isIn.m)
       have hmZ : m.Nz := (by rw [hmb]; exact Mt.both_nz hrf.isIn.nz hsf.isIn.nz)
       have hmd : r.d.m.and s.d.m = some m := hmm
       rw [hmd] at hd
       dsimp only [Option.getD] at hd ⊢
       refine WL.v (v_not rfl rfl rfl) rfl <| WL.v (v_move rfl rfl) rfl <| WL.val (v_move rfl rfl) (.some rfl rfl rfl) rfl rfl <| ?_
       refine WL.val (v_neq_nil b41 rfl rfl Tryz.underlying198 (by rw [← hb41]; cases bo <;> rfl)) (.some rfl rfl rfl) rfl rfl ?_
       cases b41
       ·
        refine WL.val (v_move rfl rfl) (.some rfl rfl rfl) rfl rfl ?_
        iterate 3 refine WL.sk rfl ?_
        refine WL.val (v_pick_f rfl rfl rfl) (.some rfl rfl rfl) rfl rfl <| WL.v (v_pick_f rfl rfl rfl) rfl <| WL.v (v_move rfl rfl) rfl <| WL.val (v_move rfl rfl) (.some rfl rfl rfl) rfl rfl <| WL.val (v_loadN rfl rfl many_115 rfl allAt) (.some rfl rfl rfl) rfl rfl <| WL.call rfl rfl ck_136 (.some rfl rfl rfl) rfl rfl <| ?_
        intro w hS
        refine Calls.then (Covers_c w g p2 m (hA2.r hS (by simp) (fun e he => by simp [he]) (fun e he => by simp [he])) hA2.ok hmI (by have := hA2.room; omega)) hS ?_
        generalize hb51 : decide (covD p2.ds m) = bb
        cases bb
        ·
         refine WL.v (v_pick_f rfl rfl rfl) rfl <| WL.nt <| WC.cond_f rfl <| WC.skip <| ?_
         refine WE.mid () ⟨m, rfl, fun k => ?_⟩ (.cons rfl (.cons rfl (.cons rfl (.cons rfl (.cons rfl (.cons rfl (.cons rfl (.cons rfl (.cons rfl (.cons rfl (.cons rfl (.cons rfl (.cons rfl (.cons rfl .nil)))))))))))))) (.refl _)
         rcases k with k | k
         · have e : bo = none := (by cases h : bo with | none => rfl | some x => rw [h] at hb41; cases hb41)
           rw [e] at k
           obtain ⟨x, hx, _⟩ := k
           cases hx
         · exact of_decide_eq_false hb51 k
        ·
         refine WL.v (v_pick_f rfl rfl rfl) rfl <| WL.nt <| WC.cond_t rfl <| WC.exit <| WE.then_exit <| WE.block_hit <| WE.then_n <| WC.region <| ?_
         refine WL.v (v_add rfl rfl rfl (w_i64 (by omega) (by omega))) rfl ?_
         refine WL.v (v_move rfl rfl) rfl <| WL.nil <| ?_
         rw [if_pos (.inr (of_decide_eq_true hb51))] at hd
         exact WE.next ⟨j + 1, p2, E2, Em2, H2, K2⟩ (by dsimp only; omega) ⟨by dsimp only; omega, hd, ⟨hn1, hn2⟩, hA2⟩ (.int rfl (by dsimp only; omega) (.cons rfl (.cons rfl (.cons rfl (.cons rfl (.cons rfl (.cons rfl (.cons rfl (.cons rfl (.cons rfl (.cons rfl (.cons rfl .nil)))))))))))) (by repeat (first | exact List.Sublist.refl _ | refine List.Sublist.cons _ ?_))
       ·
        refine WL.val (v_move rfl rfl) (.some rfl rfl rfl) rfl rfl <| WL.val (v_move rfl rfl) (.some rfl rfl rfl) rfl rfl <| WL.val (v_loadN rfl rfl many_115 rfl allAt) (.some rfl rfl rfl) rfl rfl <| ?_
        obtain ⟨gb, hgb⟩ := Option.isSome_iff_exists.1 hb41
        have hbd : butD bo pb = pb.ds := (by rw [hgb]; rfl)
        refine WL.call rfl rfl ck_136 (.some rfl rfl rfl) rfl rfl ?_
        intro w1 hS1
        have hbo := hbut.ok gb hgb
        rw [show ptrB bo = .pointer (some ⟨gb, 0, none⟩) by rw [hgb]; rfl]
        refine Calls.then (Covers_c w1 gb pb m (hbut.rd gb hgb w1 (hS1.dropX (.row g15 (mtL m) :: .row g14 s.cells :: .row g12 r.cells :: .row g p2.cells :: (E2 ++ (Em2 ++ (H2 ++ K2)))))) hbo.1 hmI hbo.2) hS1 ?_
        generalize hb45 : decide (covD pb.ds m) = bb
        cases bb
        ·
         refine WL.val (v_pick_t rfl rfl rfl) (.some rfl rfl rfl) rfl rfl <| WL.v (v_pick_f rfl rfl rfl) rfl <| WL.v (v_move rfl rfl) rfl <| WL.val (v_move rfl rfl) (.some rfl rfl rfl) rfl rfl <| WL.val (v_loadN rfl rfl many_115 rfl allAt) (.some rfl rfl rfl) rfl rfl <| WL.call rfl rfl ck_136 (.some rfl rfl rfl) rfl rfl <| ?_
         intro w hS
         refine Calls.then (Covers_c w g p2 m (hA2.r hS (by simp) (fun e he => by simp [he]) (fun e he => by simp [he])) hA2.ok hmI (by have := hA2.room; omega)) hS ?_
         generalize hb51 : decide (covD p2.ds m) = bb
         cases bb
         ·
          refine WL.v (v_pick_f rfl rfl rfl) rfl <| WL.nt <| WC.cond_f rfl <| WC.skip <| ?_
          refine WE.mid () ⟨m, rfl, fun k => ?_⟩ (.cons rfl (.cons rfl (.cons rfl (.cons rfl (.cons rfl (.cons rfl (.cons rfl (.cons rfl (.cons rfl (.cons rfl (.cons rfl (.cons rfl (.cons rfl (.cons rfl .nil)))))))))))))) (.refl _)
          rcases k with k | k
          · rw [hbd] at k
            exact of_decide_eq_false hb45 k
          · exact of_decide_eq_false hb51 k
         ·
          refine WL.v (v_pick_f rfl rfl rfl) rfl <| WL.nt <| WC.cond_t rfl <| WC.exit <| WE.then_exit <| WE.block_hit <| WE.then_n <| WC.region <| ?_
          refine WL.v (v_add rfl rfl rfl (w_i64 (by omega) (by omega))) rfl ?_
          refine WL.v (v_move rfl rfl) rfl <| WL.nil <| ?_
          rw [if_pos (.inr (of_decide_eq_true hb51))] at hd
          exact WE.next ⟨j + 1, p2, E2, Em2, H2, K2⟩ (by dsimp only; omega) ⟨by dsimp only; omega, hd, ⟨hn1, hn2⟩, hA2⟩ (.int rfl (by dsimp only; omega) (.cons rfl (.cons rfl (.cons rfl (.cons rfl (.cons rfl (.cons rfl (.cons rfl (.cons rfl (.cons rfl (.cons rfl (.cons rfl .nil)))))))))))) (by repeat (first | exact List.Sublist.refl _ | refine List.Sublist.cons _ ?_))
        ·
         refine WL.val (v_pick_t rfl rfl rfl) (.some rfl rfl rfl) rfl rfl <| WL.v (v_pick_f rfl rfl rfl) rfl <| WL.v (v_move rfl rfl) rfl <| ?_
         iterate 3 refine WL.sk rfl ?_
         refine WL.v (v_pick_t rfl rfl rfl) rfl <| WL.nt <| WC.cond_t rfl <| WC.exit <| WE.then_exit <| WE.block_hit <| WE.then_n <| WC.region <| ?_
         refine WL.v (v_add rfl rfl rfl (w_i64 (by omega) (by omega))) rfl ?_
         refine WL.v (v_move rfl rfl) rfl <| WL.nil <| ?_
         rw [if_pos (.inl (by rw [hbd]; exact of_decide_eq_true hb45))] at hd
         exact WE.next ⟨j + 1, p2, E2, Em2, H2, K2⟩ (by dsimp only; omega) ⟨by dsimp only; omega, hd, ⟨hn1, hn2⟩, hA2⟩ (.int rfl (by dsimp only; omega) (.cons rfl (.cons rfl (.cons rfl (.cons rfl (.cons rfl (.cons rfl (.cons rfl (.cons rfl (.cons rfl (.cons rfl (.cons rfl .nil)))))))))))) (by repeat (first | exact List.Sublist.refl _ | refine List.Sublist.cons _ ?_))
     ·
      rintro _ ⟨m, hmm, hncov⟩
      rw [hmm]
      obtain ⟨hmeet, hmb⟩ := and_some hmm
      have hmI : m.In := (by rw [hmb]; exact Mt.both_in hrf.isIn.m hsf.isIn.m)
      have hmZ : m.Nz := (by rw [hmb]; exact Mt.both_nz hrf.isIn.nz hsf.isIn.nz)
      have hmd : r.d.m.and s.d.m = some m := hmm
      rw [hmd] at hd
      dsimp only [Option.getD] at hd ⊢
      rw [if_neg hncov] at hd
      refine WC.seq <| WC.seq <| WC.held ([.row g15 (mtL m), .row g14 s.cells, .row g12 r.cells]) mixed <| ?_
      refine WRH.first (g := 3) [0, 1, 2, 3, 4, 5, 6] (by kernel_rfl) (by kernel_rfl) (fun w hS => hS.sub (by repeat (first | exact List.Sublist.refl _ | exact List.nil_sublist _ | refine List.Sublist.cons_cons _ ?_ | refine List.Sublist.cons _ ?_ | refine List.sublist_append_of_sublist_right ?_))) ?_
      refine WH.val (v_move rfl rfl) (.none rfl) rfl rfl <| WH.val (v_loadN rfl rfl many_115 rfl allAt) (.none rfl) rfl rfl <| WH.val (v_move rfl rfl) (.none rfl) rfl rfl <| WH.val (v_fieldAddr0 rfl rfl fld_117_1) (.none rfl) rfl rfl <| WH.val (v_load1 rfl rfl one_113 (cellAt (v := .slice r.ad r.acts.length r.c) (ruC_acts r))) (.none rfl) rfl rfl <| WH.val (v_fieldAddr0 rfl rfl fld_117_1) (.none rfl) rfl rfl <| WH.val (v_load1 rfl rfl one_113 (cellAt (v := .slice s.ad s.acts.length s.c) (ruC_acts s))) (.none rfl) rfl rfl <| WH.nil <| ?_
      refine WRH.one (g := 2) 7 (by kernel_rfl) ?_
      refine WL.callV rfl rfl rfl ck_fn (.none rfl) rfl rfl ?_
      intro w1 hS1
      have hSL := hS1.dropX (L' := L) (.row g15 (mtL m) :: .row g14 s.cells :: .row g12 r.cells :: .row g p2.cells :: (E2 ++ (Em2 ++ (H2 ++ K2))))
      refine (hsum w1 r.ad s.ad r.c s.c r.acts s.acts ((ha w1 hSL).ok r hrm) ((hb w1 hSL).ok s hsm) hrn hsn).mono ?_
      rintro e w' ⟨sad, sc, M, rfl, hrd, hS'⟩
      refine ⟨_, .row g15 (mtL m) :: .row g14 s.cells :: .row g12 r.cells :: (M ++ (.row g p2.cells :: (E2 ++ (Em2 ++ (H2 ++ (K2 ++ L)))))), rfl, (hS1.join hS').permX, ?_⟩
      refine WL.nilH (fun w hS => hS.sub (by repeat (first | exact List.Sublist.refl _ | exact List.nil_sublist _ | refine List.Sublist.cons_cons _ ?_ | refine List.Sublist.cons _ ?_ | refine List.sublist_append_of_sublist_right ?_))) ?_
      refine WRH.one (g := 1) 8 (by kernel_rfl) ?_
      refine WL.call rfl rfl ck_137 (.none rfl) rfl rfl ?_
      intro w1 hS1
      have hlen := hsl r.acts s.acts
      refine (Add_c (L := M ++ (.row g15 (mtL m) :: .row g14 s.cells :: .row g12 r.cells :: L)) g p2 m sad sc (sum r.acts s.acts) hA2 hS1.permX hmI hmZ (fun w2 hS2 => ?_) (sum_three hso hrf hsf) (by omega)).mono ?_
      · have hSL := hS2.dropX (L' := L) (.row g p2.cells :: (E2 ++ (Em2 ++ (H2 ++ (K2 ++ (M ++ [.row g15 (mtL m), .row g14 s.cells, .row g12 r.cells]))))))
        exact hrd w2 (fun x hx => hS2.holds x (by simp [hx])) ((ha w2 hSL).ok r hrm) ((hb w2 hSL).ok s hsm)
      rintro e w' ⟨b61, p3, E3, Em3, H3, K3, rfl, hyes, hno, hA3, hS'⟩
      refine ⟨_, .row g15 (mtL m) :: .row g14 s.cells :: .row g12 r.cells :: .row g p3.cells :: (E3 ++ (Em3 ++ (H3 ++ (K3 ++ (M ++ L))))), rfl, hS'.permX, ?_⟩
      skip
      cases b61
      ·
       refine WL.nilH (fun w hS => hS.sub (by repeat (first | exact List.Sublist.refl _ | exact List.nil_sublist _ | refine List.Sublist.cons_cons _ ?_ | refine List.Sublist.cons _ ?_ | refine List.sublist_append_of_sublist_right ?_))) ?_
       refine WRH.first (g := 0) [9] (by kernel_rfl) (by kernel_rfl) (fun w hS => hS.sub (by repeat (first | exact List.Sublist.refl _ | exact List.nil_sublist _ | refine List.Sublist.cons_cons _ ?_ | refine List.Sublist.cons _ ?_ | refine List.sublist_append_of_sublist_right ?_))) ?_
       refine WH.val (v_not rfl rfl rfl) (.none rfl) rfl rfl <| WH.nil <| ?_
       refine WRH.done (by kernel_rfl) ?_
       refine WE.then_n <| WC.cond_t rfl <| WC.seq <| WC.region <| WL.v (v_assign rfl rfl) rfl <| WL.nt <| WC.ret <| WE.then_ret <| WE.block_ret <| WE.then_ret <| WE.then_ret <| WE.block_ret <| WE.block_ret <| WE.then_ret <| ?_
       refine WE.then_ret <| WE.block_ret <| WE.then_ret <| WE.ret1 (P := Tryz.prog) (.inl rfl) Tryz.results173 rfl <| ?_
       obtain ⟨hno1, hno2⟩ := hno rfl
       have hno1 : p2.d.add m (sum r.d.acts s.d.acts) = none := hno1
       rw [hno1] at hd
       dsimp only [Option.bind] at hd
       have e1 : p3.mr = p.mr ∧ p3.ma = p.ma := ⟨(congrArg PlD.mr hno2 :).trans (hn1.trans hmr.symm), (congrArg PlD.ma hno2 :).trans (hn2.trans hma.symm)⟩
       exact fun w' h => ⟨false, p3, E3, Em3, H3, K3, rfl, hd.symm, ⟨e1.1.trans hmr, e1.2.trans hma⟩, hA3, h.dropX (.row g15 (mtL m) :: .row g14 s.cells :: .row g12 r.cells :: M)⟩
      ·
       refine WL.nilH (fun w hS => hS.sub (by repeat (first | exact List.Sublist.refl _ | exact List.nil_sublist _ | refine List.Sublist.cons_cons _ ?_ | refine List.Sublist.cons _ ?_ | refine List.sublist_append_of_sublist_right ?_))) ?_
       refine WRH.first (g := 0) [9] (by kernel_rfl) (by kernel_rfl) (fun w hS => hS.sub (by repeat (first | exact List.Sublist.refl _ | exact List.nil_sublist _ | refine List.Sublist.cons_cons _ ?_ | refine List.Sublist.cons _ ?_ | refine List.sublist_append_of_sublist_right ?_))) ?_
       refine WH.val (v_not rfl rfl rfl) (.none rfl) rfl rfl <| WH.nil <| ?_
       refine WRH.done (by kernel_rfl) ?_
       refine WE.then_n <| WC.cond_f rfl <| WC.skip <| WE.then_n <| WC.seq <| WC.region <| ?_
       have hyes1 : p2.d.add m (sum r.d.acts s.d.acts) = some p3.d := hyes rfl
       rw [hyes1] at hd
       dsimp only at hd
       have hq := PlD.add_some hyes1
       have e1 : p3.mr = MR ∧ p3.ma = MA := ⟨(congrArg PlD.mr hq :).trans hn1, (congrArg PlD.ma hq :).trans hn2⟩
       obtain ⟨b66, hbe⟩ : ∃ c : Bool, c = true ↔ mtL m = mtL r.m := ⟨@decide _ (Classical.propDecidable _), @decide_eq_true_iff _ (Classical.propDecidable _)⟩
       refine WL.v (v_loadN rfl rfl many_115 rfl allAt) rfl <| WL.v (v_fieldAddr0 rfl rfl fld_117_0) rfl <| WL.v (v_loadN rfl rfl many_115 rfl (segAt (g := g12) (m := 18) (new := mtL r.m) (ru_match r))) rfl <| WL.v (v_eql_aggD (b := b66) rfl rfl rfl eqk_115 eqg_115 rfl rfl hbe) rfl <| ?_
       cases b66
       ·
        refine WL.nt <| WC.cond_f rfl <| WC.skip <| WE.block_n <| WE.then_n <| WC.region <| ?_
        refine WL.v (v_add rfl rfl rfl (w_i64 (by omega) (by omega))) rfl ?_
        refine WL.v (v_move rfl rfl) rfl <| WL.nil <| ?_
        rw [if_neg (fun k : m.eqv r.d.m => by have := hbe.2 (mtL_iff.2 k); cases this)] at hd
        refine WE.to (L' := .row g12 r.cells :: .row g p3.cells :: (E3 ++ (Em3 ++ (H3 ++ ((M ++ K3) ++ L))))) (fun w hS => hS.dropX [.row g15 (mtL m), .row g14 s.cells]) ?_
        exact WE.next ⟨j + 1, p3, E3, Em3, H3, M ++ K3⟩ (by dsimp only; omega) ⟨by dsimp only; omega, hd, e1, ⟨hA3.out, hA3.masks, hA3.map, fun r hr => (hA3.own r hr).more, hA3.ok, hA3.room⟩⟩ (.int rfl (by dsimp only; omega) (.cons rfl (.cons rfl (.cons rfl (.cons rfl (.cons rfl (.cons rfl (.cons rfl (.cons rfl (.cons rfl (.cons rfl (.cons rfl .nil)))))))))))) (.refl _)
       ·
        refine WL.nt <| WC.cond_t rfl <| WC.exit <| WE.block_miss rfl <| WE.then_exit <| WE.then_exit <| WE.block_hit <| WE.block_n <| ?_
        rw [if_pos (show m.eqv r.d.m from mtL_iff.1 (hbe.1 rfl))] at hd
        refine WE.to (L' := .row g p3.cells :: (E3 ++ (Em3 ++ (H3 ++ ((M ++ K3) ++ L))))) (fun w hS => hS.dropX [.row g15 (mtL m), .row g14 s.cells, .row g12 r.cells]) ?_
        exact WE.mid ⟨i, p3, E3, Em3, H3, M ++ K3⟩ ⟨hd, e1, ⟨hA3.out, hA3.masks, hA3.map, fun r hr => (hA3.own r hr).more, hA3.ok, hA3.room⟩⟩ (.cons rfl (.cons rfl (.cons rfl (.cons rfl (.cons rfl (.cons rfl (.cons rfl (.cons rfl .nil)))))))) (.refl _)
    ·
     refine WL.nt <| WC.seq <| WC.cond_f rfl <| WC.exit <| WE.then_exit <| WE.then_exit <| WE.block_hit <| WE.block_n <| ?_
     obtain rfl : j = ys.length := (by omega)
     rw [List.drop_length] at hd
     exact WE.mid ⟨i, p2, E2, Em2, H2, K2⟩ ⟨hd, ⟨hn1, hn2⟩, hA2⟩ (.cons rfl (.cons rfl (.cons rfl (.cons rfl (.cons rfl (.cons rfl (.cons rfl (.cons rfl .nil)))))))) (by repeat (first | exact List.Sublist.refl _ | refine List.Sublist.cons _ ?_))
   ·
    rintro ⟨_, p4, E4, Em4, H4, K4⟩ ⟨hc4, ⟨ho1, ho2⟩, hA4⟩
    dsimp only at hc4 ho1 ho2 hA4
    dsimp only
    refine WC.region ?_
    refine WL.v (v_add rfl rfl rfl (w_i64 (by omega) (by omega))) rfl ?_
    refine WL.v (v_move rfl rfl) rfl <| WL.nil <| ?_
    exact WE.next ⟨i + 1, p4, E4, Em4, H4, K4⟩ (by dsimp only; omega) ⟨by dsimp only; omega, hc4, ⟨ho1, ho2⟩, hA4⟩ (.int rfl (by dsimp only; omega) (.cons rfl (.cons rfl (.cons rfl (.cons rfl (.cons rfl (.cons rfl (.cons rfl .nil)))))))) (.refl _)
  ·
   refine WL.nt <| WC.seq <| WC.cond_f rfl <| WC.exit <| WE.then_exit <| WE.then_exit <| WE.block_hit <| WE.then_n <| WC.seq <| WC.region <| WL.v (v_assign rfl rfl) rfl <| WL.nt <| WC.ret <| WE.ret1 (P := Tryz.prog) (.inl rfl) Tryz.results173 rfl <| ?_
   obtain rfl : i = xs.length := (by omega)
   rw [List.drop_length] at hc
   exact fun w' h => ⟨true, p1, E1, Em1, H1, K1, rfl, hc.symm, ⟨hm1, hm2⟩, hA1, h⟩
theorem RsAt.frm {w w' : World} {ad : Option Addr} {xs : List RuL} (h : RsAt w ad xs) (hF : Frm (fun _ => False) w w') : RsAt w' ad xs := ⟨h.rd.frm hF (fun _ _ _ h => h), fun r hr => (h.ok r hr).frm hF (fun _ _ _ h => h)⟩
/-- Rules that were made: as data; where they lie. -/
def RsC (w w' : World) (ds : List RuD) (e : Ending) : Prop := ∃ ad c E K, ∃ ls : List RuL, e = .returned (.slice ad ls.length c) ∧ ls.map RuL.d = ds ∧ Vec 19 ad ls.length c (rulesL ls) E ∧ (∀ r ∈ ls, RuOwn K r) ∧ (∀ d ∈ ds, d.Fit) ∧ ls.length ≤ 100000000 ∧ St (fun _ => False) w w' (E ++ K)
theorem RsC.none_ {w w' : World} (h : St (fun _ => False) w w' []) : RsC w w' [] (.returned (.slice none 0 0)) := ⟨none, 0, [], [], [], rfl, rfl, Vec.nil 19, fun r h => (by cases h), fun r h => (by cases h), Nat.zero_le _, h⟩
theorem Cross_c (w : World) (aa ba : Option Addr) (ac bc : Nat) (xs ys : List RuL) (fn : FuncId) (ck_fn : callOk Tryz.prog fn) (sum : List Ac → List Ac → List Ac) (hsum : SumC fn sum) (hso : SumOk sum) (hsl : ∀ us vs, (sum us vs).length ≤ us.length + vs.length) (mr ma : Int) (hmr : 0 ≤ mr ∧ mr ≤ 4194304) (hma : 0 ≤ ma ∧ ma ≤ 16777216)
    (ha : RsAt w aa xs) (hb : RsAt w ba ys) (hfa : RsFit 5000 xs) (hfb : RsFit 5000 ys) (hna : xs.length ≤ 100000000) (hnb : ys.length ≤ 100000000) :
    Calls Tryz.prog 130 #[.slice aa xs.length ac, .slice ba ys.length bc, .func (.func fn) #[] #[], .agg #[.int .i64 mr, .int .i64 ma]] w fun e w' => RsC w w' (outD (crossD [] sum (ys.map RuL.d) (xs.map RuL.d) ⟨mr, ma, []⟩)) e := by
  refine enter Tryz.func130 rfl Tryz.ntmps130 rfl (St.start (fun _ => False) w) ?_
  refine WC.seq <| WC.region <| WL.box rfl rfl rfl (.none rfl) rfl rfl <| ?_
  intro g7 hg7
  refine WL.v (v_assign rfl rfl) rfl <| WL.nt <| WC.seq <| WC.region <| WL.v (v_loadN rfl rfl many_194 rfl allAt) rfl <| WL.call rfl rfl ck_134 (.none rfl) rfl rfl <| ?_
  intro w1 hS
  refine (PNew_c w1 mr ma).mono ?_
  rintro e w' ⟨gp, rfl, hS'⟩
  refine ⟨_, .row gp (PlL.cells ⟨mr, ma, none, 0, [], none, 0, [], none, #[], 0⟩) :: ([] ++ ([] ++ ([] ++ ([] ++ [Ent.row g7 [.int .i64 mr, .int .i64 ma]])))), rfl, (by simpa using hS.join hS'), ?_⟩
  refine WL.v (v_assign rfl rfl) rfl <| WL.nt <| WC.seq <| WC.seq <| WC.region <| WL.v (v_move rfl rfl) rfl <| WL.v (v_move rfl rfl) rfl <| WL.v (v_move rfl rfl) rfl <| WL.v (v_move rfl rfl) rfl <| WL.call rfl rfl ck_173 (.none rfl) rfl rfl <| ?_
  intro w1 hS
  refine (cross_c (L := [.row g7 [.int .i64 mr, .int .i64 ma]]) gp ⟨mr, ma, none, 0, [], none, 0, [], none, #[], 0⟩ none ⟨mr, ma, none, 0, [], none, 0, [], none, #[], 0⟩ aa ba ac bc xs ys fn ck_fn sum hsum hso hsl (PlAt.new mr ma hmr hma) hS ⟨fun gb h => (by cases h), fun gb h => (by cases h)⟩ (fun w2 h2 => ha.frm h2.frm) (fun w2 h2 => hb.frm h2.frm) hfa hfb hna hnb).mono ?_
  rintro e w' ⟨b, p', E', Em', H', K', rfl, hC, ⟨hq1, hq2⟩, hA, hS'⟩
  have hC : crossD [] sum (ys.map RuL.d) (xs.map RuL.d) ⟨mr, ma, []⟩ = (if b then some p'.d else none) := hC
  refine ⟨_, _, rfl, hS', ?_⟩
  skip
  cases b
  ·
   refine WL.v (v_not rfl rfl rfl) rfl <| WL.nt <| WC.cond_t rfl <| WC.seq <| WC.region <| WL.v (v_assign rfl rfl) rfl <| WL.nt <| WC.ret <| WE.then_ret <| WE.ret1 (P := Tryz.prog) (.inl rfl) Tryz.results130 rfl <| ?_
   rw [hC]
   exact fun w' h => RsC.none_ (h.sub (List.nil_sublist _))
  ·
   refine WL.v (v_not rfl rfl rfl) rfl <| WL.nt <| WC.cond_f rfl <| WC.skip <| WE.then_n <| WC.seq <| WC.region <| WL.v (v_move rfl rfl) rfl <| WL.v (v_nilCheck rfl rfl) rfl <| WL.v (v_fieldAddr0 rfl rfl fld_234_1) rfl <| WL.v (v_load1 rfl rfl one_34 (cellAt (v := .slice p'.ad p'.ls.length p'.c) rfl)) rfl <| WL.v (v_assign rfl rfl) rfl <| WL.nt <| WC.ret <| ?_
   refine WE.ret1 (P := Tryz.prog) (.inl rfl) Tryz.results130 rfl ?_
   rw [hC]
   have hrm := hA.room
   exact fun w' h => ⟨p'.ad, p'.c, E', K', p'.ls, rfl, rfl, hA.out, hA.own, fun d hd => hA.ok.fit d hd, by omega, h.dropX (.row gp p'.cells :: (Em' ++ (H' ++ [.row g7 [.int .i64 mr, .int .i64 ma]])))⟩
end Go.Proofs.YtkeonnnhogaggaaGreatDoor
/- pile: ahead and Behind. -/
namespace Go.Proofs.YtkeonnnhogaggaaGreatDoor
open Go.RowKit

theorem aheadK_none {a : Ac} {m : Mt} {k : Nat} (h : aheadK a m k = none) : ∀ j, aheadK a m (k + j) = none
  | 0 => h
  | j + 1 => by
    show aheadK a m (k + j + 1) = none
    rw [aheadK, aheadK_none h j]
theorem aheadD_none {a : Ac} {r : RuD} {l : List RuD} (h : aheadK a r.m 9 = none) : aheadD a (r :: l) = aheadD a l := by rw [aheadD, h]
theorem aheadD_some {a : Ac} {r : RuD} {l : List RuD} {m : Mt} (h : aheadK a r.m 9 = some m) : aheadD a (r :: l) = ⟨m, r.acts.map a.then⟩ :: aheadD a l := by rw [aheadD, h]
theorem rsAt_of {q : Nat → Prop} {w0 w : World} {L E K : List Ent} {ad : Option Addr} {c : Nat} {ls : List RuL} (hV : Vec 19 ad ls.length c (rulesL ls) E) (hK : ∀ r ∈ ls, RuOwn K r) (hS : St q w0 w L) (h1 : ∀ e ∈ E, e ∈ L) (h2 : ∀ e ∈ K, e ∈ L) : RsAt w ad ls :=
  ⟨hV.rg fun e he => hS.holds e (h1 e he), fun r hr => by obtain ⟨E', hV', hE'⟩ := hK r hr; exact hV'.rg fun e he => hS.holds e (h2 e (hE' e he))⟩
structure AhS where
  i : Nat
  ls : List RuL
  ad : Option Addr
  c : Nat
  E : List Ent
  K : List Ent
structure AhT where
  j : Nat
  ad : Option Addr
  c : Nat
  E : List Ent
set_option maxRecDepth 8000 in
set_option maxHeartbeats 4000000 in
theorem ahead_c (w : World) (a : Ac) (aI : a.In) (aZ : a.Nz) (aO : a.Ok) (xa : Option Addr) (xc : Nat) (xs : List RuL) (hx : RsAt w xa xs) (hf : RsFit 5000 xs) (hn : xs.length ≤ 100000000) :
    Calls Tryz.prog 174 #[acV a, .slice xa xs.length xc] w fun e w' => RsC w w' (aheadD a (xs.map RuL.d)) e := by
  have hFit := aheadD_fit aI aZ aO (xs.map RuL.d) (fun r hr => by obtain ⟨y, hy, rfl⟩ := List.mem_map.1 hr; exact hf.fit y hy)
  generalize hC : aheadD a (xs.map RuL.d) = C
  rw [hC] at hFit
  refine enter Tryz.func174 rfl Tryz.ntmps174 rfl (St.start (fun _ => False) w) ?_
  refine WC.seq <| WC.region <| WL.box rfl rfl rfl (.none rfl) rfl rfl <| ?_
  intro g2 hg2
  refine WL.v (v_assign rfl rfl) rfl <| WL.nt <| WC.scope <| WC.seq <| WC.region <| WL.v (v_assign rfl rfl) rfl <| WL.nt <| WC.seq <| WC.label <| WE.then_n <| WC.seq <| WC.seq <| WC.region <| WL.v (v_move rfl rfl) rfl <| ?_
  refine WL.v (v_len_slice rfl rfl Tryz.underlying34) rfl <| WL.v (v_move rfl rfl) rfl <| WL.nt <| WC.block <| ?_
  refine WC.loop (fun x : AhS => [(15, .int .i64 x.i), (14, .int .i64 xs.length), (13, .slice xa xs.length xc), (2, .pointer (some ⟨g2, 0, none⟩)), (5, .slice x.ad x.ls.length x.c), (4, .slice none 0 0)]) (fun x => x.E ++ (x.K ++ [.row g2 (acL a)])) (fun x => x.i ≤ xs.length ∧ x.ls.length ≤ x.i ∧ x.ls.map RuL.d ++ aheadD a ((xs.drop x.i).map RuL.d) = C ∧ Vec 19 x.ad x.ls.length x.c (rulesL x.ls) x.E ∧ ∀ r ∈ x.ls, RuOwn x.K r) (fun x => xs.length - x.i) ⟨0, [], none, 0, [], []⟩ ⟨Nat.zero_le _, Nat.zero_le _, by dsimp only; rw [List.drop_zero]; exact hC, Vec.nil 19, fun r h => (by cases h)⟩ (.cons rfl (.cons rfl (.cons rfl (.cons rfl (.cons rfl (.cons rfl .nil)))))) (.refl _) ?_
  rintro ⟨i, ls, ad, c, E, K⟩ ⟨hi, hl, hc, hV, hK⟩
  dsimp only at hi hl hc hV hK
  dsimp only
  refine WC.seq <| WC.region <| ?_
  refine WL.test (v_lss rfl rfl rfl) (.none rfl) rfl rfl (fun h16 => ?_) (fun h16 => ?_)
  ·
   refine WL.nt <| WC.seq <| WC.cond_t rfl <| WC.skip <| WE.then_n <| WC.seq <| WC.block <| WC.seq <| WC.region <| ?_
   obtain ⟨r, hr⟩ : ∃ x, xs[i]? = some x := ⟨xs[i]'(by omega), List.getElem?_eq_getElem _⟩
   have hrm := List.mem_of_getElem? hr
   have hrf := hf.fit r hrm
   have hrn := hf.few r hrm
   obtain ⟨b1, o1, ea1, r1⟩ := hx.rd (by intro hh; have := rulesL_len xs; rw [hh] at this; simp at this; omega)
   rw [drop_cons hr, List.map_cons] at hc
   refine WL.v ((v_indexAddr (b := b1) (off := o1) (lo := i) rfl (by show some (Value.slice xa _ _) = _; rw [ea1]) rfl Tryz.underlying34 sz_117 rfl (by omega))) rfl ?_
   refine WL.v (v_loadN (cs := r.cells) rfl rfl many_117 (RuL.len r) (rgIn (fun h => h) (Rg.seg RuL.len r1 hr))) rfl <| WL.alloc rfl zero_117 (.none rfl) rfl rfl <| ?_
   intro g7 hg7
   refine WL.storeW rfl rfl rfl rfl many_117 rfl rfl (.none rfl) rfl <| WL.as (L' := .row g7 r.cells :: (E ++ (K ++ [.row g2 (acL a)]))) rfl <| WL.nt <| WC.seq <| WC.region <| WL.v (v_fieldAddr0 rfl rfl fld_117_0) rfl <| WL.v (v_loadN rfl rfl many_115 rfl (segAt (g := g7) (m := 18) (new := mtL r.m) (ru_match r))) rfl <| WL.alloc rfl zero_115 (.none rfl) rfl rfl <| ?_
   intro g8 hg8
   refine WL.storeW rfl rfl rfl rfl many_115 rfl rfl (.none rfl) rfl <| WL.as (L' := .row g8 (mtL r.m) :: .row g7 r.cells :: (E ++ (K ++ [.row g2 (acL a)]))) rfl <| WL.nt <| WC.seq <| WC.seq <| WC.region <| WL.v (v_assign rfl rfl) rfl <| WL.nt <| WC.block <| WC.loop (fun x : Nat × Mt => [(9, .int .i64 x.1), (8, .pointer (some ⟨g8, 0, none⟩)), (7, .pointer (some ⟨g7, 0, none⟩)), (15, .int .i64 i), (14, .int .i64 xs.length), (13, .slice xa xs.length xc), (2, .pointer (some ⟨g2, 0, none⟩)), (5, .slice ad ls.length c), (4, .slice none 0 0)]) (fun x => .row g8 (mtL x.2) :: .row g7 r.cells :: (E ++ (K ++ [.row g2 (acL a)]))) (fun x => x.1 ≤ 9 ∧ aheadK a r.m x.1 = some x.2) (fun x => 9 - x.1) (0, r.m) ⟨Nat.zero_le _, rfl⟩ (.cons rfl (.cons rfl (.cons rfl (.cons rfl (.cons rfl (.cons rfl (.cons rfl (.cons rfl (.cons rfl .nil))))))))) (.refl _) <| ?_
   rintro ⟨k, m⟩ ⟨hk, hm⟩
   dsimp only at hk hm
   dsimp only
   have hmI := (aheadK_in hrf.isIn.m hrf.isIn.nz k m hm).1
   refine WC.seq <| WC.seq <| WC.region <| WL.v (v_move rfl rfl) rfl <| ?_
   refine WL.test (v_lss rfl rfl rfl) (.none rfl) rfl rfl (fun h22 => ?_) (fun h22 => ?_)
   ·
    refine WL.nt <| WC.cond_t rfl <| WC.skip <| WE.then_n <| WC.seq <| WC.block <| WC.seq <| WC.seq <| WC.region <| WL.v (v_fieldAddr0 rfl rfl fld_110_0) rfl <| WL.v (v_load1 rfl rfl one_3 (cellAt (v := .int .i64 a.set) rfl)) rfl <| WL.v (v_move rfl rfl) rfl <| ?_
    refine WL.v (v_shr (m := k) (c := (2 : Int) ^ k) rfl rfl rfl rfl (by show k ≤ 64; omega) rfl) rfl ?_
    refine WL.v (v_and rfl rfl rfl (mask_i64' (i := 1) (m := 2) (by decide) (by decide) (by decide))) rfl ?_
    refine WL.test (v_eql rfl rfl rfl) (.none rfl) rfl rfl (fun h30 => ?_) (fun h30 => ?_)
    ·
     refine WL.nt <| WC.cond_t rfl <| WC.exit <| WE.then_exit <| WE.block_hit <| WE.then_n <| WC.region <| WL.v (v_move rfl rfl) rfl <| ?_
     refine WL.v (v_add rfl rfl rfl (w_i64 (by omega) (by omega))) rfl ?_
     refine WL.v (v_assign rfl rfl) rfl <| WL.nil <| ?_
     have hs : ¬ a.sets k := (by have h : a.set / 2 ^ k % 2 = 0 := h30; show ¬ a.set / 2 ^ k % 2 = 1; omega)
     exact WE.next (k + 1, m) (by dsimp only; omega) ⟨by dsimp only; omega, by dsimp only; rw [aheadK, hm]; exact if_neg hs⟩ (.int rfl (by dsimp only; omega) (.cons rfl (.cons rfl (.cons rfl (.cons rfl (.cons rfl (.cons rfl (.cons rfl (.cons rfl .nil))))))))) (.refl _)
    ·
     refine WL.nt <| WC.cond_f rfl <| WC.skip <| WE.then_n <| WC.seq <| WC.seq <| ?_
     refine WC.quiet mixed (by kernel_rfl) ?_
     refine WQ.val (v_move rfl rfl) (.none rfl) rfl rfl <| WQ.val (v_fieldAddr0 rfl rfl fld_110_1) (.none rfl) rfl rfl <| ?_
     refine WQ.val (v_indexAddrA (lo := k) rfl rfl rfl Tryz.underlying108 sz_23 (by omega) (by omega)) (.none rfl) rfl rfl ?_
     refine WQ.val (v_load1 rfl rfl one_23 (cellAt (acL_get a (by omega)))) (.none rfl) rfl rfl ?_
     refine WQ.val (v_move rfl rfl) (.none rfl) rfl rfl <| WQ.val (v_fieldAddr0 rfl rfl fld_115_1) (.none rfl) rfl rfl <| ?_
     refine WQ.val (v_indexAddrA (lo := k) rfl rfl rfl Tryz.underlying108 sz_23 (by omega) (by omega)) (.none rfl) rfl rfl ?_
     refine WQ.val (v_load1 rfl rfl one_23 (cellAt (mtL_mask m (by omega)))) (.none rfl) rfl rfl ?_
     refine WQ.val (v_and rfl rfl rfl (bits_and_u64 (aI.val k).1 (aI.val k).2 (hmI.mask k).1 (hmI.mask k).2)) (.none rfl) rfl rfl <| WQ.val (v_move rfl rfl) (.none rfl) rfl rfl <| WQ.val (v_fieldAddr0 rfl rfl fld_115_0) (.none rfl) rfl rfl <| ?_
     refine WQ.val (v_indexAddrA (lo := k) rfl rfl rfl Tryz.underlying108 sz_23 (by omega) (by omega)) (.none rfl) rfl rfl ?_
     refine WQ.val (v_load1 rfl rfl one_23 (cellAt (mtL_val m (by omega)))) (.none rfl) rfl rfl ?_
     refine WQ.test (v_neq rfl rfl rfl) (.none rfl) rfl rfl (fun h44 => ?_) (fun h44 => ?_)
     ·
      refine WQ.nil <| WE.then_n <| WC.cond_t rfl <| WC.exit <| WE.then_exit <| WE.block_miss rfl <| WE.then_exit <| WE.then_exit <| WE.block_miss rfl <| WE.then_exit <| WE.block_hit <| WE.then_n <| WC.region <| ?_
      refine WL.v (v_add rfl rfl rfl (w_i64 (by omega) (by omega))) rfl ?_
      refine WL.v (v_move rfl rfl) rfl <| WL.nil <| ?_
      have hs : a.sets k := (by have h : ¬ a.set / 2 ^ k % 2 = 0 := h30; show a.set / 2 ^ k % 2 = 1; omega)
      have hno : aheadK a r.d.m 9 = none := (by
        have h1 : aheadK a r.m (k + 1) = none := (by rw [aheadK, hm]; dsimp only; rw [if_pos hs, if_pos h44])
        have := aheadK_none h1 (9 - (k + 1))
        rwa [show k + 1 + (9 - (k + 1)) = 9 by omega] at this)
      rw [aheadD_none hno] at hc
      exact WE.next ⟨i + 1, ls, ad, c, E, K⟩ (by dsimp only; omega) ⟨by dsimp only; omega, by dsimp only; omega, hc, hV, hK⟩ (.int rfl (by dsimp only; omega) (.cons rfl (.cons rfl (.cons rfl (.cons rfl (.cons rfl .nil)))))) (by repeat (first | exact List.Sublist.refl _ | refine List.Sublist.cons _ ?_))
     ·
      refine WQ.nil <| WE.then_n <| WC.cond_f rfl <| WC.skip <| WE.then_n <| WC.region <| WL.v (v_loadN rfl rfl many_115 rfl allAt) rfl <| WL.v (v_move rfl rfl) rfl <| WL.call rfl rfl ck_196 (.none rfl) rfl rfl <| ?_
      intro w hS
      refine Calls.then (MWithout_c w m k (by omega)) hS ?_
      refine WL.storeW rfl rfl rfl rfl many_115 rfl rfl (.none rfl) rfl <| WL.nil <| WE.block_n <| WE.then_n <| WC.region <| WL.v (v_move rfl rfl) rfl <| ?_
      refine WL.v (v_add rfl rfl rfl (w_i64 (by omega) (by omega))) rfl ?_
      refine WL.v (v_assign rfl rfl) rfl <| WL.nil <| ?_
      have hs : a.sets k := (by have h : ¬ a.set / 2 ^ k % 2 = 0 := h30; show a.set / 2 ^ k % 2 = 1; omega)
      exact WE.next (k + 1, m.without k) (by dsimp only; omega) ⟨by dsimp only; omega, by dsimp only; rw [aheadK, hm]; dsimp only; rw [if_pos hs, if_neg h44]⟩ (.int rfl (by dsimp only; omega) (.cons rfl (.cons rfl (.cons rfl (.cons rfl (.cons rfl (.cons rfl (.cons rfl (.cons rfl .nil))))))))) (.refl _)
   ·
    refine WL.nt <| WC.cond_f rfl <| WC.exit <| WE.then_exit <| WE.then_exit <| WE.block_hit <| WE.then_n <| WC.seq <| WC.region <| ?_
    obtain rfl : k = 9 := (by omega)
    rw [aheadD_some (show aheadK a r.d.m 9 = some m from hm)] at hc
    refine WL.v (v_fieldAddr0 rfl rfl fld_117_1) rfl <| WL.v (v_load1 rfl rfl one_113 (cellAt (v := .slice r.ad r.acts.length r.c) (ruC_acts r))) rfl <| WL.v (v_len_slice rfl rfl Tryz.underlying113) rfl <| ?_
    refine WL.makeN (m := 0) (c := r.acts.length) rfl rfl rfl (by omega) (by omega) (by omega) Tryz.underlying113 by_110 (by omega) (by omega) sz_110 zero_110 rfl (.none rfl) rfl rfl ?_
    intro g51 hg51
    generalize hZ : List.flatten _ = Z
    have hV0 : Vec 10 (some ⟨g51, 0, none⟩) 0 r.acts.length [] [.row g51 Z] := Vec.row (by rw [Nat.zero_mul]; rfl) (by rw [← hZ]; exact flat_len rfl _) (Nat.zero_le _)
    refine WL.to (L' := [.row g51 Z] ++ (.row g8 (mtL m) :: .row g7 r.cells :: (E ++ (K ++ [.row g2 (acL a)])))) (fun w hS => hS) <| WL.v (v_assign rfl rfl) rfl <| WL.nt <| WC.seq <| WC.seq <| WC.region <| WL.v (v_fieldAddr0 rfl rfl fld_117_1) rfl <| WL.v (v_load1 rfl rfl one_113 (cellAt (v := .slice r.ad r.acts.length r.c) (ruC_acts r))) rfl <| WL.v (v_len_slice rfl rfl Tryz.underlying113) rfl <| WL.v (v_move rfl rfl) rfl <| WL.nt <| WC.block <| WC.loop (fun x : AhT => [(55, .int .i64 x.j), (54, .int .i64 r.acts.length), (53, .slice r.ad r.acts.length r.c), (10, .slice x.ad x.j x.c), (8, .pointer (some ⟨g8, 0, none⟩)), (7, .pointer (some ⟨g7, 0, none⟩)), (15, .int .i64 i), (14, .int .i64 xs.length), (13, .slice xa xs.length xc), (2, .pointer (some ⟨g2, 0, none⟩)), (5, .slice ad ls.length c), (4, .slice none 0 0)]) (fun x => x.E ++ (.row g8 (mtL m) :: .row g7 r.cells :: (E ++ (K ++ [.row g2 (acL a)])))) (fun x => x.j ≤ r.acts.length ∧ Vec 10 x.ad x.j x.c (actsL ((r.acts.take x.j).map a.then)) x.E) (fun x => r.acts.length - x.j) ⟨0, some ⟨g51, 0, none⟩, r.acts.length, [.row g51 Z]⟩ ⟨Nat.zero_le _, hV0⟩ (.cons rfl (.cons rfl (.cons rfl (.cons rfl (.cons rfl (.cons rfl (.cons rfl (.cons rfl (.cons rfl (.cons rfl (.cons rfl (.cons rfl .nil)))))))))))) (.refl _) <| ?_
    rintro ⟨j, ad2, c2, E2⟩ ⟨hj, hV2⟩
    dsimp only at hj hV2
    dsimp only
    refine WC.seq <| WC.region <| ?_
    refine WL.test (v_lss rfl rfl rfl) (.none rfl) rfl rfl (fun h56 => ?_) (fun h56 => ?_)
    ·
     refine WL.nt <| WC.seq <| WC.cond_t rfl <| WC.skip <| WE.then_n <| WC.seq <| WC.block <| WC.seq <| WC.region <| ?_
     obtain ⟨b, hb⟩ : ∃ x, r.acts[j]? = some x := ⟨r.acts[j]'(by omega), List.getElem?_eq_getElem _⟩
     obtain ⟨b2, o2, ea2, r2⟩ := (hx.ok r hrm) (by intro hh; have := actsL_len r.acts; rw [hh] at this; simp at this; omega)
     have hbt := hrf.three (List.mem_of_getElem? hb)
     refine WL.v ((v_indexAddr (b := b2) (off := o2) (lo := j) rfl (by show some (Value.slice r.ad _ _) = _; rw [ea2]) rfl Tryz.underlying113 sz_110 rfl (by omega))) rfl ?_
     refine WL.v (v_loadN (cs := acL b) rfl rfl many_110 (acL_len b) (rgIn (fun h => h) (Rg.seg acL_len r2 hb))) rfl <| WL.alloc rfl zero_110 (.none rfl) rfl rfl <| ?_
     intro g12 hg12
     refine WL.storeW rfl rfl rfl rfl many_110 rfl rfl (.none rfl) rfl <| WL.as (L' := .row g12 (acL b) :: (E2 ++ (.row g8 (mtL m) :: .row g7 r.cells :: (E ++ (K ++ [.row g2 (acL a)]))))) rfl <| WL.nt <| WC.region <| WL.v (v_move rfl rfl) rfl <| WL.v (v_loadN rfl rfl many_110 rfl (allAt (g := g2))) rfl <| WL.v (v_loadN rfl rfl many_110 rfl (allAt (g := g12))) rfl <| WL.call rfl rfl ck_197 (.none rfl) rfl rfl <| ?_
     intro w hS
     refine Calls.then (Then_c w a b aO hbt.2.2) hS ?_
     refine WL.buildSlice rfl rfl Tryz.underlying113 sz_110 zero_110 rfl (by decide) (by show some (splice (List.replicate 1 _).flatten 0 (acL (a.then b))) = some (acL (a.then b)); exact congrArg some (splice_all rfl)) (.none rfl) rfl rfl ?_
     intro g63 hg63
     refine WL.to (L' := E2 ++ (.row g63 (acL (a.then b)) :: .row g8 (mtL m) :: .row g7 r.cells :: (E ++ (K ++ [.row g2 (acL a)])))) (fun w hS => hS.dropX [.row g12 (acL b)]) ?_
     refine WL.appendL rfl rfl rfl Tryz.underlying113 Tryz.underlying113 sz_110 by_110 zero_110 rfl rfl hV2 (new := acL (a.then b)) (fun _ => ⟨g63, 0, rfl, fun w hS => allAt (g := g63) w hS⟩) rfl rfl (by omega) (.none rfl) rfl rfl ?_
     intro ad64 c64 E64 hV64 hr64
     refine WL.v (v_assign rfl rfl) rfl <| WL.nil <| WE.block_n <| WE.then_n <| WC.region <| ?_
     refine WL.v (v_add rfl rfl rfl (w_i64 (by omega) (by omega))) rfl ?_
     refine WL.v (v_move rfl rfl) rfl <| WL.nil <| WE.to (L' := E64 ++ (.row g8 (mtL m) :: .row g7 r.cells :: (E ++ (K ++ [.row g2 (acL a)])))) (fun w hS => hS.dropX [.row g63 (acL (a.then b))]) <| ?_
     exact WE.next ⟨j + 1, ad64, c64, E64⟩ (by dsimp only; omega) ⟨by dsimp only; omega, by dsimp only; rw [List.take_add_one, hb, Option.toList_some, List.map_append, show actsL (List.map a.then (List.take j r.acts) ++ List.map a.then [b]) = actsL (List.map a.then (List.take j r.acts)) ++ acL (a.then b) from encL_snoc _ _ _]; exact hV64⟩ (.int rfl (by dsimp only; omega) (.cons rfl (.cons rfl (.cons rfl (.cons rfl (.cons rfl (.cons rfl (.cons rfl (.cons rfl (.cons rfl (.cons rfl (.cons rfl .nil)))))))))))) (.refl _)
    ·
     refine WL.nt <| WC.seq <| WC.cond_f rfl <| WC.exit <| WE.then_exit <| WE.then_exit <| WE.block_hit <| WE.then_n <| WC.region <| ?_
     obtain rfl : j = r.acts.length := (by omega)
     rw [List.take_length] at hV2
     have hml : (r.acts.map a.then).length = r.acts.length := List.length_map _
     rw [← hml] at hV2
     rw [← hml]
     refine WL.v (v_move rfl rfl) rfl <| WL.v (v_loadN rfl rfl many_115 rfl allAt) rfl <| WL.v (v_move rfl rfl) rfl <| WL.v (v_build rfl rfl zero_117 plc_117 rfl) rfl <| ?_
     refine WL.buildSlice rfl rfl Tryz.underlying34 sz_117 zero_117 rfl (by decide) (by show some (splice (List.replicate 1 _).flatten 0 (RuL.cells ⟨m, ad2, c2, r.acts.map a.then⟩)) = some (RuL.cells ⟨m, ad2, c2, r.acts.map a.then⟩); exact congrArg some (splice_all rfl)) (.none rfl) rfl rfl ?_
     intro g70 hg70
     refine WL.to (L' := E ++ (.row g70 (RuL.cells ⟨m, ad2, c2, r.acts.map a.then⟩) :: ((E2 ++ K) ++ [.row g2 (acL a)]))) (fun w hS => hS.dropX [.row g8 (mtL m), .row g7 r.cells]) ?_
     refine WL.appendL rfl rfl rfl Tryz.underlying34 Tryz.underlying34 sz_117 by_117 zero_117 rfl rfl hV (new := RuL.cells ⟨m, ad2, c2, r.acts.map a.then⟩) (fun _ => ⟨g70, 0, rfl, fun w hS => allAt (g := g70) w hS⟩) rfl rfl (by omega) (.none rfl) rfl rfl ?_
     intro ad71 c71 E71 hV71 hr71
     refine WL.v (v_assign rfl rfl) rfl <| WL.nil <| WE.block_n <| WE.then_n <| WC.region <| ?_
     refine WL.v (v_add rfl rfl rfl (w_i64 (by omega) (by omega))) rfl ?_
     refine WL.v (v_move rfl rfl) rfl <| WL.nil <| ?_
     exact WE.next ⟨i + 1, ls ++ [⟨m, ad2, c2, r.acts.map a.then⟩], ad71, c71, E71, E2 ++ K⟩ (by dsimp only; omega) ⟨by dsimp only; omega, by dsimp only; rw [List.length_append]; show ls.length + 1 ≤ _; omega, by dsimp only; rw [List.map_append, List.append_assoc]; exact hc, by dsimp only; rw [List.length_append, show rulesL (ls ++ [(⟨m, ad2, c2, r.acts.map a.then⟩ : RuL)]) = rulesL ls ++ RuL.cells ⟨m, ad2, c2, r.acts.map a.then⟩ from encL_snoc _ _ _]; exact hV71, fun x hx => (by
     rcases List.mem_append.1 hx with hx | hx
     · exact (hK x hx).more
     · rw [List.mem_singleton.1 hx]; exact ⟨E2, hV2, fun e he => List.mem_append_left _ he⟩)⟩ (.int rfl (by dsimp only; omega) (.cons rfl (.cons rfl (.cons rfl (.eq rfl (by dsimp only; rw [List.length_append]; rfl) (.cons rfl .nil)))))) (List.Sublist.append_left (.cons _ (.refl _)) _)
  ·
   refine WL.nt <| WC.seq <| WC.cond_f rfl <| WC.exit <| WE.then_exit <| WE.then_exit <| WE.block_hit <| WE.then_n <| WC.seq <| WC.region <| WL.v (v_move rfl rfl) rfl <| WL.v (v_assign rfl rfl) rfl <| WL.nt <| WC.ret <| ?_
   refine WE.scope_ret <| WE.ret1 (P := Tryz.prog) (.inl rfl) Tryz.results174 rfl <| ?_
   obtain rfl : i = xs.length := (by omega)
   rw [List.drop_length] at hc
   have hc : ls.map RuL.d = C := (by rw [← hc]; exact (List.append_nil _).symm)
   exact fun w' h => ⟨ad, c, E, K, ls, rfl, hc, hV, hK, hFit, by omega, h.dropX [.row g2 (acL a)]⟩
end Go.Proofs.YtkeonnnhogaggaaGreatDoor
