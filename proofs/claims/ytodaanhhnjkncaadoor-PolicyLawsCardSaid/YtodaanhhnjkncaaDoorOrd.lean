/- The engine: a region that draws its order, walked in an order of one's own: what yields the same in every world first, what only reads next, each alone that comes alone. -/
import Derived.Test.YtodaanhhnjkncaaDoorMap
namespace Go.Proofs.YtodaanhhnjkncaaDoor
open Go.RowKit

section
variable {P : Program} {ops : Array Oper} {md : Region.Mode} {C : World → Prop}

/-! ### The orders: what waits for what -/
def waitsB (md : Region.Mode) (ops : Array Oper) (h : Nat) : Nat → Nat → Bool
  | 0, _ => false
  | f + 1, t => Region.waitsFor md ops t h || (match ops[t]? with
    | some ot => ot.after.any fun e => Region.binds md e && waitsB md ops h f e.on
    | none => false)
def Closed (md : Region.Mode) (ops : Array Oper) (listed : Array Bool) : Prop :=
  ∀ j oj, ops[j]? = some oj → listed.getD j false = true → ∀ e ∈ oj.after, Region.binds md e = true → listed.getD e.on false = true
def closedB (md : Region.Mode) (ops : Array Oper) (listed : Array Bool) : Bool :=
  (List.range ops.size).all fun j => !listed.getD j false || (match ops[j]? with
    | some oj => oj.after.all fun e => !Region.binds md e || listed.getD e.on false
    | none => true)
theorem closedB_spec {listed : Array Bool} (h : closedB md ops listed = true) : Closed md ops listed := fun j oj hj hl e he hb => by
  have h1 := List.all_eq_true.1 h j (List.mem_range.2 (Array.getElem?_eq_some_iff.1 hj).1)
  rw [hl, hj] at h1
  simp only [Bool.not_true, Bool.false_or] at h1
  have h2 := Array.all_eq_true'.1 h1 e he
  rw [hb] at h2
  simpa using h2
theorem Closed.set {listed : Array Bool} {i : Nat} (hc : Closed md ops listed) (hi : i ∈ Region.ready md ops listed) : Closed md ops (listed.setIfInBounds i true) := fun j oj hj hl e he hb => by
  obtain ⟨_, oi, hoi, hall⟩ := mem_ready.1 hi
  by_cases hij : i = j
  · subst hij
    have : oj = oi := Option.some.inj (hj.symm.trans hoi)
    subst this
    exact getD_set_true (hall e he hb)
  · rw [getD_set_ne false hij] at hl
    exact getD_set_true (hc j oj hj hl e he hb)
theorem waits_spec {listed : Array Bool} {h : Nat} (hc : Closed md ops listed) (hun : listed.getD h false = false) : ∀ (f t : Nat), waitsB md ops h f t = true → listed.getD t false = false ∧ t ∉ Region.ready md ops listed
  | 0, _, hw => by cases hw
  | f + 1, t, hw => by
    simp only [waitsB, Bool.or_eq_true] at hw
    have key : ∃ ot, ops[t]? = some ot ∧ ∃ e ∈ ot.after, Region.binds md e = true ∧ listed.getD e.on false = false := by
      rcases hw with hw | hw
      · obtain ⟨ot, hot, e, he, hb, hon⟩ := Region.waitsFor_spec hw
        exact ⟨ot, hot, e, he, hb, by rw [hon]; exact hun⟩
      · split at hw
        · rename_i ot hot
          obtain ⟨e, he, hb⟩ := Array.any_eq_true'.1 hw
          simp only [Bool.and_eq_true] at hb
          exact ⟨ot, hot, e, he, hb.1, (waits_spec hc hun f e.on hb.2).1⟩
        · cases hw
    obtain ⟨ot, hot, e, he, hb, hon⟩ := key
    refine ⟨?_, fun hr => ?_⟩
    · cases hl : listed.getD t false with
      | false => rfl
      | true => have := hc t ot hot hl e he hb; rw [hon] at this; cases this
    · obtain ⟨_, o', ho', hall⟩ := mem_ready.1 hr
      have : o' = ot := Option.some.inj (ho'.symm.trans hot)
      subst this
      have := hall e he hb
      rw [hon] at this; cases this

/-! ### What only reads, in an order of one's own -/
def HeadQ (P : Program) (md : Region.Mode) (ops : Array Oper) (C : World → Prop) (Lq : Array Bool → Act → Prop) : Nat → Array Bool → Act → Prop
  | 0, listed, a => Lq listed a
  | f + 1, listed, a => Region.ready md ops listed ≠ [] ∧ ∀ i ∈ Region.ready md ops listed, qOp P ops C i (HeadQ P md ops C Lq f (listed.setIfInBounds i true)) a
theorem any_of_HeadQ {g : Nat} {Lq : Array Bool → Act → Prop} {Q' : Exit → Act → World → Prop} (hL : ∀ listed a w, C w → Lq listed a → wpAny P md ops Q' g listed a w) :
    ∀ (f : Nat) (listed : Array Bool) (a : Act) (w : World), C w → HeadQ P md ops C Lq f listed a → wpAny P md ops Q' (f + g) listed a w
  | 0, listed, a, w, hC, h => by rw [Nat.zero_add]; exact hL _ _ _ hC h
  | f + 1, listed, a, w, hC, h => by
    rw [show f + 1 + g = (f + g) + 1 by omega]
    exact ⟨fun h0 => absurd h0 h.1, fun i hi => wpOp_of_qOp hC (fun a' w' hC' h' => any_of_HeadQ hL f _ a' w' hC' h') (h.2 i hi)⟩
/-- tails: all that is not of the head and not done. Each of them waits for each of the head. -/
def sinkAll (md : Region.Mode) (ops : Array Oper) (hs : List Nat) (listed : Array Bool) : Bool :=
  (List.range ops.size).all fun t => listed.getD t false || hs.contains t || hs.all fun h => waitsB md ops h ops.size t
/-- A state of the head: closed; done are only the old ones and some of the head. -/
structure Inv (md : Region.Mode) (ops : Array Oper) (hs : List Nat) (listed0 listed : Array Bool) : Prop where
  closed : Closed md ops listed
  only : ∀ j, listed.getD j false = true → listed0.getD j false = true ∨ j ∈ hs
  size : listed.size = ops.size
theorem Inv.set {hs : List Nat} {listed0 listed : Array Bool} {i : Nat} (inv : Inv md ops hs listed0 listed) (hi : i ∈ Region.ready md ops listed) (hh : i ∈ hs) : Inv md ops hs listed0 (listed.setIfInBounds i true) :=
  ⟨inv.closed.set hi, fun j hj => by
    by_cases hij : i = j
    · subst hij; exact .inr hh
    · rw [getD_set_ne false hij] at hj; exact inv.only j hj, by simp [inv.size]⟩
theorem Inv.ready {hs : List Nat} {listed0 listed : Array Bool} {i : Nat} (inv : Inv md ops hs listed0 listed) (hmono : ∀ j, listed0.getD j false = true → listed.getD j false = true)
    (hsk : sinkAll md ops hs listed0 = true) (hh : i ∈ hs) (hun : listed.getD i false = false) : ∀ j ∈ Region.ready md ops listed, j ∈ hs := fun j hj => by
  obtain ⟨hju, oj, hoj, _⟩ := mem_ready.1 hj
  have hlt := (Array.getElem?_eq_some_iff.1 hoj).1
  have h1 := List.all_eq_true.1 hsk j (List.mem_range.2 hlt)
  simp only [Bool.or_eq_true] at h1
  rcases h1 with (h1 | h1) | h1
  · have := hmono j h1
    rw [getD_both hju] at this; cases this
  · simpa using h1
  · exact absurd hj (waits_spec inv.closed hun _ _ (List.all_eq_true.1 h1 i hh)).2

theorem HeadQ_first {hs : List Nat} {listed0 : Array Bool} {i : Nat} {oi : Oper} {v : Value} {Lq : Array Bool → Act → Prop} (hi : ops[i]? = some oi) (hsel : ∀ (j : Nat) (o : Oper) cs b, ops[j]? = some o → o.op ≠ .select cs b)
    (hsk : sinkAll md ops hs listed0 = true) (hh : i ∈ hs) (hdone : ∀ listed a, Lq listed a → ∀ j ∈ hs, listed.getD j false = true) :
    ∀ (f : Nat) (listed : Array Bool) (a : Act), Inv md ops hs listed0 listed → (∀ j, listed0.getD j false = true → listed.getD j false = true) →
      (∀ j oj, ops[j]? = some oj → j ≠ i → listed.getD j true = false → (∀ e ∈ oj.after, Region.binds md e = true → e.on ≠ i) → oi.apart ops oj = true) →
      i ∈ Region.ready md ops listed → YieldsIn P ops C oi v a →
      HeadQ P md ops C Lq f (listed.setIfInBounds i true) (a.put oi.dst v) → HeadQ P md ops C Lq (f + 1) listed a := by
  intro f
  induction f with
  | zero =>
    intro listed a inv hm _ hr hy H
    have hun := getD_both (mem_ready.1 hr).1
    refine ⟨fun h => (by rw [h] at hr; cases hr), fun j hj => ?_⟩
    have hjh := inv.ready hm hsk hh hun j hj
    by_cases hji : j = i
    · subst hji; exact hy.qOp hi H
    · have h1 := hdone _ _ H j hjh
      rw [getD_set_ne false (Ne.symm hji)] at h1
      have := getD_both (mem_ready.1 hj).1
      rw [h1] at this; cases this
  | succ f ih =>
    intro listed a inv hm hfree hr hy H
    have hun := getD_both (mem_ready.1 hr).1
    refine ⟨fun h => (by rw [h] at hr; cases hr), fun j hj => ?_⟩
    have hjh := inv.ready hm hsk hh hun j hj
    by_cases hji : j = i
    · subst hji; exact hy.qOp hi H
    · have h1 := H.2 j (ready_mono hj hji)
      obtain ⟨hjun, oj, hoj, hall⟩ := mem_ready.1 hj
      have hnot : ∀ e ∈ oj.after, Region.binds md e = true → e.on ≠ i := fun e he hb heq => by
        have h1 := hall e he hb
        rw [heq, hun] at h1
        cases h1
      have h2 := qOp_put hoj (hfree j oj hoj hji hjun hnot) (fun cs b => hsel i oi cs b hi) (fun cs b => hsel j oj cs b hoj) hy h1
      have hfree' : ∀ k ok, ops[k]? = some ok → k ≠ i → (listed.setIfInBounds j true).getD k true = false →
          (∀ e ∈ ok.after, Region.binds md e = true → e.on ≠ i) → oi.apart ops ok = true := fun k ok hk hki hun hno => by
        refine hfree k ok hk hki ?_ hno
        by_cases hjk : j = k
        · subst hjk; exact hjun
        · rw [getD_set_ne true hjk] at hun; exact hun
      refine qOp_mono (fun a' h3 => ih (listed.setIfInBounds j true) a' (inv.set hj hjh) (fun k hk => getD_set_true (hm k hk)) hfree' (ready_mono hr (Ne.symm hji)) h3.1 ?_) h2
      rw [Array.setIfInBounds_comm _ _ hji]
      exact h3.2

/-- The list with these marked. -/
def marks (listed : Array Bool) : List Nat → Array Bool
  | [] => listed
  | i :: is => marks (listed.setIfInBounds i true) is
def takesB (md : Region.Mode) (ops : Array Oper) : List Nat → Array Bool → Bool
  | [], _ => true
  | i :: is, listed => (Region.ready md ops listed).contains i && Region.free md ops listed i && takesB md ops is (listed.setIfInBounds i true)
def onesB (md : Region.Mode) (ops : Array Oper) : List Nat → Array Bool → Bool
  | [], _ => true
  | i :: is, listed => decide (Region.ready md ops listed = [i]) && onesB md ops is (listed.setIfInBounds i true)
/-- These operations, out of a region's. -/
def at_ (os : List Oper) (i : Nat) : Oper := os.getD i { op := .assign (.const .nilIface), dst := none, guard := none, after := #[], type := 0, pos := "" }
theorem at_some {os : List Oper} {i : Nat} {listed : Array Bool} (h : i ∈ Region.ready md os.toArray listed) : os.toArray[i]? = some (at_ os i) := by
  obtain ⟨_, o, ho, _⟩ := mem_ready.1 h
  rw [ho]
  have h2 : os[i]? = some o := by simpa using ho
  unfold at_
  rw [List.getD_eq_getElem?_getD, h2]; rfl

theorem marks_size : ∀ (js : List Nat) (listed : Array Bool), (marks listed js).size = listed.size
  | [], _ => rfl
  | i :: is, listed => by rw [marks, marks_size is]; simp

def wpPure (P : Program) (ops : Array Oper) (K : Act → Prop) : List Oper → Act → Prop
  | [], a => K a
  | o :: rest, a => ∃ v, Yields P ops o v a ∧ wpPure P ops K rest (a.put o.dst v)
/-- Q, but never at a panic. -/
def NP (Q : Exit → Act → World → Prop) : Exit → Act → World → Prop
  | .panic _, _, _ => False
  | e, a, w => Q e a w
theorem NP.imp {Q : Exit → Act → World → Prop} : ∀ (e : Exit) (a : Act) (w : World), NP Q e a w → Q e a w := fun e a w h => by
  cases e <;> first | exact h | exact (h : False).elim
/-- Q, but K where the operations have come to their end. -/
def RQ (K : Act → World → Prop) (Q : Exit → Act → World → Prop) : Exit → Act → World → Prop
  | .normal, a, w => K a w
  | e, a, w => Q e a w
theorem RQ.out {K : Act → World → Prop} {Q : Exit → Act → World → Prop} (h : LetsOut (RQ K Q)) : LetsOut Q := h
theorem wpRQ {K K' : Act → World → Prop} {Q : Exit → Act → World → Prop} {o : Oper} {a : Act} {w : World} (h : o.wp P a w K' (RQ K Q)) : o.wp P a w K' Q := by
  unfold Oper.wp at *
  generalize (execOp a.eval o).run P w = r at *
  cases r with
  | ok n w' =>
    cases n <;> simp only [Oper.upon] at h ⊢ <;>
      first
        | exact h
        | exact Calls.mono h (fun e w'' he => by cases e <;> first | exact he | exact RQ.out he)
  | halt x w' => cases x <;> simp only [Oper.upon] at h ⊢ <;> exact h
theorem any_of_pure {Q : Exit → Act → World → Prop} {os : List Oper} {K : Act → Prop} {w : World} {g : Nat} (hsel : Region.noSelect os.toArray = true) : ∀ (js : List Nat) (listed : Array Bool) (a : Act), takesB .any os.toArray js listed = true →
    wpPure P os.toArray K (js.map (at_ os)) a → (∀ a, K a → wpAny P .any os.toArray (NP Q) g (marks listed js) a w) → wpAny P .any os.toArray (NP Q) (js.length + g) listed a w
  | [], listed, a, _, h, hK => by simpa [marks] using hK a h
  | i :: is, listed, a, hB, h, hK => by
    simp only [takesB, Bool.and_eq_true] at hB
    obtain ⟨⟨hr, hf⟩, hB'⟩ := hB
    obtain ⟨v, hy, h'⟩ := h
    have hr' : i ∈ Region.ready .any os.toArray listed := by simpa using hr
    rw [List.length_cons, show is.length + 1 + g = (is.length + g) + 1 by omega]
    exact wpAny_take (at_some hr') hsel hf hr (fun c a w hh => hh) hy (any_of_pure hsel is _ _ hB' h' hK)
theorem any_of_ones {Q : Exit → Act → World → Prop} {os : List Oper} {K : Act → World → Prop} {g : Nat} : ∀ (js : List Nat) (listed : Array Bool) (a : Act) (w : World), onesB .any os.toArray js listed = true →
    wpList P os.toArray (RQ K Q) (js.map (at_ os)) a w → (∀ a w, K a w → wpAny P .any os.toArray Q g (marks listed js) a w) → wpAny P .any os.toArray Q (js.length + g) listed a w
  | [], listed, a, w, _, h, hK => by simpa [marks] using hK a w h
  | i :: is, listed, a, w, hB, h, hK => by
    simp only [onesB, Bool.and_eq_true, decide_eq_true_eq] at hB
    rw [List.length_cons, show is.length + 1 + g = (is.length + g) + 1 by omega]
    refine ⟨fun h1 => (by rw [hB.1] at h1; cases h1), fun j hj => ?_⟩
    have ho := at_some hj
    rw [hB.1] at hj
    have hji : j = i := by simpa using hj
    subst hji
    have hw : wpOp P os.toArray Q j (wpList P os.toArray (RQ K Q) (is.map (at_ os))) a w := by
      unfold wpOp
      simp only [ho]
      have h2 : wpList P os.toArray (RQ K Q) (at_ os j :: is.map (at_ os)) a w := h
      unfold wpList at h2
      split
      · rename_i hwd
        rw [if_pos hwd] at h2
        exact h2.imp wpRQ (fun h => ⟨h.1, RQ.out h.2⟩)
      · rename_i hwd
        rw [if_neg hwd] at h2
        exact h2
    exact wpOp_mono (fun a' w' h' => any_of_ones is _ a' w' hB.2 h' hK) hw
theorem HeadQ_list {os : List Oper} {C : World → Prop} {hs : List Nat} {listed0 : Array Bool} {Lq : Act → Prop} (hsel : Region.noSelect os.toArray = true) (hsk : sinkAll .any os.toArray hs listed0 = true) :
    ∀ (js : List Nat) (listed : Array Bool) (a : Act), (∀ j ∈ js, j ∈ hs) → Inv .any os.toArray hs listed0 listed → (∀ j, listed0.getD j false = true → listed.getD j false = true) → (∀ j ∈ hs, j ∈ js ∨ listed.getD j false = true) →
    takesB .any os.toArray js listed = true → wpQuiet P os.toArray C Lq (js.map (at_ os)) a →
    HeadQ P .any os.toArray C (fun listed' a' => (∀ j ∈ hs, listed'.getD j false = true) ∧ Inv .any os.toArray hs listed0 listed' ∧ (∀ j, listed0.getD j false = true → listed'.getD j false = true) ∧ Lq a') js.length listed a
  | [], listed, a, _, inv, hm, hd, _, h => ⟨fun j hj => (hd j hj).resolve_left (by simp), inv, hm, h⟩
  | i :: is, listed, a, hj, inv, hm, hd, hB, h => by
    simp only [takesB, Bool.and_eq_true] at hB
    obtain ⟨⟨hr, hf⟩, hB'⟩ := hB
    have hr' : i ∈ Region.ready .any os.toArray listed := by simpa using hr
    have h0 := at_some hr'
    have hst : qOp P os.toArray C i (wpQuiet P os.toArray C Lq (is.map (at_ os))) a := by unfold qOp; simp only [h0]; exact h
    obtain ⟨v, hy, hK⟩ := yieldsIn_of_qOp h0 hst
    have hih := hj i (by simp)
    refine HeadQ_first (hs := hs) (listed0 := listed0) h0 (Region.noSelect_spec hsel) hsk hih (fun _ _ h j hj => h.1 j hj) is.length listed a inv hm (Region.free_spec h0 hf) hr' hy ?_
    have := HeadQ_list hsel hsk is (listed.setIfInBounds i true) (a.put (at_ os i).dst v) (fun j h => hj j (by simp [h])) (inv.set hr' hih) (fun j h => getD_set_true (hm j h)) (fun j h => by
      rcases hd j h with h1 | h1
      · rcases List.mem_cons.1 h1 with rfl | h1
        · right
          have hlt : j < listed.size := by
            have := (mem_ready.1 hr').1
            rcases Nat.lt_or_ge j listed.size with h' | h'
            · exact h'
            · simp [Array.getElem?_eq_none h'] at this
          simp [hlt]
        · exact .inl h1
      · exact .inr (getD_set_true h1)) hB' hK
    exact this
theorem marks_get : ∀ (js : List Nat) (listed : Array Bool) (j : Nat), (marks listed js).getD j false = true ↔ listed.getD j false = true ∨ (j ∈ js ∧ j < listed.size)
  | [], listed, j => by simp [marks]
  | i :: is, listed, j => by
    rw [marks, marks_get is]
    have hsz : (listed.setIfInBounds i true).size = listed.size := by simp
    rw [hsz]
    by_cases hij : i = j
    · subst hij
      by_cases hlt : i < listed.size
      · simp [hlt]
      · simp [hlt]
    · rw [getD_set_ne false hij]
      have : j ≠ i := fun e => hij e.symm
      simp [this]
theorem marks_eq {hs : List Nat} {listed0 listed : Array Bool} (hl : ∀ j, listed.getD j false = true ↔ listed0.getD j false = true ∨ (j ∈ hs ∧ j < listed0.size)) (hsz : listed.size = listed0.size) : listed = marks listed0 hs := by
  apply Array.ext
  · rw [hsz, marks_size]
  · intro j h1 h2
    have e := (hl j).trans (marks_get hs listed0 j).symm
    rw [Array.getD_eq_getD_getElem?, Array.getD_eq_getD_getElem?, Array.getElem?_eq_getElem h1, Array.getElem?_eq_getElem h2] at e
    simp only [Option.getD_some] at e
    cases ha : listed[j] <;> cases hb : (marks listed0 hs)[j] <;> simp_all

/-! ### The steps -/
variable {Q : Exit → Act → World → Prop} {n : Nat} {p : Nat → Prop} {w0 : World} {o : Oper} {rest os : List Oper} {l : Kn} {L : List Ent} {K : Act → World → Prop}
/-- What is left of a region, of which these are done. -/
def WR (P : Program) (os : List Oper) (Q : Exit → Act → World → Prop) (n : Nat) (p : Nat → Prop) (w0 : World) (g : Nat) (listed : Array Bool) (l : Kn) (L : List Ent) : Prop :=
  ∀ a w, Has n a l → St p w0 w L → wpAny P .any os.toArray (NP Q) g listed a w
def WP (P : Program) (ops : Array Oper) (K : Act → World → Prop) (n : Nat) (p : Nat → Prop) (w0 : World) (rest : List Oper) (l : Kn) (L : List Ent) : Prop :=
  ∀ a, Has n a l → wpPure P ops (fun a' => ∀ w, St p w0 w L → K a' w) rest a
theorem WC.orders {id : Nat} (hm : P.follows .mixedOrders = true) (h : WR P os Q n p w0 os.length (Array.replicate os.length false) l L) : WC P (.region id os.toArray true) Q n p w0 l L := fun a w ha hS =>
  Code.wp_mono NP.imp (wp_region_any hm (by simpa using h a w.drew ha hS.drew))
/-- What is left of the region, as what follows. -/
def Rest (P : Program) (os : List Oper) (Q : Exit → Act → World → Prop) (g : Nat) (listed : Array Bool) : Act → World → Prop := fun a w => wpAny P .any os.toArray (NP Q) g listed a w
theorem WR.first {listed : Array Bool} {g : Nat} (js : List Nat) (hsel : Region.noSelect os.toArray = true) (hB : takesB .any os.toArray js listed = true) (h : WP P os.toArray (Rest P os Q g (marks listed js)) n p w0 (js.map (at_ os)) l L) : WR P os Q n p w0 (js.length + g) listed l L := fun a w ha hS =>
  any_of_pure (K := fun a' => ∀ w, St p w0 w L → Rest P os Q g (marks listed js) a' w) hsel js listed a hB (h a ha) (fun _ h => h w hS)
theorem WR.read {listed : Array Bool} {g : Nat} (js : List Nat) (hsel : Region.noSelect os.toArray = true) (hB : takesB .any os.toArray js listed = true) (hc : closedB .any os.toArray listed = true) (hsk : sinkAll .any os.toArray js listed = true) (hsz : listed.size = os.length)
    (h : WQ P os.toArray (Rest P os Q g (marks listed js)) n p w0 (js.map (at_ os)) l L) : WR P os Q n p w0 (js.length + g) listed l L := fun a w ha hS => by
  have hsz' : listed.size = os.toArray.size := by simpa using hsz
  have H := HeadQ_list (P := P) (C := fun w => St p w0 w L) hsel hsk js listed a (fun _ h => h) ⟨closedB_spec hc, fun _ h => .inl h, hsz'⟩ (fun _ h => h) (fun _ h => .inl h) hB (h a ha)
  refine any_of_HeadQ (g := g) ?_ js.length listed a w hS H
  rintro listed' a' w' hC ⟨h1, inv, hm, hK⟩
  have e : listed' = marks listed js := marks_eq (fun j => by
    constructor
    · intro hj
      rcases inv.only j hj with h2 | h2
      · exact .inl h2
      · refine .inr ⟨h2, ?_⟩
        rcases Nat.lt_or_ge j listed'.size with h' | h'
        · rw [inv.size, ← hsz'] at h'; exact h'
        · simp [Array.getElem?_eq_none h'] at hj
    · rintro (h2 | ⟨h2, _⟩)
      · exact hm j h2
      · exact h1 j h2) (inv.size.trans hsz'.symm)
  rw [e]
  exact hK w' hC
theorem WR.ones {listed : Array Bool} {g : Nat} (js : List Nat) (hB : onesB .any os.toArray js listed = true) (h : WL P os.toArray (RQ (Rest P os Q g (marks listed js)) (NP Q)) n p w0 (js.map (at_ os)) l L) : WR P os Q n p w0 (js.length + g) listed l L := fun a w ha hS =>
  any_of_ones js listed a w hB (h a w ha hS) (fun _ _ h => h)
theorem WR.done {listed : Array Bool} (hB : Region.ready .any os.toArray listed = []) (h : WE Q .normal n p w0 l L) : WR P os Q n p w0 0 listed l L := fun a w ha hS => ⟨hB, h a w ha hS⟩
theorem WP.nil {listed : Array Bool} {g : Nat} (h : WR P os Q n p w0 g listed l L) : WP P os.toArray (Rest P os Q g listed) n p w0 [] l L := fun a ha w hS => h a w ha hS
theorem WQ.nilR {listed : Array Bool} {g : Nat} (h : WR P os Q n p w0 g listed l L) : WQ P os.toArray (Rest P os Q g listed) n p w0 [] l L := fun a ha w hS => h a w ha hS
theorem WL.nilR {listed : Array Bool} {g : Nat} (h : WR P os Q n p w0 g listed l L) : WL P os.toArray (RQ (Rest P os Q g listed) (NP Q)) n p w0 [] l L := fun a w ha hS => h a w ha hS
theorem WP.val {d : Nat} {v : Value} (hv : Val P (fun _ => True) n l o v) (hg : On ops o l) (hd : o.dst = some d) (hn : Nat.blt d n = true)
    (h : WP P ops K n p w0 rest ((d, v) :: l) L) : WP P ops K n p w0 (o :: rest) l L := fun a ha =>
  ⟨v, .inl ⟨hg.ok ha, fun w => hv a w ha trivial⟩, h _ (ha.put_any hd hn v)⟩
theorem WP.skip {j dj d : Nat} {b : Bool} {v : Value} (hg : o.guard = some (j, b)) (hj : (ops[j]?).bind (·.dst) = some dj) (hl : look l dj = some v) (hv : isB v b = false) (hd : o.dst = some d) (hn : Nat.blt d n = true)
    (h : WP P ops K n p w0 rest ((d, undef) :: l) L) : WP P ops K n p w0 (o :: rest) l L := fun a ha =>
  ⟨undef, .inr ⟨by rw [wanted_not hg hj ha hl hv], rfl⟩, h _ (ha.put_any hd hn _)⟩
theorem WP.test {q : Prop} [Decidable q] {d : Nat} (hv : Val P (fun _ => True) n l o (.bool (decide q))) (hg : On ops o l) (hd : o.dst = some d) (hn : Nat.blt d n = true)
    (ht : q → WP P ops K n p w0 rest ((d, .bool true) :: l) L) (hf : ¬ q → WP P ops K n p w0 rest ((d, .bool false) :: l) L) : WP P ops K n p w0 (o :: rest) l L := by
  by_cases hq : q
  · exact WP.val hv hg hd hn (by rw [decide_eq_true hq]; exact ht hq)
  · exact WP.val hv hg hd hn (by rw [decide_eq_false hq]; exact hf hq)
theorem WL.as {L' : List Ent} {Q : Exit → Act → World → Prop} (e : L = L') (h : WL P ops Q n p w0 rest l L') : WL P ops Q n p w0 rest l L := e ▸ h
theorem WQ.as {L' : List Ent} (e : L = L') (h : WQ P ops K n p w0 rest l L') : WQ P ops K n p w0 rest l L := e ▸ h
theorem WC.as {L' : List Ent} {c : Code} (e : L = L') (h : WC P c Q n p w0 l L') : WC P c Q n p w0 l L := e ▸ h
theorem WE.as {L' : List Ent} {e : Exit} (he : L = L') (h : WE Q e n p w0 l L') : WE Q e n p w0 l L := he ▸ h
theorem rangeOld {b off m : Nat} {f : Nat → Int} (hp : ¬ p b) (h : Rd w0 b off m f) : ∀ w, St p w0 w L → w.rangeAt b off (bcs f m) := fun _ hS => (hS.oldRd hp h).range
end
end Go.Proofs.YtodaanhhnjkncaaDoor
