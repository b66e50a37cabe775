/- Texts joined: engine, contracts and laws, in the order in which they build. -/
import Derived.Shelf.SlSortCmp.InsertionK
import Derived.Shelf.SlLaysF0
import Derived.Shelf.SlSortCmp.WholeK
import Derived.Test.YtkeonnnhogaggaaGreatDoorBaStageChecks
/- The engine: a region that draws its order, where one allocation may come up at any place among what only reads. -/
namespace Go.Proofs.YtkeonnnhogaggaaGreatDoor
open Go.RowKit

section
variable {P : Program} {ops : Array Oper} {md : Region.Mode} {I : World → Prop} {R : World → World → Prop}

/-- One value in every world of the class; R: the world got and the world handed back. -/
def YieldsR (P : Program) (ops : Array Oper) (I : World → Prop) (R : World → World → Prop) (o : Oper) (v : Value) (a : Act) : Prop :=
  (Region.wanted o (yielded ops a.tmps) = true ∧ ∀ w, I w → o.quietAt P a (R w) w v) ∨ (Region.wanted o (yielded ops a.tmps) = false ∧ v = undef)
theorem YieldsR.of_same {o : Oper} {v : Value} {a a' : Act} (hy : YieldsR P ops I R o v a) (he : execOp a'.eval o = execOp a.eval o)
    (hw : Region.wanted o (yielded ops a'.tmps) = Region.wanted o (yielded ops a.tmps)) : YieldsR P ops I R o v a' := by
  unfold YieldsR Oper.quietAt at *
  rw [he, hw]
  exact hy
def Yv (P : Program) (ops : Array Oper) (I : World → Prop) (R : World → World → Prop) (ps : List Nat) (i : Nat) (o : Oper) (v : Value) (a : Act) : Prop :=
  if i ∈ ps then Yields P ops o v a else YieldsR P ops I R o v a
theorem Yv.put {ps : List Nat} {i : Nat} {o : Oper} {v u : Value} {a : Act} {dst : Option Tmp} (hs : ∀ cs b, o.op ≠ .select cs b) (hd : ∀ d, dst = some d → d ∉ o.looksAt ops) :
    Yv P ops I R ps i o v (a.put dst u) ↔ Yv P ops I R ps i o v a := by
  have e1 := execOp_put o hs a dst u hd
  have e2 := wanted_put (ops := ops) o a dst u hd
  unfold Yv
  split
  · exact ⟨fun h => h.of_same e1.symm e2.symm, fun h => h.of_same e1 e2⟩
  · exact ⟨fun h => h.of_same e1.symm e2.symm, fun h => h.of_same e1 e2⟩
theorem wpOp_of_Yv {ps : List Nat} {i : Nat} {o : Oper} {v : Value} {a : Act} {w : World} {K : Act → World → Prop} {Q : Exit → Act → World → Prop} (ho : ops[i]? = some o) (hy : Yv P ops I R ps i o v a) (hI : I w)
    (hK : ∀ w', w' = w ∨ R w w' → K (a.put o.dst v) w') : wpOp P ops Q i K a w := by
  unfold Yv at hy
  split at hy
  · exact hy.wpOp ho (hK w (.inl rfl))
  · unfold wpOp
    simp only [ho]
    rcases hy with ⟨hw, hv⟩ | ⟨hw, rfl⟩
    · simp only [hw, if_true]
      refine .inl ?_
      have h3 := hv w hI
      unfold Oper.quietAt at h3
      unfold Oper.wp
      generalize (execOp a.eval o).run P w = r at *
      cases r with
      | ok n w' =>
        cases n <;> simp only [Oper.quietUpon] at h3 <;> simp only [Oper.upon]
        case value u =>
          obtain ⟨e1, e2⟩ := h3
          rw [e1, e2]
          exact hK _ (.inl rfl)
        case skip =>
          obtain ⟨e1, e2⟩ := h3
          rw [e1, ← e2]
          exact hK _ (.inl rfl)
        case enter f args =>
          obtain ⟨e1, hc⟩ := h3
          rw [e1]
          exact hc.mono fun e w'' ⟨he, hw''⟩ => by subst he; exact hK _ (.inr hw'')
      | halt x w' => simp only [Oper.quietUpon] at h3
    · simp only [hw, Bool.false_eq_true, if_false]; exact hK w (.inl rfl)

def HeadM (P : Program) (md : Region.Mode) (ops : Array Oper) (I : World → Prop) (R : World → World → Prop) (hs ps : List Nat) (Lq : Array Bool → Act → Prop) : Nat → Array Bool → Act → Prop
  | 0, listed, a => Lq listed a
  | f + 1, listed, a => (∃ i ∈ Region.ready md ops listed, i ∈ hs) ∧ ∀ i ∈ Region.ready md ops listed, i ∈ hs → ∃ o v, ops[i]? = some o ∧ Yv P ops I R ps i o v a ∧ HeadM P md ops I R hs ps Lq f (listed.setIfInBounds i true) (a.put o.dst v)
theorem HeadM_first {hs ps : List Nat} {i : Nat} {oi : Oper} {v : Value} {Lq : Array Bool → Act → Prop} (hi : ops[i]? = some oi) (hsel : ∀ (j : Nat) (o : Oper) cs b, ops[j]? = some o → o.op ≠ .select cs b)
    (hh : i ∈ hs) (hdone : ∀ listed a, Lq listed a → ∀ j ∈ hs, listed.getD j false = true) :
    ∀ (f : Nat) (listed : Array Bool) (a : Act),
      (∀ j oj, ops[j]? = some oj → j ≠ i → listed.getD j true = false → (∀ e ∈ oj.after, Region.binds md e = true → e.on ≠ i) → oi.apart ops oj = true) →
      i ∈ Region.ready md ops listed → Yv P ops I R ps i oi v a →
      HeadM P md ops I R hs ps Lq f (listed.setIfInBounds i true) (a.put oi.dst v) → HeadM P md ops I R hs ps Lq (f + 1) listed a := by
  intro f
  induction f with
  | zero =>
    intro listed a _ hr hy H
    refine ⟨⟨i, hr, hh⟩, fun j hj hjh => ?_⟩
    by_cases hji : j = i
    · subst hji; exact ⟨oi, v, hi, hy, H⟩
    · have h1 := hdone _ _ H j hjh
      rw [getD_set_ne false (Ne.symm hji)] at h1
      have := getD_both (mem_ready.1 hj).1
      rw [h1] at this; cases this
  | succ f ih =>
    intro listed a hfree hr hy H
    have hun := getD_both (mem_ready.1 hr).1
    refine ⟨⟨i, hr, hh⟩, fun j hj hjh => ?_⟩
    by_cases hji : j = i
    · subst hji; exact ⟨oi, v, hi, hy, H⟩
    · obtain ⟨oj', u, hoj', hyj, Hj⟩ := H.2 j (ready_mono hj hji) hjh
      obtain ⟨hjun, oj, hoj, hall⟩ := mem_ready.1 hj
      obtain rfl : oj' = oj := Option.some.inj (hoj'.symm.trans hoj)
      have hnot : ∀ e ∈ oj'.after, Region.binds md e = true → e.on ≠ i := fun e he hb heq => by
        have h1 := hall e he hb
        rw [heq, hun] at h1
        cases h1
      obtain ⟨h1, h2, h3⟩ := Oper.apart_spec (hfree j oj' hoj hji hjun hnot)
      have hfree' : ∀ k ok, ops[k]? = some ok → k ≠ i → (listed.setIfInBounds j true).getD k true = false →
          (∀ e ∈ ok.after, Region.binds md e = true → e.on ≠ i) → oi.apart ops ok = true := fun k ok hk hki hun hno => by
        refine hfree k ok hk hki ?_ hno
        by_cases hjk : j = k
        · subst hjk; exact hjun
        · rw [getD_set_ne true hjk] at hun; exact hun
      refine ⟨oj', u, hoj, (Yv.put (fun cs b => hsel j oj' cs b hoj) h1).1 hyj, ih _ _ hfree' (ready_mono hr (Ne.symm hji)) ((Yv.put (fun cs b => hsel i oi cs b hi) h3).2 hy) ?_⟩
      rw [Array.setIfInBounds_comm _ _ hji, ← Act.put_comm a v u h2]
      exact Hj
theorem HeadM_over {hs ps : List Nat} {k d : Nat} {u : Value} {Lq Lq' : Array Bool → Act → Prop} (hsel : ∀ (j : Nat) (o : Oper) cs b, ops[j]? = some o → o.op ≠ .select cs b) (hk : k ∉ hs)
    (hno : ∀ i ∈ hs, ∀ o, ops[i]? = some o → d ∉ o.looksAt ops ∧ o.dst ≠ some d ∧ ∀ e ∈ o.after, Region.binds md e = true → e.on ≠ k)
    (hL : ∀ listed a, Lq listed a → Lq' (listed.setIfInBounds k true) (a.put (some d) u)) :
    ∀ (f : Nat) (listed : Array Bool) (a : Act), HeadM P md ops I R hs ps Lq f listed a → HeadM P md ops I R hs ps Lq' f (listed.setIfInBounds k true) (a.put (some d) u)
  | 0, listed, a, H => hL _ _ H
  | f + 1, listed, a, ⟨⟨i, hr, hh⟩, H⟩ => by
    refine ⟨⟨i, ready_mono hr (fun e => hk (e ▸ hh)), hh⟩, fun j hj hjh => ?_⟩
    have hjk : k ≠ j := fun e => hk (e ▸ hjh)
    have hj' : j ∈ Region.ready md ops listed := by
      obtain ⟨h1, o, ho, hall⟩ := mem_ready.1 hj
      refine mem_ready.2 ⟨by rw [getD_set_ne true hjk] at h1; exact h1, o, ho, fun e he hb => ?_⟩
      have := hall e he hb
      rw [getD_set_ne false (Ne.symm ((hno j hjh o ho).2.2 e he hb))] at this
      exact this
    obtain ⟨o, v, ho, hy, hn⟩ := H j hj' hjh
    obtain ⟨n1, n2, _⟩ := hno j hjh o ho
    refine ⟨o, v, ho, (Yv.put (fun cs b => hsel j o cs b ho) (fun d' e => by cases e; exact n1)).2 hy, ?_⟩
    have := HeadM_over hsel hk hno hL f _ _ hn
    rw [Array.setIfInBounds_comm _ _ hjk, Act.put_comm a (x := some d) (y := o.dst) u v (fun d' e => by cases e; exact n2)]
    exact this

theorem Has.put_nil {n : Nat} {a : Act} (h : Has n a []) (dst : Option Nat) (v : Value) : Has n (a.put dst v) [] := by
  cases dst with
  | none => exact h
  | some d => exact ⟨by simp [Act.put, h.size], h.defers, fun t v hv => by cases hv⟩

/-! ### The checks -/
def sinkOne (md : Region.Mode) (ops : Array Oper) (hs : List Nat) (k : Nat) (listed : Array Bool) : Bool :=
  (List.range ops.size).all fun t => listed.getD t false || hs.contains t || t == k || waitsB md ops k ops.size t
def sinkHead (md : Region.Mode) (ops : Array Oper) (hs hs1 : List Nat) (listed : Array Bool) : Bool :=
  (List.range ops.size).all fun t => listed.getD t false || hs.contains t || hs1.all fun h => waitsB md ops h ops.size t
def overB (md : Region.Mode) (ops : Array Oper) (hs : List Nat) (k d : Nat) : Bool :=
  hs.all fun i => i != k && match ops[i]? with
    | some o => !(o.looksAt ops).contains d && o.dst != some d && o.after.all fun e => !Region.binds md e || e.on != k
    | none => true
theorem overB_spec {hs : List Nat} {k d : Nat} (h : overB md ops hs k d = true) : k ∉ hs ∧ ∀ i ∈ hs, ∀ o, ops[i]? = some o → d ∉ o.looksAt ops ∧ o.dst ≠ some d ∧ ∀ e ∈ o.after, Region.binds md e = true → e.on ≠ k := by
  have h1 := List.all_eq_true.1 h
  refine ⟨fun hk => ?_, fun i hi o ho => ?_⟩
  · have := h1 k hk
    simp at this
  · have := h1 i hi
    simp only [ho, Bool.and_eq_true, Bool.not_eq_true', bne_iff_ne, ne_eq] at this
    refine ⟨by simpa using this.2.1.1, this.2.1.2, fun e he hb => ?_⟩
    have h2 := Array.all_eq_true'.1 this.2.2 e he
    rw [hb] at h2
    simpa using h2
/-- What is pure may be taken ahead of all but what waits for it, when these are done. -/
def freeB (md : Region.Mode) (ops : Array Oper) (hs1 ps : List Nat) (listed : Array Bool) : Bool :=
  ps.all fun i => match ops[i]? with
    | some oi => (List.range ops.size).all fun j => j == i || listed.getD j false || hs1.contains j || match ops[j]? with
      | some oj => (oj.after.any fun e => Region.binds md e && e.on == i) || oi.apart ops oj
      | none => true
    | none => true

/-! ### The allocation is done -/
theorem any_of_B {hs1 ps : List Nat} {listed1 : Array Bool} {D : World → Prop} {g : Nat} {Q : Exit → Act → World → Prop} {Lq : Array Bool → Act → Prop} (hsel : Region.noSelect ops = true) (hDI : ∀ w, D w → I w) (hDR : ∀ w w', D w → R w w' → D w')
    (hsk : sinkHead md ops (hs1 ++ ps) hs1 listed1 = true) (hfr : freeB md ops hs1 ps listed1 = true)
    (hfin : ∀ listed a w, Inv md ops (hs1 ++ ps) listed1 listed → (∀ j, listed1.getD j false = true → listed.getD j false = true) → Lq listed a → D w → wpAny P md ops (NP Q) g listed a w) :
    ∀ (f : Nat) (listed : Array Bool) (a : Act) (w : World), Inv md ops (hs1 ++ ps) listed1 listed → (∀ j, listed1.getD j false = true → listed.getD j false = true) → D w → HeadM P md ops I R (hs1 ++ ps) ps Lq f listed a → wpAny P md ops (NP Q) (f + g) listed a w
  | 0, listed, a, w, inv, hm, hD, H => by rw [Nat.zero_add]; exact hfin _ _ _ inv hm H hD
  | f + 1, listed, a, w, inv, hm, hD, ⟨⟨i0, hr0, hh0⟩, H⟩ => by
    rw [show f + 1 + g = (f + g) + 1 by omega]
    by_cases hun : ∃ h ∈ hs1, listed.getD h false = false
    · obtain ⟨h, hh1, hun⟩ := hun
      refine ⟨fun h0 => (by rw [h0] at hr0; cases hr0), fun i hi => ?_⟩
      have hih : i ∈ hs1 ++ ps := by
        obtain ⟨hju, oj, hoj, _⟩ := mem_ready.1 hi
        have hlt := (Array.getElem?_eq_some_iff.1 hoj).1
        have h1 := List.all_eq_true.1 hsk i (List.mem_range.2 hlt)
        simp only [Bool.or_eq_true] at h1
        rcases h1 with (h1 | h1) | h1
        · have := hm i h1
          rw [getD_both hju] at this; cases this
        · simpa using h1
        · exact absurd hi (waits_spec inv.closed hun _ _ (List.all_eq_true.1 h1 h hh1)).2
      obtain ⟨o, v, ho, hy, hn⟩ := H i hi hih
      refine wpOp_of_Yv ho hy (hDI w hD) fun w' hw' => any_of_B hsel hDI hDR hsk hfr hfin f _ _ w' (inv.set hi hih) (fun j hj => getD_set_true (hm j hj)) ?_ hn
      rcases hw' with rfl | hw'
      · exact hD
      · exact hDR _ _ hD hw'
    · have hall : ∀ h ∈ hs1, listed.getD h false = true := fun h hh => by
        cases e : listed.getD h false with
        | true => rfl
        | false => exact absurd ⟨h, hh, e⟩ hun
      have hu0 := getD_both (mem_ready.1 hr0).1
      have hp : i0 ∈ ps := by
        rcases List.mem_append.1 hh0 with h | h
        · rw [hall i0 h] at hu0; cases hu0
        · exact h
      obtain ⟨o, v, ho, hy, hn⟩ := H i0 hr0 hh0
      unfold Yv at hy
      rw [if_pos hp] at hy
      refine wpAny_first ho (Region.noSelect_spec hsel) (fun c a w hh => hh) (f + g) listed a w ?_ hr0 hy (any_of_B hsel hDI hDR hsk hfr hfin f _ _ w (inv.set hr0 hh0) (fun j hj => getD_set_true (hm j hj)) hD hn)
      intro j oj hoj hji hju hno
      have hlt := (Array.getElem?_eq_some_iff.1 hoj).1
      have h1 := List.all_eq_true.1 hfr i0 hp
      simp only [ho] at h1
      have h2 := List.all_eq_true.1 h1 j (List.mem_range.2 hlt)
      simp only [hoj, Bool.or_eq_true, beq_iff_eq] at h2
      rcases h2 with ((h2 | h2) | h2) | h2
      · exact absurd h2 hji
      · have := hm j h2
        rw [getD_both hju] at this; cases this
      · have := hall j (by simpa using h2)
        rw [getD_both hju] at this; cases this
      · rcases h2 with h2 | h2
        · obtain ⟨e, he, hb⟩ := Array.any_eq_true'.1 h2
          simp only [Bool.and_eq_true, beq_iff_eq] at hb
          exact absurd hb.2 (hno e he hb.1)
        · exact h2
/-! ### The allocation is still to come -/
theorem any_of_A {hs1 ps : List Nat} {k d n : Nat} {ok : Oper} {listed0 : Array Bool} {D : Nat → World → Prop} {g : Nat} {Q : Exit → Act → World → Prop} {Lq : Array Bool → Act → Prop} {Lq' : Nat → Array Bool → Act → Prop}
    (hsel : Region.noSelect ops = true) (hsz0 : listed0.size = ops.size) (hI : ∀ w w', I w → R w w' → I w') (hDI : ∀ x w, D x w → I w) (hDR : ∀ x w w', D x w → R w w' → D x w')
    (hok : ops[k]? = some ok) (hov : overB md ops (hs1 ++ ps) k d = true) (hsa : sinkOne md ops (hs1 ++ ps) k listed0 = true)
    (hsk : sinkHead md ops (hs1 ++ ps) hs1 (listed0.setIfInBounds k true) = true) (hfr : freeB md ops hs1 ps (listed0.setIfInBounds k true) = true)
    (hal : ∀ (a : Act) (w : World) (K : Act → World → Prop), Has n a [] → I w → (∀ x w1, D x w1 → K (a.put (some d) (.pointer (some ⟨x, 0, none⟩))) w1) → wpOp P ops (NP Q) k K a w)
    (hdone : ∀ listed a, Lq listed a → ∀ j ∈ hs1 ++ ps, listed.getD j false = true)
    (hL : ∀ x listed a, Lq listed a → Lq' x (listed.setIfInBounds k true) (a.put (some d) (.pointer (some ⟨x, 0, none⟩))))
    (hfin : ∀ x listed a w, Inv md ops (hs1 ++ ps) (listed0.setIfInBounds k true) listed → (∀ j, (listed0.setIfInBounds k true).getD j false = true → listed.getD j false = true) → Lq' x listed a → D x w → wpAny P md ops (NP Q) g listed a w) :
    ∀ (f : Nat) (listed : Array Bool) (a : Act) (w : World), Inv md ops (hs1 ++ ps) listed0 listed → (∀ j, listed0.getD j false = true → listed.getD j false = true) → k ∈ Region.ready md ops listed → Has n a [] → I w → HeadM P md ops I R (hs1 ++ ps) ps Lq f listed a → wpAny P md ops (NP Q) (f + 1 + g) listed a w := by
  obtain ⟨hk, hno⟩ := overB_spec hov
  have only : ∀ listed : Array Bool, Inv md ops (hs1 ++ ps) listed0 listed → (∀ j, listed0.getD j false = true → listed.getD j false = true) → k ∈ Region.ready md ops listed → ∀ i ∈ Region.ready md ops listed, i ∈ hs1 ++ ps ∨ i = k := fun listed inv hm hkr i hi => by
    obtain ⟨hju, oj, hoj, _⟩ := mem_ready.1 hi
    have hlt := (Array.getElem?_eq_some_iff.1 hoj).1
    have h1 := List.all_eq_true.1 hsa i (List.mem_range.2 hlt)
    simp only [Bool.or_eq_true, beq_iff_eq] at h1
    rcases h1 with ((h1 | h1) | h1) | h1
    · have := hm i h1
      rw [getD_both hju] at this; cases this
    · exact .inl (by simpa using h1)
    · exact .inr h1
    · exact absurd hi (waits_spec inv.closed (getD_both (mem_ready.1 hkr).1) _ _ h1).2
  have inv1 : ∀ listed : Array Bool, Inv md ops (hs1 ++ ps) listed0 listed → k ∈ Region.ready md ops listed → (∀ j, listed0.getD j false = true → listed.getD j false = true) → Inv md ops (hs1 ++ ps) (listed0.setIfInBounds k true) (listed.setIfInBounds k true) ∧ (∀ j, (listed0.setIfInBounds k true).getD j false = true → (listed.setIfInBounds k true).getD j false = true) := fun listed inv hkr hm => by
    have hlt : k < listed.size := by
      have := (mem_ready.1 hkr).1
      rcases Nat.lt_or_ge k listed.size with h' | h'
      · exact h'
      · simp [Array.getElem?_eq_none h'] at this
    have hlt0 : k < listed0.size := by rw [hsz0, ← inv.size]; exact hlt
    have hset : ∀ j, (listed0.setIfInBounds k true).getD j false = true → (listed.setIfInBounds k true).getD j false = true := fun j hj => by
      by_cases hjk : k = j
      · subst hjk; simp [hlt]
      · rw [getD_set_ne false hjk] at hj ⊢; exact hm j hj
    refine ⟨⟨inv.closed.set hkr, fun j hj => ?_, by simp [inv.size]⟩, hset⟩
    by_cases hjk : k = j
    · subst hjk; exact .inl (by simp [hlt0])
    · rw [getD_set_ne false hjk] at hj
      rcases inv.only j hj with h2 | h2
      · exact .inl (getD_set_true h2)
      · exact .inr h2
  intro f
  induction f with
  | zero =>
    intro listed a w inv hm hkr ha hI' H
    rw [show 0 + 1 + g = g + 1 by omega]
    refine ⟨fun h0 => (by rw [h0] at hkr; cases hkr), fun i hi => ?_⟩
    rcases only listed inv hm hkr i hi with h | rfl
    · have h1 := hdone _ _ H i h
      have := getD_both (mem_ready.1 hi).1
      rw [h1] at this; cases this
    · exact hal a w _ ha hI' fun x w1 hD => hfin x _ _ _ (inv1 listed inv hkr hm).1 (inv1 listed inv hkr hm).2 (hL x _ _ H) hD
  | succ f ih =>
    intro listed a w inv hm hkr ha hI' H
    rw [show f + 1 + 1 + g = (f + 1 + g) + 1 by omega]
    refine ⟨fun h0 => (by rw [h0] at hkr; cases hkr), fun i hi => ?_⟩
    rcases only listed inv hm hkr i hi with h | rfl
    · obtain ⟨o, v, ho, hy, hn⟩ := H.2 i hi h
      refine wpOp_of_Yv ho hy hI' fun w' hw' => ih _ _ w' (inv.set hi h) (fun j hj => getD_set_true (hm j hj)) (ready_mono hkr (fun e => hk (e ▸ h))) (ha.put_nil _ _) ?_ hn
      rcases hw' with rfl | hw'
      · exact hI'
      · exact hI _ _ hI' hw'
    · refine hal a w _ ha hI' fun x w1 hD => ?_
      exact any_of_B hsel (hDI x) (hDR x) hsk hfr (hfin x) (f + 1) _ _ w1 (inv1 listed inv hkr hm).1 (inv1 listed inv hkr hm).2 hD (HeadM_over (Region.noSelect_spec hsel) hk hno (fun l a h => hL x l a h) (f + 1) _ _ H)

/-! ### From a list, and the steps -/
def mixL (P : Program) (I : World → Prop) (R : World → World → Prop) (ps : List Nat) (os : List Oper) (K : Act → Prop) : List Nat → Act → Prop
  | [], a => K a
  | i :: is, a => ∃ v, Yv P os.toArray I R ps i (at_ os i) v a ∧ mixL P I R ps os K is (a.put (at_ os i).dst v)
theorem mixL_append {ps : List Nat} {os : List Oper} {K : Act → Prop} {js2 : List Nat} : ∀ (js1 : List Nat) (a : Act), mixL P I R ps os (mixL P I R ps os K js2) js1 a → mixL P I R ps os K (js1 ++ js2) a
  | [], _, h => h
  | _ :: is, _, ⟨v, hy, h⟩ => ⟨v, hy, mixL_append is _ h⟩
theorem HeadM_list {os : List Oper} {hs ps : List Nat} {K : Act → Prop} (hsel : Region.noSelect os.toArray = true) :
    ∀ (js : List Nat) (listed : Array Bool) (a : Act), (∀ j ∈ js, j ∈ hs) → (∀ j ∈ hs, j ∈ js ∨ listed.getD j false = true) → takesB .any os.toArray js listed = true → mixL P I R ps os K js a →
    HeadM P .any os.toArray I R hs ps (fun listed' a' => (∀ j ∈ hs, listed'.getD j false = true) ∧ K a') js.length listed a
  | [], listed, a, _, hd, _, h => ⟨fun j hj => (hd j hj).resolve_left (by simp), h⟩
  | i :: is, listed, a, hj, hd, hB, h => by
    simp only [takesB, Bool.and_eq_true] at hB
    obtain ⟨⟨hr, hf⟩, hB'⟩ := hB
    have hr' : i ∈ Region.ready .any os.toArray listed := by simpa using hr
    have h0 := at_some hr'
    obtain ⟨v, hy, hK⟩ := h
    refine HeadM_first h0 (Region.noSelect_spec hsel) (hj i (by simp)) (fun _ _ h j hj => h.1 j hj) is.length listed a (Region.free_spec h0 hf) hr' hy ?_
    exact HeadM_list hsel is _ _ (fun j h => hj j (by simp [h])) (fun j h => by
      rcases hd j h with h1 | h1
      · rcases List.mem_cons.1 h1 with rfl | h1
        · right
          have hlt : j < listed.size := by
            have := (mem_ready.1 hr').1
            rcases Nat.lt_or_ge j listed.size with h' | h'
            · exact h'
            · simp [Array.getElem?_eq_none h'] at this
          simp [hlt]
        · exact .inl h1
      · exact .inr (getD_set_true h1)) hB' hK
def rqList (P : Program) (ops : Array Oper) (I : World → Prop) (R : World → World → Prop) (K : Act → Prop) : List Oper → Act → Prop
  | [], a => K a
  | o :: rest, a => ∃ v, YieldsR P ops I R o v a ∧ rqList P ops I R K rest (a.put o.dst v)
theorem mixL_reads {ps : List Nat} {os : List Oper} {K : Act → Prop} : ∀ (js : List Nat) (a : Act), (js.all fun j => !ps.contains j) = true → rqList P os.toArray I R K (js.map (at_ os)) a → mixL P I R ps os K js a
  | [], _, _, h => h
  | i :: is, a, hn, ⟨v, hy, h⟩ => by
    simp only [List.all_cons, Bool.and_eq_true, Bool.not_eq_true'] at hn
    have hi : i ∉ ps := by simpa using hn.1
    exact ⟨v, by unfold Yv; rw [if_neg hi]; exact hy, mixL_reads is _ hn.2 h⟩
theorem mixL_pure {ps : List Nat} {os : List Oper} {K : Act → Prop} : ∀ (js : List Nat) (a : Act), (∀ j ∈ js, j ∈ ps) → wpPure P os.toArray K (js.map (at_ os)) a → mixL P I R ps os K js a
  | [], _, _, h => h
  | i :: is, a, hn, ⟨v, hy, h⟩ => ⟨v, by unfold Yv; rw [if_pos (hn i (by simp))]; exact hy, mixL_pure is _ (fun j hj => hn j (by simp [hj])) h⟩
theorem mixL_mono {ps : List Nat} {os : List Oper} {K K' : Act → Prop} (hK : ∀ a, K a → K' a) : ∀ (js : List Nat) (a : Act), mixL P I R ps os K js a → mixL P I R ps os K' js a
  | [], _, h => hK _ h
  | _ :: is, _, ⟨v, hy, h⟩ => ⟨v, hy, mixL_mono hK is _ h⟩

variable {Q : Exit → Act → World → Prop} {n : Nat} {p : Nat → Prop} {w0 : World} {o : Oper} {rest os : List Oper} {l : Kn} {L : List Ent} {K : Act → Prop}
/-- The reads of such a region. -/
def WM (P : Program) (ops : Array Oper) (K : Act → Prop) (n : Nat) (p : Nat → Prop) (w0 : World) (rest : List Oper) (l : Kn) (L : List Ent) : Prop :=
  ∀ a, Has n a l → rqList P ops (fun w => St p w0 w L) (Frm (fun _ => False)) K rest a
theorem WM.val {d : Nat} {v : Value} (hv : Val P (fun w => St p w0 w L) n l o v) (hg : On ops o l) (hd : o.dst = some d) (hn : Nat.blt d n = true)
    (h : WM P ops K n p w0 rest ((d, v) :: l) L) : WM P ops K n p w0 (o :: rest) l L := fun a ha =>
  ⟨v, .inl ⟨hg.ok ha, fun w hS => by unfold Oper.quietAt; rw [hv a w ha hS]; exact ⟨rfl, rfl⟩⟩, h _ (ha.put_any hd hn v)⟩
theorem WM.nil {K' : Act → World → Prop} (h : WP P ops K' n p w0 rest l L) : WM P ops (wpPure P ops (fun a' => ∀ w, St p w0 w L → K' a' w) rest) n p w0 [] l L := h
/-- What is known when all that is done, the allocation apart. -/
def KM (P : Program) (os : List Oper) (Q : Exit → Act → World → Prop) (n : Nat) (p : Nat → Prop) (w0 : World) (g d : Nat) (zs : List Value) (listed : Array Bool) (L : List Ent) (a : Act) : Prop :=
  ∃ l', Has n a l' ∧ ∀ x, w0.heap.size ≤ x → WR P os Q n p w0 g listed ((d, .pointer (some ⟨x, 0, none⟩)) :: l') (.row x zs :: L)
theorem WP.nilM {g d : Nat} {zs : List Value} {listed : Array Bool} (h : ∀ x, w0.heap.size ≤ x → WR P os Q n p w0 g listed ((d, .pointer (some ⟨x, 0, none⟩)) :: l) (.row x zs :: L)) :
    WP P os.toArray (fun a _ => KM P os Q n p w0 g d zs listed L a) n p w0 [] l L := fun _ ha _ _ => ⟨l, ha, h⟩
def mixB (os : List Oper) (k d : Nat) (js ps : List Nat) (listed : Array Bool) : Bool :=
  Region.noSelect os.toArray && closedB .any os.toArray listed && takesB .any os.toArray (js ++ ps) listed && (Region.ready .any os.toArray listed).contains k && overB .any os.toArray (js ++ ps) k d &&
  sinkOne .any os.toArray (js ++ ps) k listed && sinkHead .any os.toArray (js ++ ps) js (listed.setIfInBounds k true) && freeB .any os.toArray js ps (listed.setIfInBounds k true) && js.all fun j => !ps.contains j
theorem WR.mix {ty d g : Nat} {zs : List Value} {listed : Array Bool} (k : Nat) (js ps : List Nat) (ho : (at_ os k).op = .alloc ty) (hz : Zero P ty zs) (hg : (at_ os k).guard = none) (hd : (at_ os k).dst = some d) (hn : Nat.blt d n = true)
    (hsz : listed.size = os.length) (hB : mixB os k d js ps listed = true)
    (h : WM P os.toArray (wpPure P os.toArray (fun a' => ∀ w, St p w0 w L → KM P os Q n p w0 g d zs (marks (listed.setIfInBounds k true) (js ++ ps)) L a') (ps.map (at_ os))) n p w0 (js.map (at_ os)) l L) :
    WR P os Q n p w0 ((js ++ ps).length + 1 + g) listed l L := fun a w ha hS => by
  simp only [mixB, Bool.and_eq_true] at hB
  obtain ⟨⟨⟨⟨⟨⟨⟨⟨hsel, hcl⟩, htk⟩, hkr⟩, hov⟩, hsa⟩, hsk⟩, hfr⟩, hps⟩ := hB
  have hsz' : listed.size = os.toArray.size := by simpa using hsz
  have hkr' : k ∈ Region.ready .any os.toArray listed := by simpa using hkr
  have hko := at_some hkr'
  have H0 : mixL P (fun w => St p w0 w L) (Frm (fun _ => False)) ps os (fun a' => KM P os Q n p w0 g d zs (marks (listed.setIfInBounds k true) (js ++ ps)) L a') (js ++ ps) a := by
    refine mixL_append js a (mixL_reads js a hps ?_)
    have h1 := h a ha
    have mono : ∀ (K1 K2 : Act → Prop) (hK : ∀ a, K1 a → K2 a) (r : List Oper) (a : Act), rqList P os.toArray (fun w => St p w0 w L) (Frm (fun _ => False)) K1 r a → rqList P os.toArray (fun w => St p w0 w L) (Frm (fun _ => False)) K2 r a := by
      intro K1 K2 hK r
      induction r with
      | nil => exact fun a h => hK a h
      | cons o r ih => exact fun a ⟨v, hy, h⟩ => ⟨v, hy, ih _ h⟩
    exact mono _ _ (fun a h => mixL_mono (fun a h => h w hS) ps a (mixL_pure ps a (fun _ h => h) h)) _ _ h1
  have H := HeadM_list (P := P) hsel (js ++ ps) listed a (fun _ h => h) (fun _ h => .inl h) htk H0
  refine any_of_A (D := fun x w => St p w0 w (.row x zs :: L) ∧ w0.heap.size ≤ x) (Lq' := fun x listed' a' => (∀ j ∈ js ++ ps, listed'.getD j false = true) ∧ ∃ l', Has n a' ((d, .pointer (some ⟨x, 0, none⟩)) :: l') ∧ ∀ x, w0.heap.size ≤ x → WR P os Q n p w0 g (marks (listed.setIfInBounds k true) (js ++ ps)) ((d, .pointer (some ⟨x, 0, none⟩)) :: l') (.row x zs :: L))
    hsel hsz' (fun w w' h1 h2 => h1.ext h2) (fun x w h => h.1.tail) (fun x w w' h1 h2 => ⟨h1.1.ext h2, h1.2⟩) hko hov hsa hsk hfr ?_ (fun _ _ h => h.1) ?_ ?_ (js ++ ps).length listed a w ⟨closedB_spec hcl, fun _ h => .inl h, hsz'⟩ (fun _ h => h) hkr' (ha.sub Sub.nil) hS H
  · intro a w K ha hS hK
    unfold wpOp
    simp only [hko]
    rw [if_pos (by simp [Region.wanted, hg])]
    refine .inl ?_
    have hz' := hz
    obtain ⟨z, hz, rfl⟩ := hz
    unfold Oper.wp
    have e : (execOp a.eval (at_ os k)).run P w = .ok (.value (.pointer (some ⟨w.heap.size, 0, none⟩))) (w.alloc (.cells z.cells.toList.toArray ty)) := by
      unfold execOp
      simp [ho, Instr.alloc, run_zeroValue hz, newVar, newRow, newObj, Sem.run]
    rw [e]
    simp only [Oper.upon, hd]
    exact hK _ _ ⟨St.new (T := ty) hS, hS.frm.size⟩
  · rintro x listed' a' ⟨h1, l', hl', h2⟩
    exact ⟨fun j hj => getD_set_true (h1 j hj), l', hl'.put hn _, h2⟩
  · rintro x listed' a' w' inv hm ⟨h1, l', hl', h2⟩ ⟨hS', hx⟩
    have e : listed' = marks (listed.setIfInBounds k true) (js ++ ps) := marks_eq (fun j => by
      constructor
      · intro hj
        rcases inv.only j hj with h2 | h2
        · exact .inl h2
        · refine .inr ⟨h2, ?_⟩
          rcases Nat.lt_or_ge j listed'.size with h' | h'
          · rw [inv.size, ← hsz'] at h'; simpa using h'
          · simp [Array.getElem?_eq_none h'] at hj
      · rintro (h2 | ⟨h2, _⟩)
        · exact hm j h2
        · exact h1 j h2) (by rw [inv.size, ← hsz']; simp)
    rw [e]
    exact h2 x hx a' w' hl' hS'
/-- Whatever comes up next, each alone. -/
def AllOf (K : Nat → Prop) : List Nat → Prop
  | [] => True
  | [i] => K i
  | i :: j :: is => K i ∧ AllOf K (j :: is)
theorem AllOf.get {K : Nat → Prop} : ∀ {rs : List Nat}, AllOf K rs → ∀ i ∈ rs, K i
  | [], _, i, h => by cases h
  | [j], h, i, hi => by rw [List.mem_singleton.1 hi]; exact h
  | j :: k :: is, h, i, hi => by
    rcases List.mem_cons.1 hi with rfl | hi
    · exact h.1
    · exact AllOf.get h.2 i hi
theorem WR.each {g : Nat} {listed : Array Bool} (rs : List Nat) (hr : Region.ready .any os.toArray listed = rs) (hne : rs ≠ [])
    (h : AllOf (fun i => WL P os.toArray (RQ (Rest P os Q g (listed.setIfInBounds i true)) (NP Q)) n p w0 [at_ os i] l L) rs) : WR P os Q n p w0 (g + 1) listed l L := fun a w ha hS => by
  refine wpAny_all hr hne fun i hi => ?_
  have ho := at_some (listed := listed) (i := i) (by rw [hr]; exact hi)
  have h' : wpList P os.toArray (RQ (Rest P os Q g (listed.setIfInBounds i true)) (NP Q)) [at_ os i] a w := h.get i hi a w ha hS
  unfold wpOp
  simp only [ho]
  unfold wpList at h'
  split
  · rename_i hwd
    rw [if_pos hwd] at h'
    exact (h'.imp wpRQ (fun h => ⟨h.1, RQ.out h.2⟩)).imp (Oper.wp_mono fun _ _ h => h) id
  · rename_i hwd
    rw [if_neg hwd] at h'
    exact h'
end
end Go.Proofs.YtkeonnnhogaggaaGreatDoor
/- rules: acts. -/
namespace Go.Proofs.YtkeonnnhogaggaaGreatDoor
open Go.RowKit

structure Ac where
  set : Int
  val : Nat → Int
/-- u64 cells. -/
def ucs (f : Nat → Int) (n : Nat) : List Value := (List.range n).map fun i => .int .u64 (f i)
theorem ucs_len (f : Nat → Int) (n : Nat) : (ucs f n).length = n := by simp [ucs]
theorem ucs_get (f : Nat → Int) {n i : Nat} (h : i < n) : (ucs f n)[i]? = some (.int .u64 (f i)) := by simp [ucs, h]
theorem ucs_set {f : Nat → Int} {n j : Nat} {x : Int} (h : j < n) : (ucs f n).set j (.int .u64 x) = ucs (fun i => if i = j then x else f i) n := by
  apply List.ext_getElem?
  intro i
  rw [List.getElem?_set, ucs_len]
  by_cases h1 : j = i
  · subst h1; rw [if_pos rfl, if_pos h, ucs_get _ h, if_pos rfl]
  · rw [if_neg h1]
    by_cases hi : i < n
    · rw [ucs_get _ hi, ucs_get _ hi, if_neg (by omega)]
    · rw [List.getElem?_eq_none (by rw [ucs_len]; omega), List.getElem?_eq_none (by rw [ucs_len]; omega)]
theorem ucs_congr {f g : Nat → Int} {n : Nat} (h : ∀ i, i < n → f i = g i) : ucs f n = ucs g n := by
  unfold ucs
  apply List.map_congr_left
  intro i hi
  rw [h i (List.mem_range.1 hi)]
def acL (a : Ac) : List Value := .int .i64 a.set :: ucs a.val 9
def acV (a : Ac) : Value := .agg (acL a).toArray
theorem acL_get (a : Ac) {k : Nat} (h : k < 9) : (acL a)[1 + k * 1]? = some (.int .u64 (a.val k)) := by
  rw [show 1 + k * 1 = k + 1 by omega]; exact ucs_get _ h
structure Ac.In (a : Ac) : Prop where
  set : -9223372036854775808 ≤ a.set ∧ a.set ≤ 9223372036854775807
  val : ∀ k, 0 ≤ a.val k ∧ a.val k ≤ 18446744073709551615
/-- The act sets the field. -/
def Ac.sets (a : Ac) (k : Nat) : Prop := a.set / 2 ^ k % 2 = 1
instance (a : Ac) (k : Nat) : Decidable (a.sets k) := by unfold Ac.sets; infer_instance
/-- The act is in its form. -/
def Ac.Ok (a : Ac) : Prop := (0 ≤ a.set ∧ a.set ≤ 511) ∧ ∀ k, k < 9 → a.val k ≤ fullI k ∧ (a.val k ≠ 0 → a.sets k)
instance (a : Ac) : Decidable a.Ok := by unfold Ac.Ok; infer_instance
theorem sets_c (w : World) (a : Ac) (k : Nat) (hk : k < 9) :
    Calls Tryz.prog 125 #[acV a, .int .i64 k] w fun e w' => e = .returned (.bool (decide (a.sets k))) ∧ Frm (fun _ => False) w w' := by
  refine enter Tryz.func125 rfl Tryz.ntmps125 rfl (St.start (fun _ => False) w) ?_
  refine WC.seq <| WC.region <| WL.box rfl rfl rfl (.none rfl) rfl rfl <| ?_
  intro g2 hg2
  refine WL.v (v_assign rfl rfl) rfl <| WL.nt <| WC.seq <| WC.region <| WL.v (v_fieldAddr0 rfl rfl fld_110_0) rfl <| WL.v (v_load1 rfl rfl one_3 (cellAt rfl)) rfl <| WL.v (v_move rfl rfl) rfl <| ?_
  refine WL.v (v_shr (m := k) (c := (2 : Int) ^ k) rfl rfl rfl rfl (by show k ≤ 64; omega) rfl) rfl ?_
  refine WL.v (v_and rfl rfl rfl (mask_i64' (i := 1) (m := 2) (by decide) (by decide) (by decide))) rfl ?_
  refine WL.v (v_eql rfl rfl rfl) rfl <| WL.v (v_assign rfl rfl) rfl <| WL.nt <| WC.ret <| WE.ret1 (P := Tryz.prog) (.inl rfl) Tryz.results125 rfl <| ?_
  exact fun w' h => ⟨rfl, h.frm⟩
/-- What an act's first k make of a header. -/
def appK (a : Ac) (H : Hd) : Nat → Hd | 0 => H | k + 1 => if a.sets k then wthF k (a.val k) (appK a H k) else appK a H k
/-- An act, and another one behind it. -/
def Ac.then (a b : Ac) : Ac := ⟨orN a.set b.set, fun k => if b.sets k then b.val k else a.val k⟩
def thenK (a b : Ac) (k i : Nat) : Int := if i < k ∧ b.sets i then b.val i else a.val i
theorem Then_c (w : World) (a b : Ac) (ha : a.Ok) (hb : b.Ok) :
    Calls Tryz.prog 197 #[acV a, acV b] w fun e w' => e = .returned (acV (a.then b)) ∧ Frm (fun _ => False) w w' := by
  have h1 := ha.1
  have h2 := hb.1
  refine enter Tryz.func197 rfl Tryz.ntmps197 rfl (St.start (fun _ => False) w) ?_
  refine WC.seq <| WC.region <| WL.box rfl rfl rfl (.none rfl) rfl rfl <| ?_
  intro g2 hg2
  refine WL.box rfl rfl rfl (.none rfl) rfl rfl ?_
  intro g3 hg3
  refine WL.alloc rfl zero_110 (.none rfl) rfl rfl ?_
  intro g4 hg4
  refine WL.nt <| WC.seq <| WC.seq <| WC.region <| WL.v (v_move rfl rfl) rfl <| WL.nt <| WC.block <| WC.loop (fun k : Nat => [(6, .int .i64 k), (2, .pointer (some ⟨g2, 0, none⟩)), (3, .pointer (some ⟨g3, 0, none⟩)), (4, .pointer (some ⟨g4, 0, none⟩))]) (fun k => [.row g4 (acL ⟨0, fun _ => 0⟩), .row g3 (acL b), .row g2 (acL ⟨a.set, thenK a b k⟩)]) (fun k => k ≤ 9) (fun k => 9 - k) 0 (Nat.zero_le _) (.cons rfl (.cons rfl (.cons rfl (.cons rfl .nil)))) (.refl _) <| ?_
  intro k hk
  refine WC.seq <| WC.region <| ?_
  refine WL.test (v_lss rfl rfl rfl) (.none rfl) rfl rfl (fun h7 => ?_) (fun h7 => ?_)
  ·
   refine WL.nt <| WC.seq <| WC.cond_t rfl <| WC.skip <| WE.then_n <| WC.seq <| WC.block <| WC.seq <| WC.region <| WL.v (v_move rfl rfl) rfl <| WL.v (v_assign rfl rfl) rfl <| WL.nt <| WC.seq <| WC.region <| ?_
   refine WL.v (v_loadN rfl rfl many_110 rfl allAt) rfl <| WL.v (v_move rfl rfl) rfl <| WL.call rfl rfl ck_125 (.none rfl) rfl rfl <| ?_
   intro w hS
   refine Calls.then (sets_c w b k (by omega)) hS ?_
   refine WL.nt ?_
   refine WC.cond_d rfl (fun h11 => ?_) (fun h11 => ?_)
   ·
    refine WC.region <| WL.v (v_move rfl rfl) rfl <| WL.v (v_move rfl rfl) rfl <| WL.v (v_fieldAddr0 rfl rfl fld_110_1) rfl <| ?_
    refine WL.v (v_indexAddrA (lo := k) rfl rfl rfl Tryz.underlying108 sz_23 (by omega) (by omega)) rfl ?_
    refine WL.v (v_load1 rfl rfl one_23 (cellAt (acL_get b (by omega)))) rfl ?_
    refine WL.v (v_fieldAddr0 rfl rfl fld_110_1) rfl ?_
    refine WL.v (v_indexAddrA (lo := k) rfl rfl rfl Tryz.underlying108 sz_23 (by omega) (by omega)) rfl ?_
    refine WL.store1 rfl rfl rfl rfl one_23 (by show 1 + k * 1 < (acL _).length; unfold acL; rw [List.length_cons, ucs_len]; omega) (.none rfl) rfl ?_
    refine WL.nil <| WE.block_n <| WE.then_n <| WC.region <| ?_
    refine WL.v (v_add rfl rfl rfl (w_i64 (by omega) (by omega))) rfl ?_
    refine WL.v (v_move rfl rfl) rfl <| WL.nil <| ?_
    refine WE.as (L' := [.row g4 (acL ⟨0, fun _ => 0⟩), .row g3 (acL b), .row g2 (acL ⟨a.set, thenK a b (k + 1)⟩)]) ?_ (WE.next (k + 1) (by omega) (by omega) (.int rfl (by omega) (.cons rfl (.cons rfl (.cons rfl .nil)))) (.refl _))
    have e : (acL ⟨a.set, thenK a b k⟩).set (1 + k * 1) (.int .u64 (b.val k)) = acL ⟨a.set, thenK a b (k + 1)⟩ := (by
      rw [show 1 + k * 1 = k + 1 by omega]
      unfold acL
      rw [List.set_cons_succ, ucs_set (by omega)]
      congr 1
      refine ucs_congr fun i hi => ?_
      dsimp only
      unfold thenK
      by_cases e : i = k
      · subst e; rw [if_pos rfl, if_pos ⟨by omega, h11⟩]
      · rw [if_neg e]
        by_cases e2 : i < k ∧ b.sets i
        · rw [if_pos e2, if_pos ⟨by omega, e2.2⟩]
        · rw [if_neg e2, if_neg (fun q => e2 ⟨by omega, q.2⟩)])
    rw [e]
   ·
    refine WC.skip <| WE.block_n <| WE.then_n <| WC.region <| ?_
    refine WL.v (v_add rfl rfl rfl (w_i64 (by omega) (by omega))) rfl ?_
    refine WL.v (v_move rfl rfl) rfl <| WL.nil <| ?_
    refine WE.as (L' := [.row g4 (acL ⟨0, fun _ => 0⟩), .row g3 (acL b), .row g2 (acL ⟨a.set, thenK a b (k + 1)⟩)]) ?_ (WE.next (k + 1) (by omega) (by omega) (.int rfl (by omega) (.cons rfl (.cons rfl (.cons rfl .nil)))) (.refl _))
    have e : acL ⟨a.set, thenK a b k⟩ = acL ⟨a.set, thenK a b (k + 1)⟩ := (by
      unfold acL
      congr 1
      refine ucs_congr fun i hi => ?_
      dsimp only
      unfold thenK
      by_cases e2 : i < k ∧ b.sets i
      · rw [if_pos e2, if_pos ⟨by omega, e2.2⟩]
      · rw [if_neg e2, if_neg (fun q => by
          by_cases e : i = k
          · subst e; exact h11 q.2
          · exact e2 ⟨by omega, q.2⟩)])
    rw [e]
  ·
   refine WL.nt <| WC.seq <| WC.cond_f rfl <| WC.exit <| WE.then_exit <| WE.then_exit <| WE.block_hit <| WE.then_n <| WC.seq <| WC.region <| WL.v (v_fieldAddr0 rfl rfl fld_110_0) rfl <| WL.v (v_load1 rfl rfl one_3 (cellAt rfl)) rfl <| WL.v (v_fieldAddr0 rfl rfl fld_110_0) rfl <| WL.v (v_load1 rfl rfl one_3 (cellAt rfl)) rfl <| ?_
   refine WL.v (v_or rfl rfl rfl (bits_or_i64 (x := a.set) (y := b.set) h1.1 (by omega) h2.1 (by omega))) rfl ?_
   refine WL.v (v_fieldAddr0 rfl rfl fld_110_0) rfl <| WL.store1 rfl rfl rfl rfl one_3 (Nat.le_of_ble_eq_true rfl) (.none rfl) rfl <| ?_
   have e9 : (acL ⟨a.set, thenK a b k⟩).set 0 (.int .i64 (orN a.set b.set)) = acL (a.then b) := (by
     obtain rfl : k = 9 := (by omega)
     show _ :: _ = _ :: _
     congr 1
     refine ucs_congr fun i hi => ?_
     show thenK a b 9 i = (if b.sets i then _ else _)
     unfold thenK
     by_cases e2 : b.sets i
     · rw [if_pos e2, if_pos ⟨hi, e2⟩]
     · rw [if_neg e2, if_neg (fun q => e2 q.2)])
   refine WL.as (L' := [.row g4 (acL ⟨0, fun _ => 0⟩), .row g3 (acL b), .row g2 (acL (a.then b))]) (by rw [← e9]) ?_
   refine WL.nt <| WC.seq <| WC.region <| WL.v (v_loadN rfl rfl many_110 rfl allAt) rfl <| WL.storeW rfl rfl rfl rfl many_110 rfl rfl (.none rfl) rfl <| WL.nt <| WC.ret <| WE.ret1 (P := Tryz.prog) (.inl rfl) Tryz.results197 (resRow rfl many_110 rfl) <| ?_
   exact fun w' h => ⟨rfl, h.frm⟩
end Go.Proofs.YtkeonnnhogaggaaGreatDoor
/- rules.Act.Cmp. -/
namespace Go.Proofs.YtkeonnnhogaggaaGreatDoor
open Go.RowKit

theorem isNaNI_c (w : World) (x : Int) : Calls Tryz.prog 146 #[.int .i64 x] w fun e w' => e = .returned (.bool false) ∧ Frm (fun _ => False) w w' := by
  refine enter Tryz.func146 rfl Tryz.ntmps146 rfl (St.start (fun _ => False) w) ?_
  refine WC.seq <| WC.region <| WL.v (v_assign rfl rfl) rfl <| WL.nt <| WC.seq <| WC.region <| WL.v (v_move rfl rfl) rfl <| WL.v (v_move rfl rfl) rfl <| WL.v ((v_neq rfl rfl rfl).f (fun h => h rfl)) rfl <| WL.v (v_assign rfl rfl) rfl <| WL.nt <| WC.ret <| WE.ret1 (P := Tryz.prog) (.inl rfl) Tryz.results146 rfl <| ?_
  exact fun w' h => ⟨rfl, h.frm⟩
theorem CmpI_c (w : World) (x y : Int) : Calls Tryz.prog 106 #[.int .i64 x, .int .i64 y] w fun e w' => e = .returned (.int .i64 (cmpI x y)) ∧ Frm (fun _ => False) w w' := by
  refine enter Tryz.func106 rfl Tryz.ntmps106 rfl (St.start (fun _ => False) w) ?_
  refine WC.seq <| WC.region <| WL.v (v_assign rfl rfl) rfl <| WL.nt <| WC.seq <| WC.region <| WL.v (v_move rfl rfl) rfl <| WL.call rfl rfl ck_146 (.none rfl) rfl rfl <| ?_
  intro w hS
  refine Calls.then (isNaNI_c w x) hS ?_
  refine WL.v (v_assign rfl rfl) rfl <| WL.nt <| WC.seq <| WC.region <| WL.v (v_move rfl rfl) rfl <| WL.call rfl rfl ck_146 (.none rfl) rfl rfl <| ?_
  intro w hS
  refine Calls.then (isNaNI_c w y) hS ?_
  refine WL.v (v_assign rfl rfl) rfl <| WL.nt <| WC.seq <| WC.seq <| WC.region <| WL.v (v_move rfl rfl) rfl <| WL.nt <| WC.cond_f rfl <| WC.skip <| WE.then_n <| WC.seq <| WC.seq <| WC.region <| WL.v (v_move rfl rfl) rfl <| ?_
  refine WL.nt <| WC.cond_f rfl <| WC.skip <| WE.then_n <| WC.seq <| WC.seq <| WC.region <| WL.v (v_move rfl rfl) rfl <| WL.v (v_move rfl rfl) rfl <| ?_
  refine WL.test (v_lss rfl rfl rfl) (.none rfl) rfl rfl (fun h16 => ?_) (fun h16 => ?_)
  ·
   refine WL.nt <| WC.cond_t rfl <| WC.seq <| WC.region <| WL.v (v_assign rfl rfl) rfl <| WL.nt <| WC.ret <| WE.then_ret <| WE.ret1 (P := Tryz.prog) (.inl rfl) Tryz.results106 rfl <| ?_
   exact fun w' h => ⟨by unfold cmpI; rw [if_pos h16], h.frm⟩
  ·
   refine WL.nt <| WC.cond_f rfl <| WC.skip <| WE.then_n <| WC.seq <| WC.seq <| WC.region <| WL.v (v_move rfl rfl) rfl <| WL.v (v_move rfl rfl) rfl <| ?_
   refine WL.test (v_gtr rfl rfl rfl) (.none rfl) rfl rfl (fun h19 => ?_) (fun h19 => ?_)
   ·
    refine WL.nt <| WC.cond_t rfl <| WC.seq <| WC.region <| WL.v (v_assign rfl rfl) rfl <| WL.nt <| WC.ret <| WE.then_ret <| WE.ret1 (P := Tryz.prog) (.inl rfl) Tryz.results106 rfl <| ?_
    exact fun w' h => ⟨by unfold cmpI; rw [if_neg h16, if_pos h19], h.frm⟩
   ·
    refine WL.nt <| WC.cond_f rfl <| WC.skip <| WE.then_n <| WC.seq <| WC.region <| WL.v (v_assign rfl rfl) rfl <| WL.nt <| WC.ret <| WE.ret1 (P := Tryz.prog) (.inl rfl) Tryz.results106 rfl <| ?_
    exact fun w' h => ⟨by unfold cmpI; rw [if_neg h16, if_neg h19], h.frm⟩
/-- The first that is not 0, of so many. -/
def lexK (f g : Nat → Int) : Nat → Int | 0 => 0 | k + 1 => if lexK f g k ≠ 0 then lexK f g k else cmpI (f k) (g k)
theorem lexK_stays {f g : Nat → Int} {k : Nat} (h : lexK f g k ≠ 0) : ∀ j, lexK f g (k + j) = lexK f g k
  | 0 => rfl
  | j + 1 => by
    have := lexK_stays h j
    show (if lexK f g (k + j) ≠ 0 then lexK f g (k + j) else _) = _
    rw [this, if_pos h]
theorem SCmp_c (w : World) (b b' o o' : Nat) (f g : Nat → Int) (hf : ∀ i, i < 9 → w.cell? ⟨b, o + i * 1, none⟩ = some (.int .u64 (f i))) (hg : ∀ i, i < 9 → w.cell? ⟨b', o' + i * 1, none⟩ = some (.int .u64 (g i))) :
    Calls Tryz.prog 143 #[.slice (some ⟨b, o, none⟩) 9 9, .slice (some ⟨b', o', none⟩) 9 9] w fun e w' => e = .returned (.int .i64 (lexK f g 9)) ∧ Frm (fun _ => False) w w' := by
  refine enter Tryz.func143 rfl Tryz.ntmps143 rfl (St.start (fun _ => False) w) ?_
  refine WC.seq <| WC.region <| WL.v (v_assign rfl rfl) rfl <| WL.nt <| WC.seq <| WC.seq <| WC.region <| WL.v (v_move rfl rfl) rfl <| WL.v (v_len_slice rfl rfl Tryz.underlying208) rfl <| WL.v (v_move rfl rfl) rfl <| WL.nt <| WC.block <| WC.loop (fun k : Nat => [(11, .int .i64 k), (10, .int .i64 9), (9, .slice (some ⟨b, o, none⟩) 9 9), (1, .slice (some ⟨b', o', none⟩) 9 9), (0, .slice (some ⟨b, o, none⟩) 9 9)]) (fun _ => []) (fun k => k ≤ 9 ∧ lexK f g k = 0) (fun k => 9 - k) 0 ⟨Nat.zero_le _, rfl⟩ (.cons rfl (.cons rfl (.cons rfl (.cons rfl (.cons rfl .nil))))) (.refl _) <| ?_
  rintro k ⟨hk, h0⟩
  refine WC.seq <| WC.region <| ?_
  refine WL.test (v_lss rfl rfl rfl) (.none rfl) rfl rfl (fun h12 => ?_) (fun h12 => ?_)
  ·
   refine WL.nt <| WC.seq <| WC.cond_t rfl <| WC.skip <| WE.then_n <| WC.seq <| WC.block <| WC.seq <| WC.region <| WL.v (v_move rfl rfl) rfl <| ?_
   refine WL.v (v_indexAddr (lo := k) rfl rfl rfl Tryz.underlying208 sz_23 (by omega) (by omega)) rfl ?_
   refine WL.v (v_load1 rfl rfl one_23 (cellOld (fun h => h) (hf k (by omega)))) rfl ?_
   refine WL.v (v_assign rfl rfl) rfl <| WL.v (v_assign rfl rfl) rfl <| WL.nt <| WC.seq <| WC.seq <| WC.region <| WL.v (v_move rfl rfl) rfl <| WL.v (v_move rfl rfl) rfl <| WL.v (v_len_slice rfl rfl Tryz.underlying208) rfl <| ?_
   refine WL.v ((v_geq rfl rfl rfl).f (by omega)) rfl ?_
   refine WL.nt <| WC.cond_f rfl <| WC.skip <| WE.then_n <| WC.seq <| WC.region <| WL.v (v_move rfl rfl) rfl <| WL.v (v_move rfl rfl) rfl <| ?_
   refine WL.v (v_indexAddr (lo := k) rfl rfl rfl Tryz.underlying208 sz_23 (by omega) (by omega)) rfl ?_
   refine WL.v (v_load1 rfl rfl one_23 (cellOld (fun h => h) (hg k (by omega)))) rfl ?_
   refine WL.v (v_assign rfl rfl) rfl <| WL.nt <| WC.seq <| WC.region <| WL.v (v_move rfl rfl) rfl <| WL.v (v_move rfl rfl) rfl <| WL.call rfl rfl ck_121 (.none rfl) rfl rfl <| ?_
   intro w hS
   refine Calls.then (CmpU_c w (f k) (g k)) hS ?_
   refine WL.v (v_assign rfl rfl) rfl <| WL.nt <| WC.seq <| WC.region <| WL.v (v_move rfl rfl) rfl <| ?_
   refine WL.test (v_neq rfl rfl rfl) (.none rfl) rfl rfl (fun h28 => ?_) (fun h28 => ?_)
   ·
    refine WL.nt <| WC.cond_t rfl <| WC.seq <| WC.region <| WL.v (v_move rfl rfl) rfl <| WL.v (v_assign rfl rfl) rfl <| WL.nt <| WC.ret <| WE.block_ret <| WE.then_ret <| WE.then_ret <| WE.block_ret <| WE.then_ret <| WE.ret1 (P := Tryz.prog) (.inl rfl) Tryz.results143 rfl <| ?_
    have e1 : lexK f g (k + 1) = cmpI (f k) (g k) := (by show (if _ then _ else _) = _; rw [if_neg (by omega)])
    have e2 := lexK_stays (f := f) (g := g) (k := k + 1) (by rw [e1]; exact h28) (8 - k)
    rw [show k + 1 + (8 - k) = 9 by omega] at e2
    exact fun w' h => ⟨by rw [e2, e1], h.frm⟩
   ·
    refine WL.nt <| WC.cond_f rfl <| WC.skip <| WE.block_n <| WE.then_n <| WC.region <| ?_
    refine WL.v (v_add rfl rfl rfl (w_i64 (by omega) (by omega))) rfl ?_
    refine WL.v (v_move rfl rfl) rfl <| WL.nil <| ?_
    exact WE.next (k + 1) (by omega) ⟨by omega, by show (if _ then _ else _) = _; rw [if_neg (by omega)]; exact Classical.not_not.1 h28⟩ (.int rfl (by omega) (.cons rfl (.cons rfl (.cons rfl (.cons rfl .nil))))) (.refl _)
  ·
   refine WL.nt <| WC.seq <| WC.cond_f rfl <| WC.exit <| WE.then_exit <| WE.then_exit <| WE.block_hit <| WE.then_n <| WC.seq <| WC.seq <| WC.region <| WL.v (v_move rfl rfl) rfl <| WL.v (v_len_slice rfl rfl Tryz.underlying208) rfl <| WL.v (v_move rfl rfl) rfl <| ?_
   refine WL.v (v_len_slice rfl rfl Tryz.underlying208) rfl ?_
   refine WL.v ((v_lss rfl rfl rfl).f (by omega)) rfl ?_
   refine WL.nt <| WC.cond_f rfl <| WC.skip <| WE.then_n <| WC.seq <| WC.region <| WL.v (v_assign rfl rfl) rfl <| WL.nt <| WC.ret <| WE.ret1 (P := Tryz.prog) (.inl rfl) Tryz.results143 rfl <| ?_
   obtain rfl : k = 9 := (by omega)
   exact fun w' h => ⟨by rw [h0], h.frm⟩
theorem Or_c (w : World) (b : Nat) (x y : Int) (hx : w.cell? ⟨b, 0, none⟩ = some (.int .i64 x)) (hy : w.cell? ⟨b, 1, none⟩ = some (.int .i64 y)) :
    Calls Tryz.prog 105 #[.slice (some ⟨b, 0, none⟩) 2 2] w fun e w' => e = .returned (.int .i64 (if x ≠ 0 then x else y)) ∧ Frm (fun _ => False) w w' := by
  refine enter Tryz.func105 rfl Tryz.ntmps105 rfl (St.start (fun _ => False) w) ?_
  refine WC.seq <| WC.region <| WL.v (v_assign rfl rfl) rfl <| WL.nt <| WC.seq <| WC.region <| WL.v (v_assign rfl rfl) rfl <| WL.nt <| WC.seq <| WC.seq <| WC.region <| WL.v (v_move rfl rfl) rfl <| WL.v (v_len_slice rfl rfl Tryz.underlying74) rfl <| WL.v (v_move rfl rfl) rfl <| ?_
  refine WL.nt <| WC.block <| ?_
  refine WC.loop (fun k : Nat => [(8, .int .i64 k), (7, .int .i64 2), (6, .slice (some ⟨b, 0, none⟩) 2 2), (3, .int .i64 0)]) (fun _ => []) (fun k => k ≤ 2 ∧ (1 ≤ k → x = 0) ∧ (2 ≤ k → y = 0)) (fun k => 2 - k) 0 ⟨Nat.zero_le _, by omega, by omega⟩ (.cons rfl (.cons rfl (.cons rfl (.cons rfl .nil)))) (.refl _) ?_
  rintro k ⟨hk, h1, h2⟩
  have hz : ∀ j, j < 2 → w.cell? ⟨b, 0 + j * 1, none⟩ = some (.int .i64 (if j = 0 then x else y)) := (by
    intro j hj
    match j, hj with
    | 0, _ => exact hx
    | 1, _ => exact hy)
  refine WC.seq <| WC.region <| ?_
  refine WL.test (v_lss rfl rfl rfl) (.none rfl) rfl rfl (fun h9 => ?_) (fun h9 => ?_)
  ·
   refine WL.nt <| WC.seq <| WC.cond_t rfl <| WC.skip <| WE.then_n <| WC.seq <| WC.block <| WC.seq <| WC.region <| ?_
   refine WL.v (v_indexAddr (lo := k) rfl rfl rfl Tryz.underlying74 sz_3 (by omega) (by omega)) rfl ?_
   refine WL.v (v_load1 rfl rfl one_3 (cellOld (fun h => h) (hz k (by omega)))) rfl ?_
   refine WL.v (v_assign rfl rfl) rfl <| WL.nt <| WC.seq <| WC.region <| WL.v (v_move rfl rfl) rfl <| WL.v (v_move rfl rfl) rfl <| ?_
   refine WL.test (v_neq rfl rfl rfl) (.none rfl) rfl rfl (fun h14 => ?_) (fun h14 => ?_)
   ·
    refine WL.nt <| WC.cond_t rfl <| WC.seq <| WC.region <| WL.v (v_move rfl rfl) rfl <| WL.v (v_assign rfl rfl) rfl <| WL.nt <| WC.ret <| WE.block_ret <| WE.then_ret <| WE.then_ret <| WE.block_ret <| WE.then_ret <| WE.ret1 (P := Tryz.prog) (.inl rfl) Tryz.results105 rfl <| ?_
    have e2 : (if x ≠ 0 then x else y) = (if k = 0 then x else y) := (by
      by_cases e : k = 0
      · rw [if_pos e] at h14 ⊢; rw [if_pos h14]
      · rw [if_neg e, if_neg (fun q => q (h1 (by omega)))])
    exact fun w' h => ⟨by rw [e2], h.frm⟩
   ·
    refine WL.nt <| WC.cond_f rfl <| WC.skip <| WE.block_n <| WE.then_n <| WC.region <| ?_
    refine WL.v (v_add rfl rfl rfl (w_i64 (by omega) (by omega))) rfl ?_
    refine WL.v (v_move rfl rfl) rfl <| WL.nil <| ?_
    exact WE.next (k + 1) (by omega) ⟨by omega, fun _ => by by_cases e : k = 0; (rw [if_pos e] at h14; exact Classical.not_not.1 h14); exact h1 (by omega), fun _ => by rw [if_neg (by omega)] at h14; exact Classical.not_not.1 h14⟩ (.int rfl (by omega) (.cons rfl (.cons rfl (.cons rfl .nil)))) (.refl _)
  ·
   refine WL.nt <| WC.seq <| WC.cond_f rfl <| WC.exit <| WE.then_exit <| WE.then_exit <| WE.block_hit <| WE.then_n <| WC.seq <| WC.region <| WL.v (v_move rfl rfl) rfl <| WL.v (v_assign rfl rfl) rfl <| WL.nt <| WC.ret <| ?_
   refine WE.ret1 (P := Tryz.prog) (.inl rfl) Tryz.results105 rfl ?_
   exact fun w' h => ⟨by rw [h1 (by omega), h2 (by omega)]; rfl, h.frm⟩
def acmp (a b : Ac) : Int := if cmpI a.set b.set ≠ 0 then cmpI a.set b.set else lexK a.val b.val 9
theorem ACmp_c (w : World) (a b : Ac) :
    Calls Tryz.prog 102 #[acV a, acV b] w fun e w' => e = .returned (.int .i64 (acmp a b)) ∧ Frm (fun _ => False) w w' := by
  refine enter Tryz.func102 rfl Tryz.ntmps102 rfl (St.start (fun _ => False) w) ?_
  refine WC.seq <| WC.region <| WL.box rfl rfl rfl (.none rfl) rfl rfl <| ?_
  intro g2 hg2
  refine WL.box rfl rfl rfl (.none rfl) rfl rfl ?_
  intro g3 hg3
  refine WL.v (v_assign rfl rfl) rfl <| WL.nt <| WC.seq <| WC.orders mixed <| ?_
  refine WR.first (g := 7) [0, 2, 5, 6, 7, 8] (by kernel_rfl) (by kernel_rfl) ?_
  refine WP.val (v_fieldAddr0 rfl rfl fld_110_0) (.none rfl) rfl rfl <| WP.val (v_fieldAddr0 rfl rfl fld_110_0) (.none rfl) rfl rfl <| WP.val (v_fieldAddr0 rfl rfl fld_110_1) (.none rfl) rfl rfl <| WP.val (v_slice_arr rfl rfl Tryz.underlying108 sz_23) (.none rfl) rfl rfl <| WP.val (v_fieldAddr0 rfl rfl fld_110_1) (.none rfl) rfl rfl <| WP.val (v_slice_arr rfl rfl Tryz.underlying108 sz_23) (.none rfl) rfl rfl <| WP.nil <| ?_
  refine WR.read (g := 3) [1, 3, 4, 9] (by kernel_rfl) (by kernel_rfl) (by kernel_rfl) (by kernel_rfl) rfl ?_
  refine WQ.val (v_load1 rfl rfl one_3 (cellAt rfl)) (.none rfl) rfl rfl <| WQ.val (v_load1 rfl rfl one_3 (cellAt rfl)) (.none rfl) rfl rfl <| WQ.call _ rfl rfl ck_106 (.none rfl) rfl rfl (fun w hS => Calls.still (CmpI_c w a.set b.set) hS) <| WQ.call _ rfl rfl ck_143 (.none rfl) rfl rfl (fun w hS => Calls.still (SCmp_c w _ _ _ _ a.val b.val (fun i hi => hS.cell (acL_get a hi)) (fun i hi => hS.cell (acL_get b hi))) hS) <| WQ.nilR <| ?_
  refine WR.ones (g := 2) [10] (by kernel_rfl) ?_
  refine WL.buildSlice rfl rfl Tryz.underlying74 sz_3 zero_3 rfl (by decide) rfl (.none rfl) rfl rfl ?_
  intro g15 hg15
  refine WL.nilR ?_
  refine WR.read (g := 0) [11, 12] (by kernel_rfl) (by kernel_rfl) (by kernel_rfl) (by kernel_rfl) rfl ?_
  refine WQ.call _ rfl rfl ck_105 (.none rfl) rfl rfl (fun w hS => Calls.still (Or_c w _ _ _ (hS.cell rfl) (hS.cell rfl)) hS) <| WQ.val (v_assign rfl rfl) (.none rfl) rfl rfl <| WQ.nilR <| ?_
  refine WR.done (by kernel_rfl) ?_
  refine WE.then_n <| WC.ret <| WE.ret1 (P := Tryz.prog) (.inl rfl) Tryz.results102 rfl <| ?_
  exact fun w' h => ⟨rfl, h.frm⟩
end Go.Proofs.YtkeonnnhogaggaaGreatDoor
/- match: a match as two lists of numbers; right, On, Exact, Hits. rules.On; carrefourlaw17.right. -/
namespace Go.Proofs.YtkeonnnhogaggaaGreatDoor
open Go.RowKit

theorem xorN_le {x y : Int} (hx' : x ≤ 18446744073709551615) (hy' : y ≤ 18446744073709551615) : 0 ≤ xorN x y ∧ xorN x y ≤ 18446744073709551615 := by
  unfold xorN
  have h := Nat.xor_lt_two_pow (x := x.toNat) (y := y.toNat) (n := 64) (by omega) (by omega)
  omega
structure Mt where
  val : Nat → Int
  mask : Nat → Int
def mtL (m : Mt) : List Value := ucs m.val 9 ++ ucs m.mask 9
def mtV (m : Mt) : Value := .agg (mtL m).toArray
structure Mt.In (m : Mt) : Prop where
  val : ∀ k, 0 ≤ m.val k ∧ m.val k ≤ 18446744073709551615
  mask : ∀ k, 0 ≤ m.mask k ∧ m.mask k ≤ 18446744073709551615
theorem mtL_val (m : Mt) {k : Nat} (h : k < 9) : (mtL m)[0 + k * 1]? = some (.int .u64 (m.val k)) := by
  unfold mtL
  rw [show 0 + k * 1 = k by omega, List.getElem?_append_left (by rw [ucs_len]; exact h), ucs_get _ h]
theorem mtL_mask (m : Mt) {k : Nat} (h : k < 9) : (mtL m)[9 + k * 1]? = some (.int .u64 (m.mask k)) := by
  unfold mtL
  rw [show 9 + k * 1 = 9 + k by omega, List.getElem?_append_right (by rw [ucs_len]; omega), ucs_len, show 9 + k - 9 = k by omega, ucs_get _ h]
theorem mtL_setVal {m : Mt} {k : Nat} {x : Int} (h : k < 9) : (mtL m).set (0 + k * 1) (.int .u64 x) = mtL ⟨fun i => if i = k then x else m.val i, m.mask⟩ := by
  unfold mtL
  rw [show 0 + k * 1 = k by omega, List.set_append_left _ _ (by rw [ucs_len]; exact h), ucs_set h]
theorem mtL_setMask {m : Mt} {k : Nat} {x : Int} (h : k < 9) : (mtL m).set (9 + k * 1) (.int .u64 x) = mtL ⟨m.val, fun i => if i = k then x else m.mask i⟩ := by
  unfold mtL
  rw [show 9 + k * 1 = 9 + k by omega, List.set_append_right _ _ (by rw [ucs_len]; omega), ucs_len, show 9 + k - 9 = k by omega, ucs_set h]
theorem mtL_len (m : Mt) : (mtL m).length = 18 := by simp [mtL, ucs_len]
def mtOk (k : Nat) (val mask : Int) : Prop := andNotN mask (fullI k) = 0 ∧ andNotN val mask = 0
instance (k : Nat) (v m : Int) : Decidable (mtOk k v m) := by unfold mtOk; infer_instance
theorem fullI_u64 (k : Nat) : 0 ≤ fullI k ∧ fullI k ≤ 18446744073709551615 := by have := pow_wd k; unfold fullI; omega
theorem MRight_c (w : World) (k : Nat) (hk : k < 9) (val mask : Int) (hv : 0 ≤ val ∧ val ≤ 18446744073709551615) (hm : 0 ≤ mask ∧ mask ≤ 18446744073709551615) (hG : GW w) :
    Calls Tryz.prog 172 #[.int .i64 k, .int .u64 val, .int .u64 mask] w fun e w' => e = .returned (.bool (decide (mtOk k val mask))) ∧ Frm (fun _ => False) w w' := by
  have hf := fullI_u64 k
  refine enter Tryz.func172 rfl Tryz.ntmps172 rfl (St.start (fun _ => False) w) ?_
  refine WC.seq <| WC.region <| WL.v (v_assign rfl rfl) rfl <| WL.nt <| WC.seq <| WC.region <| WL.v (v_move rfl rfl) rfl <| WL.v (v_move rfl rfl) rfl <| WL.call rfl rfl ck_98 (.none rfl) rfl rfl <| ?_
  intro w hS
  refine Calls.then (Full_n w k hk (hG.keep (fun h => h) hS)) hS ?_
  refine WL.v (v_andNot rfl rfl rfl (bits_andNot_u64 hm.1 hm.2 hf.1 hf.2)) rfl ?_
  refine WL.test (v_eql rfl rfl rfl) (.none rfl) rfl rfl (fun h11 => ?_) (fun h11 => ?_)
  ·
   refine WL.v (v_move rfl rfl) rfl <| WL.val (v_move rfl rfl) (.some rfl rfl rfl) rfl rfl <| WL.val (v_move rfl rfl) (.some rfl rfl rfl) rfl rfl <| WL.val (v_andNot rfl rfl rfl (bits_andNot_u64 hv.1 hv.2 hm.1 hm.2)) (.some rfl rfl rfl) rfl rfl <| ?_
   refine WL.test (v_eql rfl rfl rfl) (.some rfl rfl rfl) rfl rfl (fun h16 => ?_) (fun h16 => ?_)
   ·
    refine WL.v (v_pick_t rfl rfl rfl) rfl <| WL.v (v_assign rfl rfl) rfl <| WL.nt <| WC.ret <| WE.ret1 (P := Tryz.prog) (.inl rfl) Tryz.results172 rfl <| ?_
    exact fun w' h => ⟨by rw [decide_eq_true ⟨h11, h16⟩], h.frm⟩
   ·
    refine WL.v (v_pick_t rfl rfl rfl) rfl <| WL.v (v_assign rfl rfl) rfl <| WL.nt <| WC.ret <| WE.ret1 (P := Tryz.prog) (.inl rfl) Tryz.results172 rfl <| ?_
    exact fun w' h => ⟨by rw [decide_eq_false (fun q => h16 q.2)], h.frm⟩
  ·
   refine WL.v (v_move rfl rfl) rfl ?_
   iterate 4 refine WL.sk rfl ?_
   refine WL.v (v_pick_f rfl rfl rfl) rfl <| WL.v (v_assign rfl rfl) rfl <| WL.nt <| WC.ret <| WE.ret1 (P := Tryz.prog) (.inl rfl) Tryz.results172 rfl <| ?_
   exact fun w' h => ⟨by rw [decide_eq_false (fun q => h11 q.1)], h.frm⟩
theorem MField_c (w : World) (k : Nat) (hk : k < 9) :
    Calls Tryz.prog 171 #[.int .i64 k] w fun e w' => e = .returned (.bool true) ∧ Frm (fun _ => False) w w' := by
  refine enter Tryz.func171 rfl Tryz.ntmps171 rfl (St.start (fun _ => False) w) ?_
  refine WC.seq <| WC.region <| WL.v (v_assign rfl rfl) rfl <| WL.nt <| WC.seq <| WC.region <| WL.v (v_move rfl rfl) rfl <| ?_
  refine WL.v ((v_geq rfl rfl rfl).t (by omega)) rfl ?_
  refine WL.v (v_move rfl rfl) rfl <| WL.val (v_move rfl rfl) (.some rfl rfl rfl) rfl rfl <| ?_
  refine WL.val ((v_lss rfl rfl rfl).t (by omega)) (.some rfl rfl rfl) rfl rfl ?_
  refine WL.v (v_pick_t rfl rfl rfl) rfl <| WL.v (v_assign rfl rfl) rfl <| WL.nt <| WC.ret <| WE.ret1 (P := Tryz.prog) (.inl rfl) Tryz.results171 rfl <| ?_
  exact fun w' h => ⟨rfl, h.frm⟩
def Mt.one (k : Nat) (val mask : Int) : Mt := ⟨fun i => if i = k then val else 0, fun i => if i = k then mask else 0⟩
theorem MOn_c (w : World) (k : Nat) (hk : k < 9) (val mask : Int) (hv : 0 ≤ val ∧ val ≤ 18446744073709551615) (hm : 0 ≤ mask ∧ mask ≤ 18446744073709551615) (hok : mtOk k val mask) (hG : GW w) :
    Calls Tryz.prog 129 #[.int .i64 k, .int .u64 val, .int .u64 mask] w fun e w' => e = .returned (.tuple #[mtV (Mt.one k val mask), .int .i64 0]) ∧ Frm (fun _ => False) w w' := by
  refine enter Tryz.func129 rfl Tryz.ntmps129 rfl (St.start (fun _ => False) w) ?_
  refine WC.seq <| WC.region <| WL.alloc rfl zero_115 (.none rfl) rfl rfl <| ?_
  intro g6 hg6
  refine WL.v (v_assign rfl rfl) rfl <| WL.nt <| WC.seq <| WC.seq <| WC.region <| WL.v (v_move rfl rfl) rfl <| WL.call rfl rfl ck_171 (.none rfl) rfl rfl <| ?_
  intro w hS
  refine Calls.then (MField_c w k hk) hS ?_
  refine WL.v (v_not rfl rfl rfl) rfl <| WL.v (v_move rfl rfl) rfl <| WL.val (v_move rfl rfl) (.some rfl rfl rfl) rfl rfl <| WL.val (v_move rfl rfl) (.some rfl rfl rfl) rfl rfl <| WL.val (v_move rfl rfl) (.some rfl rfl rfl) rfl rfl <| WL.call rfl rfl ck_172 (.some rfl rfl rfl) rfl rfl <| ?_
  intro w hS
  refine Calls.then ((MRight_c w k hk val mask hv hm (hG.keep (fun h => h) hS)).mono fun _ _ h => ⟨by rw [h.1, decide_eq_true hok], h.2⟩) hS ?_
  refine WL.val (v_not rfl rfl rfl) (.some rfl rfl rfl) rfl rfl <| WL.v (v_pick_f rfl rfl rfl) rfl <| WL.nt <| WC.cond_f rfl <| WC.skip <| WE.then_n <| WC.seq <| WC.region <| WL.alloc rfl zero_115 (.none rfl) rfl rfl <| ?_
  intro g8 hg8
  refine WL.nt <| WC.seq <| WC.region <| WL.v (v_move rfl rfl) rfl <| WL.v (v_move rfl rfl) rfl <| WL.v (v_fieldAddr0 rfl rfl fld_115_0) rfl <| ?_
  refine WL.v (v_indexAddrA (lo := k) rfl rfl rfl Tryz.underlying108 sz_23 (by omega) (by omega)) rfl ?_
  refine WL.store1 rfl rfl rfl rfl one_23 (by show 0 + k * 1 < 18; omega) (.none rfl) rfl ?_
  refine WL.as (L' := [.row g8 (mtL ⟨fun i => if i = k then val else 0, fun _ => 0⟩), .row g6 (mtL ⟨fun _ => 0, fun _ => 0⟩)]) (by
  have e := mtL_setVal (m := ⟨fun _ => 0, fun _ => 0⟩) (x := val) hk
  exact congrArg (fun z => [Ent.row g8 z, Ent.row g6 (mtL ⟨fun _ => 0, fun _ => 0⟩)]) e) ?_
  refine WL.nt <| WC.seq <| WC.region <| WL.v (v_move rfl rfl) rfl <| WL.v (v_move rfl rfl) rfl <| WL.v (v_fieldAddr0 rfl rfl fld_115_1) rfl <| ?_
  refine WL.v (v_indexAddrA (lo := k) rfl rfl rfl Tryz.underlying108 sz_23 (by omega) (by omega)) rfl ?_
  refine WL.store1 rfl rfl rfl rfl one_23 (by rw [mtL_len]; omega) (.none rfl) rfl ?_
  refine WL.as (L' := [.row g8 (mtL (Mt.one k val mask)), .row g6 (mtL ⟨fun _ => 0, fun _ => 0⟩)]) (by rw [mtL_setMask hk]; rfl) ?_
  refine WL.nt <| WC.seq <| WC.region <| WL.v (v_loadN rfl rfl many_115 rfl allAt) rfl <| WL.storeW rfl rfl rfl rfl many_115 rfl rfl (.none rfl) rfl <| WL.v (v_assign rfl rfl) rfl <| WL.nt <| WC.ret <| WE.ret2 (P := Tryz.prog) (.inl rfl) Tryz.results129 (resRow rfl many_115 rfl) rfl <| ?_
  exact fun w' h => ⟨rfl, h.frm⟩
def Mt.hits (m : Mt) (H : Hd) : Prop := ∀ k, k < 9 → andN (xorN (getF H k) (m.val k)) (m.mask k) = 0
instance (m : Mt) (H : Hd) : Decidable (m.hits H) := by unfold Mt.hits; infer_instance
def Ac.one (k : Nat) (val : Int) : Ac := ⟨(2 : Int) ^ k, fun i => if i = k then val else 0⟩
theorem AOn_c (w : World) (k : Nat) (hk : k < 9) (val : Int) (_h0 : 0 ≤ val) (h1 : val ≤ fullI k) (hG : GW w) :
    Calls Tryz.prog 45 #[.int .i64 k, .int .u64 val] w fun e w' => e = .returned (.tuple #[acV (Ac.one k val), .int .i64 0]) ∧ Frm (fun _ => False) w w' := by
  have hp : (1 : Int) ≤ 2 ^ k ∧ (2 : Int) ^ k ≤ 256 := by
    match k, hk with
    | 0, _ | 1, _ | 2, _ | 3, _ | 4, _ | 5, _ | 6, _ | 7, _ | 8, _ => decide
  refine enter Tryz.func45 rfl Tryz.ntmps45 rfl (St.start (fun _ => False) w) ?_
  refine WC.seq <| WC.region <| WL.alloc rfl zero_110 (.none rfl) rfl rfl <| ?_
  intro g4 hg4
  refine WL.v (v_assign rfl rfl) rfl <| WL.nt <| WC.seq <| WC.seq <| WC.region <| WL.v (v_move rfl rfl) rfl <| ?_
  refine WL.v ((v_lss rfl rfl rfl).f (by omega)) rfl ?_
  refine WL.v (v_move rfl rfl) rfl <| WL.val (v_move rfl rfl) (.some rfl rfl rfl) rfl rfl <| ?_
  refine WL.val ((v_geq rfl rfl rfl).f (by omega)) (.some rfl rfl rfl) rfl rfl ?_
  refine WL.v (v_pick_f rfl rfl rfl) rfl <| WL.v (v_move rfl rfl) rfl <| WL.val (v_move rfl rfl) (.some rfl rfl rfl) rfl rfl <| WL.val (v_move rfl rfl) (.some rfl rfl rfl) rfl rfl <| WL.call rfl rfl ck_98 (.some rfl rfl rfl) rfl rfl <| ?_
  intro w hS
  refine Calls.then (Full_n w k hk (hG.keep (fun h => h) hS)) hS ?_
  refine WL.val ((v_gtr rfl rfl rfl).f (by omega)) (.some rfl rfl rfl) rfl rfl ?_
  refine WL.v (v_pick_f rfl rfl rfl) rfl <| WL.nt <| WC.cond_f rfl <| WC.skip <| WE.then_n <| WC.seq <| WC.region <| WL.v (v_move rfl rfl) rfl <| ?_
  refine WL.v (v_shl (m := k) (c := (2 : Int) ^ k) rfl rfl rfl rfl (by show k ≤ 64; omega) rfl ((congrArg _ (Int.one_mul _)).trans (w_i64 (by omega) (by omega)))) rfl ?_
  refine WL.v (v_build rfl rfl zero_110 plc_110 rfl) rfl <| WL.alloc rfl zero_110 (.none rfl) rfl rfl <| ?_
  intro g6 hg6
  refine WL.storeW rfl rfl rfl rfl many_110 rfl rfl (.none rfl) rfl <| WL.as (L' := [.row g6 (acL ⟨(2 : Int) ^ k, fun _ => 0⟩), .row g4 (acL ⟨0, fun _ => 0⟩)]) rfl <| WL.nt <| WC.seq <| WC.region <| WL.v (v_move rfl rfl) rfl <| WL.v (v_move rfl rfl) rfl <| WL.v (v_fieldAddr0 rfl rfl fld_110_1) rfl <| ?_
  refine WL.v (v_indexAddrA (lo := k) rfl rfl rfl Tryz.underlying108 sz_23 (by omega) (by omega)) rfl ?_
  refine WL.store1 rfl rfl rfl rfl one_23 (by show 1 + k * 1 < (acL _).length; unfold acL; rw [List.length_cons, ucs_len]; omega) (.none rfl) rfl ?_
  refine WL.as (L' := [.row g6 (acL (Ac.one k val)), .row g4 (acL ⟨0, fun _ => 0⟩)]) (by
  rw [show 1 + k * 1 = k + 1 by omega]
  unfold acL
  rw [List.set_cons_succ, ucs_set hk]
  rfl) ?_
  refine WL.nt <| WC.seq <| WC.region <| WL.v (v_loadN rfl rfl many_110 rfl allAt) rfl <| WL.storeW rfl rfl rfl rfl many_110 rfl rfl (.none rfl) rfl <| WL.v (v_assign rfl rfl) rfl <| WL.nt <| WC.ret <| WE.ret2 (P := Tryz.prog) (.inl rfl) Tryz.results45 (resRow rfl many_110 rfl) rfl <| ?_
  exact fun w' h => ⟨rfl, h.frm⟩
end Go.Proofs.YtkeonnnhogaggaaGreatDoor
/- policy: a node as a tree, and where its nodes lie. -/
namespace Go.Proofs.YtkeonnnhogaggaaGreatDoor
open Go.RowKit

/-- A node, with where its kids lie. -/
inductive Nd where
  | mk (kind f val mask : Int) (ad : Option Addr) (cap : Nat) (kids : List Nd)
def Nd.kind : Nd → Int | .mk k _ _ _ _ _ _ => k
def Nd.f : Nd → Int | .mk _ f _ _ _ _ _ => f
def Nd.val : Nd → Int | .mk _ _ v _ _ _ _ => v
def Nd.mask : Nd → Int | .mk _ _ _ m _ _ _ => m
def Nd.ad : Nd → Option Addr | .mk _ _ _ _ a _ _ => a
def Nd.cap : Nd → Nat | .mk _ _ _ _ _ c _ => c
def Nd.kids : Nd → List Nd | .mk _ _ _ _ _ _ ks => ks
def ndL (t : Nd) : List Value := [.int .i64 t.kind, .int .i64 t.f, .int .u64 t.val, .int .u64 t.mask, .slice t.ad t.kids.length t.cap]
def ndV (t : Nd) : Value := .agg (ndL t).toArray
mutual
/-- The node's kids lie in this world where the tree says, and theirs. -/
def Nd.At (w : World) : Nd → Prop
  | .mk _ _ _ _ ad _ kids => KidsAt w ad 0 kids
def KidsAt (w : World) (ad : Option Addr) : Nat → List Nd → Prop
  | _, [] => True
  | i, t :: ts => (∃ b o, ad = some ⟨b, o, none⟩ ∧ w.rangeAt b (o + i * 5) (ndL t)) ∧ t.At w ∧ KidsAt w ad (i + 1) ts
end
mutual
/-- Its numbers are numbers of their types. -/
def Nd.In : Nd → Prop
  | .mk k f v m _ _ kids => (-9223372036854775808 ≤ k ∧ k ≤ 9223372036854775807) ∧ (-9223372036854775808 ≤ f ∧ f ≤ 9223372036854775807) ∧ (0 ≤ v ∧ v ≤ 18446744073709551615) ∧ (0 ≤ m ∧ m ≤ 18446744073709551615) ∧ kids.length ≤ 9223372036854775807 ∧ KidsIn kids
def KidsIn : List Nd → Prop
  | [] => True
  | t :: ts => t.In ∧ KidsIn ts
end
theorem KidsAt.get {w : World} {ad : Option Addr} : ∀ (ts : List Nd) (i j : Nat) (t : Nd), KidsAt w ad i ts → ts[j]? = some t → (∃ b o, ad = some ⟨b, o, none⟩ ∧ w.rangeAt b (o + (i + j) * 5) (ndL t)) ∧ t.At w
  | [], _, _, _, _, h => by simp at h
  | t :: ts, i, 0, t', h, ht => by
    simp only [List.getElem?_cons_zero, Option.some.injEq] at ht
    subst ht
    unfold KidsAt at h
    exact ⟨h.1, h.2.1⟩
  | t :: ts, i, j + 1, t', h, ht => by
    unfold KidsAt at h
    rw [List.getElem?_cons_succ] at ht
    have := KidsAt.get ts (i + 1) j t' h.2.2 ht
    rwa [show i + 1 + j = i + (j + 1) by omega] at this
theorem KidsIn.get : ∀ (ts : List Nd) (j : Nat) (t : Nd), KidsIn ts → ts[j]? = some t → t.In
  | [], _, _, _, h => by simp at h
  | t :: ts, 0, t', h, ht => by
    simp only [List.getElem?_cons_zero, Option.some.injEq] at ht
    subst ht
    unfold KidsIn at h
    exact h.1
  | t :: ts, j + 1, t', h, ht => by
    unfold KidsIn at h
    rw [List.getElem?_cons_succ] at ht
    exact KidsIn.get ts j t' h.2 ht
mutual
theorem Nd.At.keep {w w' : World} (hw : ∀ b o cs, w.rangeAt b o cs → w'.rangeAt b o cs) : ∀ t : Nd, t.At w → t.At w'
  | .mk _ _ _ _ ad _ kids, h => by unfold Nd.At at h ⊢; exact KidsAt.keep hw ad 0 kids h
theorem KidsAt.keep {w w' : World} (hw : ∀ b o cs, w.rangeAt b o cs → w'.rangeAt b o cs) (ad : Option Addr) : ∀ (i : Nat) (ts : List Nd), KidsAt w ad i ts → KidsAt w' ad i ts
  | _, [], _ => by unfold KidsAt; trivial
  | i, t :: ts, h => by
    unfold KidsAt at h ⊢
    obtain ⟨⟨b, o, e, hr⟩, h2, h3⟩ := h
    exact ⟨⟨b, o, e, hw _ _ _ hr⟩, Nd.At.keep hw t h2, KidsAt.keep hw ad (i + 1) ts h3⟩
end
theorem Nd.At.kids {w : World} {t : Nd} (h : t.At w) : KidsAt w t.ad 0 t.kids := by cases t; unfold Nd.At at h; exact h
theorem Nd.In.kids {t : Nd} (h : t.In) : KidsIn t.kids := by cases t; unfold Nd.In at h; exact h.2.2.2.2.2
theorem Nd.In.nums {t : Nd} (h : t.In) : (-9223372036854775808 ≤ t.kind ∧ t.kind ≤ 9223372036854775807) ∧ (-9223372036854775808 ≤ t.f ∧ t.f ≤ 9223372036854775807) ∧ (0 ≤ t.val ∧ t.val ≤ 18446744073709551615) ∧ (0 ≤ t.mask ∧ t.mask ≤ 18446744073709551615) ∧ t.kids.length ≤ 9223372036854775807 := by
  cases t; unfold Nd.In at h; exact ⟨h.1, h.2.1, h.2.2.1, h.2.2.2.1, h.2.2.2.2.1⟩
/-- Kid j, and where it lies. -/
theorem Nd.At.kid {w : World} {t u : Nd} {j : Nat} (h : t.At w) (hu : t.kids[j]? = some u) : (∃ b o, t.ad = some ⟨b, o, none⟩ ∧ w.rangeAt b (o + j * 5) (ndL u)) ∧ u.At w := by
  have := h.kids.get _ 0 j u hu
  rwa [Nat.zero_add] at this
/-! ### What is wrong with a node by itself -/
def isFld (f : Int) : Prop := 0 ≤ f ∧ f < 9
instance (f : Int) : Decidable (isFld f) := by unfold isFld; infer_instance
def fitsP (k : Int) (pred : Bool) : Bool := if pred then decide (1 ≤ k ∧ k ≤ 6) else decide (11 ≤ k ∧ k ≤ 17)
def argE (t : Nd) : Int :=
  if t.kind = 3 then (if ¬ isFld t.f ∨ andNotN t.mask (fullI t.f.toNat) ≠ 0 ∨ andNotN t.val t.mask ≠ 0 then 1 else 0)
  else if t.kind = 14 then (if ¬ isFld t.f ∨ t.f = 3 ∨ t.f = 6 ∨ t.val > fullI t.f.toNat then 1 else 0) else 0
def leastK (k : Int) : Int := if k = 4 ∨ k = 13 then 1 else if k = 17 then 3 else 0
def mostK (k : Int) : Int := if k = 4 ∨ k = 13 then 1 else if k = 17 then 3 else if k = 5 ∨ k = 6 ∨ k = 15 ∨ k = 16 then 64 else 0
def formE (t : Nd) : Int := if (t.kids.length : Int) < leastK t.kind ∨ mostK t.kind < t.kids.length then 2 else 0
def predK (k : Int) (place : Nat) : Bool := decide (k = 4 ∨ k = 5 ∨ k = 6 ∨ k = 13 ∨ k = 17 ∧ place = 0)
theorem PField_c (w : World) (f : Int) :
    Calls Tryz.prog 128 #[.int .i64 f] w fun e w' => e = .returned (.bool (decide (isFld f))) ∧ Frm (fun _ => False) w w' := by
  refine enter Tryz.func128 rfl Tryz.ntmps128 rfl (St.start (fun _ => False) w) ?_
  refine WC.seq <| WC.region <| WL.v (v_assign rfl rfl) rfl <| WL.nt <| WC.seq <| WC.region <| WL.v (v_move rfl rfl) rfl <| ?_
  refine WL.test (v_geq rfl rfl rfl) (.none rfl) rfl rfl (fun h4 => ?_) (fun h4 => ?_)
  ·
   refine WL.v (v_move rfl rfl) rfl <| WL.val (v_move rfl rfl) (.some rfl rfl rfl) rfl rfl <| ?_
   refine WL.test (v_lss rfl rfl rfl) (.some rfl rfl rfl) rfl rfl (fun h7 => ?_) (fun h7 => ?_)
   ·
    refine WL.v (v_pick_t rfl rfl rfl) rfl <| WL.v (v_assign rfl rfl) rfl <| WL.nt <| WC.ret <| WE.ret1 (P := Tryz.prog) (.inl rfl) Tryz.results128 rfl <| ?_
    exact fun w' h => ⟨by rw [decide_eq_true (p := isFld f) ⟨h4, h7⟩], h.frm⟩
   ·
    refine WL.v (v_pick_t rfl rfl rfl) rfl <| WL.v (v_assign rfl rfl) rfl <| WL.nt <| WC.ret <| WE.ret1 (P := Tryz.prog) (.inl rfl) Tryz.results128 rfl <| ?_
    exact fun w' h => ⟨by rw [decide_eq_false (fun q : isFld f => h7 q.2)], h.frm⟩
  ·
   refine WL.v (v_move rfl rfl) rfl ?_
   iterate 2 refine WL.sk rfl ?_
   refine WL.v (v_pick_f rfl rfl rfl) rfl <| WL.v (v_assign rfl rfl) rfl <| WL.nt <| WC.ret <| WE.ret1 (P := Tryz.prog) (.inl rfl) Tryz.results128 rfl <| ?_
   exact fun w' h => ⟨by rw [decide_eq_false (fun q : isFld f => h4 q.1)], h.frm⟩
theorem Fits_c (w : World) (k : Int) (pred : Bool) :
    Calls Tryz.prog 87 #[.int .i64 k, .bool pred] w fun e w' => e = .returned (.bool (fitsP k pred)) ∧ Frm (fun _ => False) w w' := by
  refine enter Tryz.func87 rfl Tryz.ntmps87 rfl (St.start (fun _ => False) w) ?_
  refine WC.seq <| WC.region <| WL.v (v_assign rfl rfl) rfl <| WL.nt <| WC.seq <| WC.seq <| WC.region <| WL.v (v_move rfl rfl) rfl <| ?_
  cases pred
  ·
   refine WL.nt <| WC.cond_f rfl <| WC.skip <| WE.then_n <| WC.seq <| WC.region <| WL.v (v_move rfl rfl) rfl <| ?_
   refine WL.test (v_geq rfl rfl rfl) (.none rfl) rfl rfl (fun h13 => ?_) (fun h13 => ?_)
   ·
    refine WL.v (v_move rfl rfl) rfl <| WL.val (v_move rfl rfl) (.some rfl rfl rfl) rfl rfl <| ?_
    refine WL.test (v_leq rfl rfl rfl) (.some rfl rfl rfl) rfl rfl (fun h16 => ?_) (fun h16 => ?_)
    ·
     refine WL.v (v_pick_t rfl rfl rfl) rfl <| WL.v (v_assign rfl rfl) rfl <| WL.nt <| WC.ret <| WE.ret1 (P := Tryz.prog) (.inl rfl) Tryz.results87 rfl <| ?_
     exact fun w' h => ⟨by unfold fitsP; first | (rw [if_pos rfl, decide_eq_true (by omega)]) | (rw [if_pos rfl, decide_eq_false (by omega)]) | (rw [if_neg (by decide), decide_eq_true (by omega)]) | (rw [if_neg (by decide), decide_eq_false (by omega)]), h.frm⟩
    ·
     refine WL.v (v_pick_t rfl rfl rfl) rfl <| WL.v (v_assign rfl rfl) rfl <| WL.nt <| WC.ret <| WE.ret1 (P := Tryz.prog) (.inl rfl) Tryz.results87 rfl <| ?_
     exact fun w' h => ⟨by unfold fitsP; first | (rw [if_pos rfl, decide_eq_true (by omega)]) | (rw [if_pos rfl, decide_eq_false (by omega)]) | (rw [if_neg (by decide), decide_eq_true (by omega)]) | (rw [if_neg (by decide), decide_eq_false (by omega)]), h.frm⟩
   ·
    refine WL.v (v_move rfl rfl) rfl ?_
    iterate 2 refine WL.sk rfl ?_
    refine WL.v (v_pick_f rfl rfl rfl) rfl <| WL.v (v_assign rfl rfl) rfl <| WL.nt <| WC.ret <| WE.ret1 (P := Tryz.prog) (.inl rfl) Tryz.results87 rfl <| ?_
    exact fun w' h => ⟨by unfold fitsP; first | (rw [if_pos rfl, decide_eq_true (by omega)]) | (rw [if_pos rfl, decide_eq_false (by omega)]) | (rw [if_neg (by decide), decide_eq_true (by omega)]) | (rw [if_neg (by decide), decide_eq_false (by omega)]), h.frm⟩
  ·
   refine WL.nt <| WC.cond_t rfl <| WC.seq <| WC.region <| WL.v (v_move rfl rfl) rfl <| ?_
   refine WL.test (v_geq rfl rfl rfl) (.none rfl) rfl rfl (fun h7 => ?_) (fun h7 => ?_)
   ·
    refine WL.v (v_move rfl rfl) rfl <| WL.val (v_move rfl rfl) (.some rfl rfl rfl) rfl rfl <| ?_
    refine WL.test (v_leq rfl rfl rfl) (.some rfl rfl rfl) rfl rfl (fun h10 => ?_) (fun h10 => ?_)
    ·
     refine WL.v (v_pick_t rfl rfl rfl) rfl <| WL.v (v_assign rfl rfl) rfl <| WL.nt <| WC.ret <| WE.then_ret <| WE.ret1 (P := Tryz.prog) (.inl rfl) Tryz.results87 rfl <| ?_
     exact fun w' h => ⟨by unfold fitsP; first | (rw [if_pos rfl, decide_eq_true (by omega)]) | (rw [if_pos rfl, decide_eq_false (by omega)]) | (rw [if_neg (by decide), decide_eq_true (by omega)]) | (rw [if_neg (by decide), decide_eq_false (by omega)]), h.frm⟩
    ·
     refine WL.v (v_pick_t rfl rfl rfl) rfl <| WL.v (v_assign rfl rfl) rfl <| WL.nt <| WC.ret <| WE.then_ret <| WE.ret1 (P := Tryz.prog) (.inl rfl) Tryz.results87 rfl <| ?_
     exact fun w' h => ⟨by unfold fitsP; first | (rw [if_pos rfl, decide_eq_true (by omega)]) | (rw [if_pos rfl, decide_eq_false (by omega)]) | (rw [if_neg (by decide), decide_eq_true (by omega)]) | (rw [if_neg (by decide), decide_eq_false (by omega)]), h.frm⟩
   ·
    refine WL.v (v_move rfl rfl) rfl ?_
    iterate 2 refine WL.sk rfl ?_
    refine WL.v (v_pick_f rfl rfl rfl) rfl <| WL.v (v_assign rfl rfl) rfl <| WL.nt <| WC.ret <| WE.then_ret <| WE.ret1 (P := Tryz.prog) (.inl rfl) Tryz.results87 rfl <| ?_
    exact fun w' h => ⟨by unfold fitsP; first | (rw [if_pos rfl, decide_eq_true (by omega)]) | (rw [if_pos rfl, decide_eq_false (by omega)]) | (rw [if_neg (by decide), decide_eq_true (by omega)]) | (rw [if_neg (by decide), decide_eq_false (by omega)]), h.frm⟩
theorem PredKid_c (w : World) (t : Nd) (place : Nat) :
    Calls Tryz.prog 90 #[ndV t, .int .i64 place] w fun e w' => e = .returned (.bool (predK t.kind place)) ∧ Frm (fun _ => False) w w' := by
  refine enter Tryz.func90 rfl Tryz.ntmps90 rfl (St.start (fun _ => False) w) ?_
  refine WC.seq <| WC.region <| WL.box rfl rfl rfl (.none rfl) rfl rfl <| ?_
  intro g2 hg2
  refine WL.v (v_assign rfl rfl) rfl <| WL.nt <| WC.seq <| WC.seq <| WC.region <| WL.v (v_fieldAddr0 rfl rfl fld_26_0) rfl <| WL.v (v_load1 rfl rfl one_3 (cellAt rfl)) rfl <| WL.nt <| WC.block <| WC.seq <| WC.seq <| WC.region <| ?_
  refine WL.test (v_eql rfl rfl rfl) (.none rfl) rfl rfl (fun h8 => ?_) (fun h8 => ?_)
  ·
   refine WL.v (v_assign rfl rfl) rfl <| WL.nt <| WC.cond_t rfl <| WC.skip <| WE.then_n <| WC.cond_t rfl <| WC.seq <| WC.region <| WL.v (v_assign rfl rfl) rfl <| WL.nt <| WC.ret <| WE.block_ret <| WE.then_ret <| WE.ret1 (P := Tryz.prog) (.inl rfl) Tryz.results90 rfl <| ?_
   exact fun w' h => ⟨by unfold predK; first | rw [decide_eq_true (by omega)] | rw [decide_eq_false (by omega)], h.frm⟩
  ·
   refine WL.v (v_assign rfl rfl) rfl <| WL.nt <| WC.cond_f rfl <| WC.seq <| WC.region <| ?_
   refine WL.test (v_eql rfl rfl rfl) (.none rfl) rfl rfl (fun h9 => ?_) (fun h9 => ?_)
   ·
    refine WL.v (v_assign rfl rfl) rfl <| WL.nt <| WC.cond_t rfl <| WC.skip <| WE.then_n <| WC.cond_t rfl <| WC.seq <| WC.region <| WL.v (v_assign rfl rfl) rfl <| WL.nt <| WC.ret <| WE.block_ret <| WE.then_ret <| WE.ret1 (P := Tryz.prog) (.inl rfl) Tryz.results90 rfl <| ?_
    exact fun w' h => ⟨by unfold predK; first | rw [decide_eq_true (by omega)] | rw [decide_eq_false (by omega)], h.frm⟩
   ·
    refine WL.v (v_assign rfl rfl) rfl <| WL.nt <| WC.cond_f rfl <| WC.seq <| WC.region <| ?_
    refine WL.test (v_eql rfl rfl rfl) (.none rfl) rfl rfl (fun h10 => ?_) (fun h10 => ?_)
    ·
     refine WL.v (v_assign rfl rfl) rfl <| WL.nt <| WC.cond_t rfl <| WC.skip <| WE.then_n <| WC.cond_t rfl <| WC.seq <| WC.region <| WL.v (v_assign rfl rfl) rfl <| WL.nt <| WC.ret <| WE.block_ret <| WE.then_ret <| WE.ret1 (P := Tryz.prog) (.inl rfl) Tryz.results90 rfl <| ?_
     exact fun w' h => ⟨by unfold predK; first | rw [decide_eq_true (by omega)] | rw [decide_eq_false (by omega)], h.frm⟩
    ·
     refine WL.v (v_assign rfl rfl) rfl <| WL.nt <| WC.cond_f rfl <| WC.region <| ?_
     refine WL.test (v_eql rfl rfl rfl) (.none rfl) rfl rfl (fun h11 => ?_) (fun h11 => ?_)
     ·
      refine WL.v (v_assign rfl rfl) rfl <| WL.nt <| WC.cond_t rfl <| WC.seq <| WC.region <| WL.v (v_assign rfl rfl) rfl <| WL.nt <| WC.ret <| WE.block_ret <| WE.then_ret <| WE.ret1 (P := Tryz.prog) (.inl rfl) Tryz.results90 rfl <| ?_
      exact fun w' h => ⟨by unfold predK; first | rw [decide_eq_true (by omega)] | rw [decide_eq_false (by omega)], h.frm⟩
     ·
      refine WL.v (v_assign rfl rfl) rfl <| WL.nt <| WC.cond_f rfl <| WC.seq <| WC.region <| ?_
      refine WL.test (v_eql rfl rfl rfl) (.none rfl) rfl rfl (fun h13 => ?_) (fun h13 => ?_)
      ·
       refine WL.v (v_assign rfl rfl) rfl <| WL.nt <| WC.cond_t rfl <| WC.seq <| WC.region <| WL.v (v_move rfl rfl) rfl <| ?_
       refine WL.test (v_eql rfl rfl rfl) (.none rfl) rfl rfl (fun h15 => ?_) (fun h15 => ?_)
       ·
        refine WL.v (v_assign rfl rfl) rfl <| WL.nt <| WC.ret <| WE.block_ret <| WE.then_ret <| WE.ret1 (P := Tryz.prog) (.inl rfl) Tryz.results90 rfl <| ?_
        exact fun w' h => ⟨by unfold predK; first | rw [decide_eq_true (by omega)] | rw [decide_eq_false (by omega)], h.frm⟩
       ·
        refine WL.v (v_assign rfl rfl) rfl <| WL.nt <| WC.ret <| WE.block_ret <| WE.then_ret <| WE.ret1 (P := Tryz.prog) (.inl rfl) Tryz.results90 rfl <| ?_
        exact fun w' h => ⟨by unfold predK; first | rw [decide_eq_true (by omega)] | rw [decide_eq_false (by omega)], h.frm⟩
      ·
       refine WL.v (v_assign rfl rfl) rfl <| WL.nt <| WC.cond_f rfl <| WC.skip <| WE.block_n <| WE.then_n <| WC.seq <| WC.region <| WL.v (v_assign rfl rfl) rfl <| WL.nt <| WC.ret <| WE.ret1 (P := Tryz.prog) (.inl rfl) Tryz.results90 rfl <| ?_
       exact fun w' h => ⟨by unfold predK; first | rw [decide_eq_true (by omega)] | rw [decide_eq_false (by omega)], h.frm⟩
end Go.Proofs.YtkeonnnhogaggaaGreatDoor
/- policy: what is wrong with a node; the walk of a tree. -/
namespace Go.Proofs.YtkeonnnhogaggaaGreatDoor
open Go.RowKit

theorem Form_c (w : World) (t : Nd) (ht : t.In) :
    Calls Tryz.prog 89 #[ndV t] w fun e w' => e = .returned (.int .i64 (formE t)) ∧ Frm (fun _ => False) w w' := by
  have hn := ht.nums.2.2.2.2
  refine enter Tryz.func89 rfl Tryz.ntmps89 rfl (St.start (fun _ => False) w) ?_
  refine WC.seq <| WC.region <| WL.box rfl rfl rfl (.none rfl) rfl rfl <| ?_
  intro g1 hg1
  refine WL.v (v_assign rfl rfl) rfl <| WL.nt <| WC.seq <| WC.region <| WL.v (v_assign rfl rfl) rfl <| WL.v (v_assign rfl rfl) rfl <| WL.nt <| ?_
  refine WC.cut (fun x : Int × Int => [(3, .int .i64 x.1), (4, .int .i64 x.2), (1, .pointer (some ⟨g1, 0, none⟩))]) (fun _ => [.row g1 (ndL t)]) (fun x => x.1 = leastK t.kind ∧ x.2 = mostK t.kind) ?_ ?_
  ·
   refine WC.seq <| WC.region <| WL.v (v_fieldAddr0 rfl rfl fld_26_0) rfl <| WL.v (v_load1 rfl rfl one_3 (cellAt rfl)) rfl <| WL.nt <| WC.block <| WC.seq <| WC.seq <| WC.region <| ?_
   refine WL.test (v_eql rfl rfl rfl) (.none rfl) rfl rfl (fun h8 => ?_) (fun h8 => ?_)
   ·
    refine WL.v (v_assign rfl rfl) rfl <| WL.nt <| WC.cond_t rfl <| WC.skip <| WE.then_n <| WC.cond_t rfl <| WC.region <| WL.v (v_assign rfl rfl) rfl <| WL.v (v_assign rfl rfl) rfl <| WL.nil <| WE.block_n <| ?_
    exact WE.mid (1, 1) ⟨by unfold leastK; rw [if_pos (by omega)], by unfold mostK; rw [if_pos (by omega)]⟩ (.cons rfl (.cons rfl (.cons rfl .nil))) (.refl _)
   ·
    refine WL.v (v_assign rfl rfl) rfl <| WL.nt <| WC.cond_f rfl <| WC.region <| ?_
    refine WL.test (v_eql rfl rfl rfl) (.none rfl) rfl rfl (fun h9 => ?_) (fun h9 => ?_)
    ·
     refine WL.v (v_assign rfl rfl) rfl <| WL.nt <| WC.cond_t rfl <| WC.region <| WL.v (v_assign rfl rfl) rfl <| WL.v (v_assign rfl rfl) rfl <| WL.nil <| WE.block_n <| ?_
     exact WE.mid (1, 1) ⟨by unfold leastK; rw [if_pos (by omega)], by unfold mostK; rw [if_pos (by omega)]⟩ (.cons rfl (.cons rfl (.cons rfl .nil))) (.refl _)
    ·
     refine WL.v (v_assign rfl rfl) rfl <| WL.nt <| WC.cond_f rfl <| WC.seq <| WC.region <| ?_
     refine WL.test (v_eql rfl rfl rfl) (.none rfl) rfl rfl (fun h11 => ?_) (fun h11 => ?_)
     ·
      refine WL.v (v_assign rfl rfl) rfl <| WL.nt <| WC.cond_t rfl <| WC.region <| WL.v (v_assign rfl rfl) rfl <| WL.v (v_assign rfl rfl) rfl <| WL.nil <| WE.block_n <| ?_
      exact WE.mid (3, 3) ⟨by unfold leastK; rw [if_neg (by omega), if_pos (by omega)], by unfold mostK; rw [if_neg (by omega), if_pos (by omega)]⟩ (.cons rfl (.cons rfl (.cons rfl .nil))) (.refl _)
     ·
      refine WL.v (v_assign rfl rfl) rfl <| WL.nt <| WC.cond_f rfl <| WC.seq <| WC.seq <| WC.region <| ?_
      refine WL.test (v_eql rfl rfl rfl) (.none rfl) rfl rfl (fun h13 => ?_) (fun h13 => ?_)
      ·
       refine WL.v (v_assign rfl rfl) rfl <| WL.nt <| WC.cond_t rfl <| WC.skip <| WE.then_n <| WC.cond_t rfl <| WC.region <| WL.v (v_assign rfl rfl) rfl <| WL.nil <| WE.block_n <| ?_
       exact WE.mid (0, 64) ⟨by unfold leastK; rw [if_neg (by omega), if_neg (by omega)], by unfold mostK; rw [if_neg (by omega), if_neg (by omega), if_pos (by omega)]⟩ (.cons rfl (.cons rfl (.cons rfl .nil))) (.refl _)
      ·
       refine WL.v (v_assign rfl rfl) rfl <| WL.nt <| WC.cond_f rfl <| WC.seq <| WC.region <| ?_
       refine WL.test (v_eql rfl rfl rfl) (.none rfl) rfl rfl (fun h14 => ?_) (fun h14 => ?_)
       ·
        refine WL.v (v_assign rfl rfl) rfl <| WL.nt <| WC.cond_t rfl <| WC.skip <| WE.then_n <| WC.cond_t rfl <| WC.region <| WL.v (v_assign rfl rfl) rfl <| WL.nil <| WE.block_n <| ?_
        exact WE.mid (0, 64) ⟨by unfold leastK; rw [if_neg (by omega), if_neg (by omega)], by unfold mostK; rw [if_neg (by omega), if_neg (by omega), if_pos (by omega)]⟩ (.cons rfl (.cons rfl (.cons rfl .nil))) (.refl _)
       ·
        refine WL.v (v_assign rfl rfl) rfl <| WL.nt <| WC.cond_f rfl <| WC.seq <| WC.region <| ?_
        refine WL.test (v_eql rfl rfl rfl) (.none rfl) rfl rfl (fun h15 => ?_) (fun h15 => ?_)
        ·
         refine WL.v (v_assign rfl rfl) rfl <| WL.nt <| WC.cond_t rfl <| WC.skip <| WE.then_n <| WC.cond_t rfl <| WC.region <| WL.v (v_assign rfl rfl) rfl <| WL.nil <| WE.block_n <| ?_
         exact WE.mid (0, 64) ⟨by unfold leastK; rw [if_neg (by omega), if_neg (by omega)], by unfold mostK; rw [if_neg (by omega), if_neg (by omega), if_pos (by omega)]⟩ (.cons rfl (.cons rfl (.cons rfl .nil))) (.refl _)
        ·
         refine WL.v (v_assign rfl rfl) rfl <| WL.nt <| WC.cond_f rfl <| WC.region <| ?_
         refine WL.test (v_eql rfl rfl rfl) (.none rfl) rfl rfl (fun h16 => ?_) (fun h16 => ?_)
         ·
          refine WL.v (v_assign rfl rfl) rfl <| WL.nt <| WC.cond_t rfl <| WC.region <| WL.v (v_assign rfl rfl) rfl <| WL.nil <| WE.block_n <| ?_
          exact WE.mid (0, 64) ⟨by unfold leastK; rw [if_neg (by omega), if_neg (by omega)], by unfold mostK; rw [if_neg (by omega), if_neg (by omega), if_pos (by omega)]⟩ (.cons rfl (.cons rfl (.cons rfl .nil))) (.refl _)
         ·
          refine WL.v (v_assign rfl rfl) rfl <| WL.nt <| WC.cond_f rfl <| WC.skip <| WE.block_n <| ?_
          exact WE.mid (0, 0) ⟨by unfold leastK; rw [if_neg (by omega), if_neg (by omega)], by unfold mostK; rw [if_neg (by omega), if_neg (by omega), if_neg (by omega)]⟩ (.cons rfl (.cons rfl (.cons rfl .nil))) (.refl _)
  ·
   rintro ⟨le, mo⟩ ⟨h1, h2⟩
   dsimp only at h1 h2
   dsimp only
   refine WC.seq <| WC.seq <| WC.region <| WL.v (v_fieldAddr0 rfl rfl fld_26_4) rfl <| WL.v (v_load1 rfl rfl one_24 (cellAt rfl)) rfl <| WL.v (v_len_slice rfl rfl Tryz.underlying24) rfl <| WL.v (v_move rfl rfl) rfl <| ?_
   refine WL.test (v_lss rfl rfl rfl) (.none rfl) rfl rfl (fun h21 => ?_) (fun h21 => ?_)
   ·
    refine WL.v (v_move rfl rfl) rfl ?_
    iterate 5 refine WL.sk rfl ?_
    refine WL.v (v_pick_t rfl rfl rfl) rfl <| WL.nt <| WC.cond_t rfl <| WC.seq <| WC.region <| WL.v (v_assign rfl rfl) rfl <| WL.nt <| WC.ret <| WE.then_ret <| WE.ret1 (P := Tryz.prog) (.inl rfl) Tryz.results89 rfl <| ?_
    exact fun w' h => ⟨by unfold formE; first | rw [if_pos (by omega)] | rw [if_neg (by omega)], h.frm⟩
   ·
    refine WL.v (v_move rfl rfl) rfl <| WL.val (v_fieldAddr0 rfl rfl fld_26_4) (.some rfl rfl rfl) rfl rfl <| WL.val (v_load1 rfl rfl one_24 (cellAt rfl)) (.some rfl rfl rfl) rfl rfl <| WL.val (v_len_slice rfl rfl Tryz.underlying24) (.some rfl rfl rfl) rfl rfl <| WL.val (v_move rfl rfl) (.some rfl rfl rfl) rfl rfl <| ?_
    refine WL.test (v_gtr rfl rfl rfl) (.some rfl rfl rfl) rfl rfl (fun h27 => ?_) (fun h27 => ?_)
    ·
     refine WL.v (v_pick_f rfl rfl rfl) rfl <| WL.nt <| WC.cond_t rfl <| WC.seq <| WC.region <| WL.v (v_assign rfl rfl) rfl <| WL.nt <| WC.ret <| WE.then_ret <| WE.ret1 (P := Tryz.prog) (.inl rfl) Tryz.results89 rfl <| ?_
     exact fun w' h => ⟨by unfold formE; first | rw [if_pos (by omega)] | rw [if_neg (by omega)], h.frm⟩
    ·
     refine WL.v (v_pick_f rfl rfl rfl) rfl <| WL.nt <| WC.cond_f rfl <| WC.skip <| WE.then_n <| WC.seq <| WC.region <| WL.v (v_assign rfl rfl) rfl <| WL.nt <| WC.ret <| WE.ret1 (P := Tryz.prog) (.inl rfl) Tryz.results89 rfl <| ?_
     exact fun w' h => ⟨by unfold formE; first | rw [if_pos (by omega)] | rw [if_neg (by omega)], h.frm⟩
theorem isFld.nat {f : Int} (h : isFld f) : ∃ k : Nat, f = k ∧ k < 9 ∧ f.toNat = k := ⟨f.toNat, by have := h.1; omega, by have := h.2; omega, rfl⟩
theorem Argu_c (w : World) (t : Nd) (ht : t.In) (hG : GW w) :
    Calls Tryz.prog 88 #[ndV t] w fun e w' => e = .returned (.int .i64 (argE t)) ∧ Frm (fun _ => False) w w' := by
  obtain ⟨_, _, hv, hm, _⟩ := ht.nums
  have hfu := fullI_u64 t.f.toNat
  have full : ∀ w, GW w → isFld t.f → Calls Tryz.prog 98 #[.int .i64 t.f] w fun e w' => e = .returned (.int .u64 (fullI t.f.toNat)) ∧ Frm (fun _ => False) w w' := fun w hG h => by
    obtain ⟨k, e, hk, e2⟩ := h.nat
    rw [e2, e]
    exact Full_n w k hk hG
  refine enter Tryz.func88 rfl Tryz.ntmps88 rfl (St.start (fun _ => False) w) ?_
  refine WC.seq <| WC.region <| WL.box rfl rfl rfl (.none rfl) rfl rfl <| ?_
  intro g1 hg1
  refine WL.v (v_assign rfl rfl) rfl <| WL.nt <| WC.seq <| WC.seq <| WC.region <| WL.v (v_fieldAddr0 rfl rfl fld_26_0) rfl <| WL.v (v_load1 rfl rfl one_3 (cellAt rfl)) rfl <| WL.nt <| WC.block <| WC.seq <| WC.region <| ?_
  refine WL.test (v_eql rfl rfl rfl) (.none rfl) rfl rfl (fun h6 => ?_) (fun h6 => ?_)
  ·
   refine WL.v (v_assign rfl rfl) rfl <| WL.nt <| WC.cond_t rfl <| WC.seq <| ?_
   refine WC.quiet mixed (by kernel_rfl) ?_
   refine WQ.val (v_fieldAddr0 rfl rfl fld_26_1) (.none rfl) rfl rfl <| WQ.val (v_load1 rfl rfl one_22 (cellAt rfl)) (.none rfl) rfl rfl <| WQ.call _ rfl rfl ck_128 (.none rfl) rfl rfl (fun w hS => Calls.still (PField_c w t.f) hS) <| ?_
   generalize hb9 : decide (isFld t.f) = bb
   cases bb
   ·
    refine WQ.val (v_not rfl rfl rfl) (.none rfl) rfl rfl <| WQ.val (v_move rfl rfl) (.none rfl) rfl rfl <| ?_
    iterate 7 refine WQ.skip rfl rfl rfl rfl rfl rfl ?_
    refine WQ.val (v_pick_t rfl rfl rfl) (.none rfl) rfl rfl <| WQ.val (v_move rfl rfl) (.none rfl) rfl rfl <| ?_
    iterate 6 refine WQ.skip rfl rfl rfl rfl rfl rfl ?_
    refine WQ.val (v_pick_t rfl rfl rfl) (.none rfl) rfl rfl <| WQ.nil <| WE.then_n <| WC.cond_t rfl <| WC.seq <| WC.region <| WL.v (v_assign rfl rfl) rfl <| WL.nt <| WC.ret <| WE.block_ret <| WE.then_ret <| WE.ret1 (P := Tryz.prog) (.inl rfl) Tryz.results88 rfl <| ?_
    exact fun w' h => ⟨by unfold argE; rw [if_pos h6, if_pos (.inl (of_decide_eq_false hb9))], h.frm⟩
   ·
    refine WQ.val (v_not rfl rfl rfl) (.none rfl) rfl rfl <| WQ.val (v_move rfl rfl) (.none rfl) rfl rfl <| WQ.val (v_fieldAddr0 rfl rfl fld_26_3) (.some rfl rfl rfl) rfl rfl <| WQ.val (v_load1 rfl rfl one_23 (cellAt rfl)) (.some rfl rfl rfl) rfl rfl <| WQ.val (v_fieldAddr0 rfl rfl fld_26_1) (.some rfl rfl rfl) rfl rfl <| WQ.val (v_load1 rfl rfl one_22 (cellAt rfl)) (.some rfl rfl rfl) rfl rfl <| WQ.call _ rfl rfl ck_98 (.some rfl rfl rfl) rfl rfl (fun w hS => Calls.still (full w (hG.keep (fun h => h) hS) (of_decide_eq_true hb9)) hS) <| WQ.val (v_andNot rfl rfl rfl (bits_andNot_u64 hm.1 hm.2 hfu.1 hfu.2)) (.some rfl rfl rfl) rfl rfl <| ?_
    refine WQ.test (v_neq rfl rfl rfl) (.some rfl rfl rfl) rfl rfl (fun h18 => ?_) (fun h18 => ?_)
    ·
     refine WQ.val (v_pick_f rfl rfl rfl) (.none rfl) rfl rfl <| WQ.val (v_move rfl rfl) (.none rfl) rfl rfl <| ?_
     iterate 6 refine WQ.skip rfl rfl rfl rfl rfl rfl ?_
     refine WQ.val (v_pick_t rfl rfl rfl) (.none rfl) rfl rfl <| WQ.nil <| WE.then_n <| WC.cond_t rfl <| WC.seq <| WC.region <| WL.v (v_assign rfl rfl) rfl <| WL.nt <| WC.ret <| WE.block_ret <| WE.then_ret <| WE.ret1 (P := Tryz.prog) (.inl rfl) Tryz.results88 rfl <| ?_
     exact fun w' h => ⟨by unfold argE; rw [if_pos h6, if_pos (.inr (.inl h18))], h.frm⟩
    ·
     refine WQ.val (v_pick_f rfl rfl rfl) (.none rfl) rfl rfl <| WQ.val (v_move rfl rfl) (.none rfl) rfl rfl <| WQ.val (v_fieldAddr0 rfl rfl fld_26_2) (.some rfl rfl rfl) rfl rfl <| WQ.val (v_load1 rfl rfl one_23 (cellAt rfl)) (.some rfl rfl rfl) rfl rfl <| WQ.val (v_fieldAddr0 rfl rfl fld_26_3) (.some rfl rfl rfl) rfl rfl <| WQ.val (v_load1 rfl rfl one_23 (cellAt rfl)) (.some rfl rfl rfl) rfl rfl <| WQ.val (v_andNot rfl rfl rfl (bits_andNot_u64 hv.1 hv.2 hm.1 hm.2)) (.some rfl rfl rfl) rfl rfl <| ?_
     refine WQ.test (v_neq rfl rfl rfl) (.some rfl rfl rfl) rfl rfl (fun h26 => ?_) (fun h26 => ?_)
     ·
      refine WQ.val (v_pick_f rfl rfl rfl) (.none rfl) rfl rfl <| WQ.nil <| WE.then_n <| WC.cond_t rfl <| WC.seq <| WC.region <| WL.v (v_assign rfl rfl) rfl <| WL.nt <| WC.ret <| WE.block_ret <| WE.then_ret <| WE.ret1 (P := Tryz.prog) (.inl rfl) Tryz.results88 rfl <| ?_
      exact fun w' h => ⟨by unfold argE; rw [if_pos h6, if_pos (.inr (.inr h26))], h.frm⟩
     ·
      refine WQ.val (v_pick_f rfl rfl rfl) (.none rfl) rfl rfl <| WQ.nil <| WE.then_n <| WC.cond_f rfl <| WC.skip <| WE.block_n <| WE.then_n <| WC.seq <| WC.region <| WL.v (v_assign rfl rfl) rfl <| WL.nt <| WC.ret <| WE.ret1 (P := Tryz.prog) (.inl rfl) Tryz.results88 rfl <| ?_
      have hb9 := of_decide_eq_true hb9
      exact fun w' h => ⟨by unfold argE; rw [if_pos h6, if_neg (fun q => by rcases q with q | q | q <;> contradiction)], h.frm⟩
  ·
   refine WL.v (v_assign rfl rfl) rfl <| WL.nt <| WC.cond_f rfl <| WC.seq <| WC.region <| ?_
   refine WL.test (v_eql rfl rfl rfl) (.none rfl) rfl rfl (fun h29 => ?_) (fun h29 => ?_)
   ·
    refine WL.v (v_assign rfl rfl) rfl <| WL.nt <| WC.cond_t rfl <| WC.seq <| ?_
    refine WC.quiet mixed (by kernel_rfl) ?_
    refine WQ.val (v_fieldAddr0 rfl rfl fld_26_1) (.none rfl) rfl rfl <| WQ.val (v_load1 rfl rfl one_22 (cellAt rfl)) (.none rfl) rfl rfl <| WQ.call _ rfl rfl ck_128 (.none rfl) rfl rfl (fun w hS => Calls.still (PField_c w t.f) hS) <| ?_
    generalize hb32 : decide (isFld t.f) = bb
    cases bb
    ·
     refine WQ.val (v_not rfl rfl rfl) (.none rfl) rfl rfl <| WQ.val (v_move rfl rfl) (.none rfl) rfl rfl <| ?_
     iterate 3 refine WQ.skip rfl rfl rfl rfl rfl rfl ?_
     refine WQ.val (v_pick_t rfl rfl rfl) (.none rfl) rfl rfl <| WQ.val (v_move rfl rfl) (.none rfl) rfl rfl <| ?_
     iterate 3 refine WQ.skip rfl rfl rfl rfl rfl rfl ?_
     refine WQ.val (v_pick_t rfl rfl rfl) (.none rfl) rfl rfl <| WQ.val (v_move rfl rfl) (.none rfl) rfl rfl <| ?_
     iterate 6 refine WQ.skip rfl rfl rfl rfl rfl rfl ?_
     refine WQ.val (v_pick_t rfl rfl rfl) (.none rfl) rfl rfl <| WQ.nil <| WE.then_n <| WC.cond_t rfl <| WC.seq <| WC.region <| WL.v (v_assign rfl rfl) rfl <| WL.nt <| WC.ret <| WE.block_ret <| WE.then_ret <| WE.ret1 (P := Tryz.prog) (.inl rfl) Tryz.results88 rfl <| ?_
     exact fun w' h => ⟨by unfold argE; rw [if_neg h6, if_pos h29, if_pos (.inl (of_decide_eq_false hb32))], h.frm⟩
    ·
     refine WQ.val (v_not rfl rfl rfl) (.none rfl) rfl rfl <| WQ.val (v_move rfl rfl) (.none rfl) rfl rfl <| WQ.val (v_fieldAddr0 rfl rfl fld_26_1) (.some rfl rfl rfl) rfl rfl <| WQ.val (v_load1 rfl rfl one_22 (cellAt rfl)) (.some rfl rfl rfl) rfl rfl <| ?_
     refine WQ.test (v_eql rfl rfl rfl) (.some rfl rfl rfl) rfl rfl (fun h37 => ?_) (fun h37 => ?_)
     ·
      refine WQ.val (v_pick_f rfl rfl rfl) (.none rfl) rfl rfl <| WQ.val (v_move rfl rfl) (.none rfl) rfl rfl <| ?_
      iterate 3 refine WQ.skip rfl rfl rfl rfl rfl rfl ?_
      refine WQ.val (v_pick_t rfl rfl rfl) (.none rfl) rfl rfl <| WQ.val (v_move rfl rfl) (.none rfl) rfl rfl <| ?_
      iterate 6 refine WQ.skip rfl rfl rfl rfl rfl rfl ?_
      refine WQ.val (v_pick_t rfl rfl rfl) (.none rfl) rfl rfl <| WQ.nil <| WE.then_n <| WC.cond_t rfl <| WC.seq <| WC.region <| WL.v (v_assign rfl rfl) rfl <| WL.nt <| WC.ret <| WE.block_ret <| WE.then_ret <| WE.ret1 (P := Tryz.prog) (.inl rfl) Tryz.results88 rfl <| ?_
      exact fun w' h => ⟨by unfold argE; rw [if_neg h6, if_pos h29, if_pos (.inr (.inl h37))], h.frm⟩
     ·
      refine WQ.val (v_pick_f rfl rfl rfl) (.none rfl) rfl rfl <| WQ.val (v_move rfl rfl) (.none rfl) rfl rfl <| WQ.val (v_fieldAddr0 rfl rfl fld_26_1) (.some rfl rfl rfl) rfl rfl <| WQ.val (v_load1 rfl rfl one_22 (cellAt rfl)) (.some rfl rfl rfl) rfl rfl <| ?_
      refine WQ.test (v_eql rfl rfl rfl) (.some rfl rfl rfl) rfl rfl (fun h42 => ?_) (fun h42 => ?_)
      ·
       refine WQ.val (v_pick_f rfl rfl rfl) (.none rfl) rfl rfl <| WQ.val (v_move rfl rfl) (.none rfl) rfl rfl <| ?_
       iterate 6 refine WQ.skip rfl rfl rfl rfl rfl rfl ?_
       refine WQ.val (v_pick_t rfl rfl rfl) (.none rfl) rfl rfl <| WQ.nil <| WE.then_n <| WC.cond_t rfl <| WC.seq <| WC.region <| WL.v (v_assign rfl rfl) rfl <| WL.nt <| WC.ret <| WE.block_ret <| WE.then_ret <| WE.ret1 (P := Tryz.prog) (.inl rfl) Tryz.results88 rfl <| ?_
       exact fun w' h => ⟨by unfold argE; rw [if_neg h6, if_pos h29, if_pos (.inr (.inr (.inl h42)))], h.frm⟩
      ·
       refine WQ.val (v_pick_f rfl rfl rfl) (.none rfl) rfl rfl <| WQ.val (v_move rfl rfl) (.none rfl) rfl rfl <| WQ.val (v_fieldAddr0 rfl rfl fld_26_2) (.some rfl rfl rfl) rfl rfl <| WQ.val (v_load1 rfl rfl one_23 (cellAt rfl)) (.some rfl rfl rfl) rfl rfl <| WQ.val (v_fieldAddr0 rfl rfl fld_26_1) (.some rfl rfl rfl) rfl rfl <| WQ.val (v_load1 rfl rfl one_22 (cellAt rfl)) (.some rfl rfl rfl) rfl rfl <| WQ.call _ rfl rfl ck_98 (.some rfl rfl rfl) rfl rfl (fun w hS => Calls.still (full w (hG.keep (fun h => h) hS) (of_decide_eq_true hb32)) hS) <| ?_
       refine WQ.test (v_gtr rfl rfl rfl) (.some rfl rfl rfl) rfl rfl (fun h50 => ?_) (fun h50 => ?_)
       ·
        refine WQ.val (v_pick_f rfl rfl rfl) (.none rfl) rfl rfl <| WQ.nil <| WE.then_n <| WC.cond_t rfl <| WC.seq <| WC.region <| WL.v (v_assign rfl rfl) rfl <| WL.nt <| WC.ret <| WE.block_ret <| WE.then_ret <| WE.ret1 (P := Tryz.prog) (.inl rfl) Tryz.results88 rfl <| ?_
        exact fun w' h => ⟨by unfold argE; rw [if_neg h6, if_pos h29, if_pos (.inr (.inr (.inr h50)))], h.frm⟩
       ·
        refine WQ.val (v_pick_f rfl rfl rfl) (.none rfl) rfl rfl <| WQ.nil <| WE.then_n <| WC.cond_f rfl <| WC.skip <| WE.block_n <| WE.then_n <| WC.seq <| WC.region <| WL.v (v_assign rfl rfl) rfl <| WL.nt <| WC.ret <| WE.ret1 (P := Tryz.prog) (.inl rfl) Tryz.results88 rfl <| ?_
        have hb32 := of_decide_eq_true hb32
        exact fun w' h => ⟨by unfold argE; rw [if_neg h6, if_pos h29, if_neg (fun q => by rcases q with q | q | q | q <;> contradiction)], h.frm⟩
   ·
    refine WL.v (v_assign rfl rfl) rfl <| WL.nt <| WC.cond_f rfl <| WC.skip <| WE.block_n <| WE.then_n <| WC.seq <| WC.region <| WL.v (v_assign rfl rfl) rfl <| WL.nt <| WC.ret <| WE.ret1 (P := Tryz.prog) (.inl rfl) Tryz.results88 rfl <| ?_
    exact fun w' h => ⟨by unfold argE; rw [if_neg h6, if_neg h29], h.frm⟩
end Go.Proofs.YtkeonnnhogaggaaGreatDoor
/- policy: the walk of a tree, as the code does it. -/
namespace Go.Proofs.YtkeonnnhogaggaaGreatDoor
open Go.RowKit

mutual
/-- The errno, and how many were counted. -/
def walkT : Nd → Int → Bool → Int → Int × Int
  | .mk k f v m a c kids, deep, pred, n =>
    if 16 < deep ∨ 64 < n + 1 then (34, n + 1)
    else if fitsP k pred = false then (12, n + 1)
    else if argE (.mk k f v m a c kids) ≠ 0 then (argE (.mk k f v m a c kids), n + 1)
    else if formE (.mk k f v m a c kids) ≠ 0 then (formE (.mk k f v m a c kids), n + 1)
    else walkKs k 0 kids (deep + 1) (n + 1)
def walkKs (k : Int) : Nat → List Nd → Int → Int → Int × Int
  | _, [], _, n => (0, n)
  | i, t :: ts, deep, n => if (walkT t deep (predK k i) n).1 ≠ 0 then walkT t deep (predK k i) n else walkKs k (i + 1) ts deep (walkT t deep (predK k i) n).2
end
theorem walkT_eq (t : Nd) (deep : Int) (pred : Bool) (n : Int) : walkT t deep pred n =
    if 16 < deep ∨ 64 < n + 1 then (34, n + 1) else if fitsP t.kind pred = false then (12, n + 1) else if argE t ≠ 0 then (argE t, n + 1) else if formE t ≠ 0 then (formE t, n + 1) else walkKs t.kind 0 t.kids (deep + 1) (n + 1) := by
  cases t; rw [walkT]; rfl
mutual
theorem walkT_le : ∀ (t : Nd) (deep : Int) (pred : Bool) (n : Int), 0 ≤ n → (walkT t deep pred n).1 = 0 → n ≤ (walkT t deep pred n).2 ∧ (walkT t deep pred n).2 ≤ 64
  | .mk k f v m a c kids, deep, pred, n, h0, he => by
    rw [walkT] at he ⊢
    split at he
    · cases he
    · split at he
      · cases he
      · split at he
        · rename_i h; exact absurd he h
        · split at he
          · rename_i h; exact absurd he h
          · rename_i h1 h2 h3 h4
            rw [if_neg h1, if_neg h2, if_neg h3, if_neg h4]
            have := walkKs_le k 0 kids (deep + 1) (n + 1) (by omega) (by omega) he
            omega
theorem walkKs_le (k : Int) : ∀ (i : Nat) (ts : List Nd) (deep n : Int), 0 ≤ n → n ≤ 64 → (walkKs k i ts deep n).1 = 0 → n ≤ (walkKs k i ts deep n).2 ∧ (walkKs k i ts deep n).2 ≤ 64
  | _, [], _, n, _, h1, _ => by rw [walkKs]; exact ⟨Int.le_refl _, h1⟩
  | i, t :: ts, deep, n, h0, h1, he => by
    rw [walkKs] at he ⊢
    split at he
    · rename_i h; exact absurd he h
    · rename_i h
      rw [if_neg h]
      have a := walkT_le t deep (predK k i) n h0 (Classical.not_not.1 h)
      have b := walkKs_le k (i + 1) ts deep _ (by omega) a.2 he
      omega
end
theorem Nd.kid_size {t u : Nd} {j : Nat} (h : t.kids[j]? = some u) : SizeOf.sizeOf u < SizeOf.sizeOf t := by
  cases t with
  | mk k f v m a c kids =>
    have h1 := List.sizeOf_lt_of_mem (List.mem_of_getElem? h)
    show SizeOf.sizeOf u < SizeOf.sizeOf (Nd.mk k f v m a c kids)
    simp only [Nd.mk.sizeOf_spec]
    have : SizeOf.sizeOf (Nd.mk k f v m a c kids).kids = SizeOf.sizeOf kids := rfl
    omega
theorem Nd.At.kidAt {w : World} {t u : Nd} {j b o : Nat} (h : t.At w) (hu : t.kids[j]? = some u) (e : t.ad = some ⟨b, o, none⟩) : w.rangeAt b (o + j * 5) (ndL u) := by
  obtain ⟨⟨b', o', e', hr⟩, _⟩ := h.kid hu
  rw [e] at e'
  injection e' with e'
  injection e' with e1 e2
  subst e1 e2
  exact hr
theorem St.swap22 {p : Nat → Prop} {w0 w : World} {a b c d : Ent} {L : List Ent} (h : St p w0 w (a :: b :: c :: d :: L)) : St p w0 w (c :: d :: a :: b :: L) :=
  h.perm ((List.perm_append_comm (l₁ := [c, d]) (l₂ := [a, b])).append_right L)
def ckF (gc gw : Nat) : Value := .func (.func 86) #[] #[.pointer (some ⟨gc, 0, none⟩), .pointer (some ⟨gw, 0, none⟩)]
set_option maxHeartbeats 1000000 in
theorem Chk1_c (p : Nat → Prop) (hp : ∀ b, ¬ p b) (w0 : World) (hG : GW w0) (gc gw : Nat) : ∀ (N : Nat) (t : Nd), SizeOf.sizeOf t ≤ N → ∀ (L : List Ent) (w : World) (deep : Int) (pred : Bool) (n : Int), t.In → (∀ w, St p w0 w L → t.At w) → 0 ≤ n → n ≤ 64 → 1 ≤ deep → deep ≤ 17 →
    St p w0 w (.row gc [.int .i64 n] :: .row gw [ckF gc gw] :: L) →
    Calls Tryz.prog 86 #[ndV t, .int .i64 deep, .bool pred, .pointer (some ⟨gc, 0, none⟩), .pointer (some ⟨gw, 0, none⟩)] w
      fun e w' => e = .returned (.int .i64 (walkT t deep pred n).1) ∧ St p w0 w' (.row gc [.int .i64 (walkT t deep pred n).2] :: .row gw [ckF gc gw] :: L) := by
  intro N
  induction N with
  | zero => intro t hN; cases t; simp only [Nd.mk.sizeOf_spec] at hN; omega
  | succ N ih =>
    intro t hN L w deep pred n hI hAt hn0 hn1 hd0 hd1 hS
    have hlen := hI.nums.2.2.2.2
    refine enter Tryz.func86 rfl Tryz.ntmps86 rfl hS ?_
    refine WC.seq <| WC.region <| WL.box rfl rfl rfl (.none rfl) rfl rfl <| ?_
    intro g5 hg5
    refine WL.v (v_assign rfl rfl) rfl <| WL.nt <| WC.seq <| WC.region <| WL.v (v_load1 rfl rfl one_3 (cellAt rfl)) rfl <| ?_
    refine WL.v (v_add rfl rfl rfl (w_i64 (by omega) (by omega))) rfl ?_
    refine WL.store1 rfl rfl rfl rfl one_3 (Nat.le_of_ble_eq_true rfl) (.none rfl) rfl <| WL.nt <| WC.seq <| WC.seq <| WC.region <| WL.v (v_move rfl rfl) rfl <| ?_
    refine WL.test (v_gtr rfl rfl rfl) (.none rfl) rfl rfl (fun h17 => ?_) (fun h17 => ?_)
    ·
     refine WL.v (v_move rfl rfl) rfl ?_
     iterate 2 refine WL.sk rfl ?_
     refine WL.v (v_pick_t rfl rfl rfl) rfl <| WL.nt <| WC.cond_t rfl <| WC.seq <| WC.region <| WL.v (v_assign rfl rfl) rfl <| WL.nt <| WC.ret <| WE.then_ret <| WE.ret1 (P := Tryz.prog) (.inl rfl) Tryz.results86 rfl <| ?_
     exact fun w' h => ⟨by rw [walkT_eq, if_pos (.inl h17)], by rw [walkT_eq, if_pos (.inl h17)]; exact h.tail⟩
    ·
     refine WL.v (v_move rfl rfl) rfl <| WL.val (v_load1 rfl rfl one_3 (cellAt rfl)) (.some rfl rfl rfl) rfl rfl <| ?_
     refine WL.test (v_gtr rfl rfl rfl) (.some rfl rfl rfl) rfl rfl (fun h20 => ?_) (fun h20 => ?_)
     ·
      refine WL.v (v_pick_f rfl rfl rfl) rfl <| WL.nt <| WC.cond_t rfl <| WC.seq <| WC.region <| WL.v (v_assign rfl rfl) rfl <| WL.nt <| WC.ret <| WE.then_ret <| WE.ret1 (P := Tryz.prog) (.inl rfl) Tryz.results86 rfl <| ?_
      exact fun w' h => ⟨by rw [walkT_eq, if_pos (.inr h20)], by rw [walkT_eq, if_pos (.inr h20)]; exact h.tail⟩
     ·
      refine WL.v (v_pick_f rfl rfl rfl) rfl <| WL.nt <| WC.cond_f rfl <| WC.skip <| WE.then_n <| WC.seq <| WC.seq <| WC.region <| WL.v (v_fieldAddr0 rfl rfl fld_26_0) rfl <| WL.v (v_load1 rfl rfl one_3 (cellAt rfl)) rfl <| WL.v (v_move rfl rfl) rfl <| WL.call rfl rfl ck_87 (.none rfl) rfl rfl <| ?_
      intro w hS
      refine Calls.then (Fits_c w t.kind pred) hS ?_
      generalize hb25 : fitsP t.kind pred = bb
      cases bb
      ·
       refine WL.v (v_not rfl rfl rfl) rfl <| WL.nt <| WC.cond_t rfl <| WC.seq <| WC.region <| WL.v (v_assign rfl rfl) rfl <| WL.nt <| WC.ret <| WE.then_ret <| WE.ret1 (P := Tryz.prog) (.inl rfl) Tryz.results86 rfl <| ?_
       have e := walkT_eq t deep pred n
       rw [if_neg (by omega), if_pos hb25] at e
       exact fun w' h => ⟨by rw [e], by rw [e]; exact h.tail⟩
      ·
       refine WL.v (v_not rfl rfl rfl) rfl <| WL.nt <| WC.cond_f rfl <| WC.skip <| WE.then_n <| WC.seq <| WC.seq <| WC.region <| WL.v (v_loadN rfl rfl many_26 rfl allAt) rfl <| WL.call rfl rfl ck_88 (.none rfl) rfl rfl <| ?_
       intro w hS
       refine Calls.then (Argu_c w t hI (hG.keep (hp _) hS)) hS ?_
       refine WL.v (v_assign rfl rfl) rfl <| WL.nt <| WC.seq <| WC.region <| WL.v (v_move rfl rfl) rfl <| ?_
       refine WL.test (v_neq rfl rfl rfl) (.none rfl) rfl rfl (fun h30 => ?_) (fun h30 => ?_)
       ·
        refine WL.nt <| WC.cond_t rfl <| WC.seq <| WC.region <| WL.v (v_move rfl rfl) rfl <| WL.v (v_assign rfl rfl) rfl <| WL.nt <| WC.ret <| WE.then_ret <| WE.ret1 (P := Tryz.prog) (.inl rfl) Tryz.results86 rfl <| ?_
        have e := walkT_eq t deep pred n
        rw [if_neg (by omega), if_neg (by rw [hb25]; decide), if_pos h30] at e
        exact fun w' h => ⟨by rw [e], by rw [e]; exact h.tail⟩
       ·
        refine WL.nt <| WC.cond_f rfl <| WC.skip <| WE.then_n <| WC.seq <| WC.seq <| WC.region <| WL.v (v_loadN rfl rfl many_26 rfl allAt) rfl <| WL.call rfl rfl ck_89 (.none rfl) rfl rfl <| ?_
        intro w hS
        refine Calls.then (Form_c w t hI) hS ?_
        refine WL.v (v_assign rfl rfl) rfl <| WL.nt <| WC.seq <| WC.region <| WL.v (v_move rfl rfl) rfl <| ?_
        refine WL.test (v_neq rfl rfl rfl) (.none rfl) rfl rfl (fun h35 => ?_) (fun h35 => ?_)
        ·
         refine WL.nt <| WC.cond_t rfl <| WC.seq <| WC.region <| WL.v (v_move rfl rfl) rfl <| WL.v (v_assign rfl rfl) rfl <| WL.nt <| WC.ret <| WE.then_ret <| WE.ret1 (P := Tryz.prog) (.inl rfl) Tryz.results86 rfl <| ?_
         have e := walkT_eq t deep pred n
         rw [if_neg (by omega), if_neg (by rw [hb25]; decide), if_neg h30, if_pos h35] at e
         exact fun w' h => ⟨by rw [e], by rw [e]; exact h.tail⟩
        ·
         refine WL.nt <| WC.cond_f rfl <| WC.skip <| WE.then_n <| WC.seq <| WC.seq <| WC.region <| WL.v (v_fieldAddr0 rfl rfl fld_26_4) rfl <| WL.v (v_load1 rfl rfl one_24 (cellAt rfl)) rfl <| WL.v (v_len_slice rfl rfl Tryz.underlying24) rfl <| WL.v (v_move rfl rfl) rfl <| WL.nt <| WC.block <| ?_
         refine WC.loop (fun x : Nat × Int => [(40, .int .i64 x.1), (39, .int .i64 t.kids.length), (38, .slice t.ad t.kids.length t.cap), (1, .int .i64 deep), (3, .pointer (some ⟨gc, 0, none⟩)), (4, .pointer (some ⟨gw, 0, none⟩)), (5, .pointer (some ⟨g5, 0, none⟩))]) (fun x => .row g5 (ndL t) :: .row gc [.int .i64 x.2] :: .row gw [ckF gc gw] :: L) (fun x => x.1 ≤ t.kids.length ∧ walkKs t.kind x.1 (t.kids.drop x.1) (deep + 1) x.2 = walkKs t.kind 0 t.kids (deep + 1) (n + 1) ∧ 0 ≤ x.2 ∧ x.2 ≤ 64) (fun x => t.kids.length - x.1) (0, n + 1) ⟨Nat.zero_le _, rfl, by dsimp only; omega, by dsimp only; omega⟩ (.cons rfl (.cons rfl (.cons rfl (.cons rfl (.cons rfl (.cons rfl (.cons rfl .nil))))))) (.refl _) ?_
         rintro ⟨k, c⟩ ⟨hk, hw, hc0, hc1⟩
         dsimp only at hk hw hc0 hc1
         dsimp only
         refine WC.seq <| WC.region <| ?_
         refine WL.test (v_lss rfl rfl rfl) (.none rfl) rfl rfl (fun h41 => ?_) (fun h41 => ?_)
         ·
          refine WL.nt <| WC.seq <| WC.cond_t rfl <| WC.skip <| WE.then_n <| WC.seq <| WC.block <| WC.seq <| WC.region <| WL.v (v_move rfl rfl) rfl <| ?_
          obtain ⟨u, hu⟩ : ∃ u, t.kids[k]? = some u := ⟨t.kids[k]'(by omega), List.getElem?_eq_getElem _⟩
          obtain ⟨b, o, ea, _⟩ := ((hAt _ hS.tail.tail.tail).kid hu).1
          have hdr : t.kids.drop k = u :: t.kids.drop (k + 1) := (by
            rw [List.drop_eq_getElem_cons (show k < t.kids.length by omega)]
            congr 1
            rw [List.getElem?_eq_getElem (show k < t.kids.length by omega)] at hu
            exact Option.some.inj hu)
          rw [hdr, walkKs] at hw
          refine WL.v (v_indexAddr (b := b) (off := o) (lo := k) rfl (by show some (Value.slice t.ad _ _) = _; rw [ea]) rfl Tryz.underlying24 sz_26 rfl (by omega)) rfl ?_
          refine WL.v (v_loadN (cs := ndL u) rfl rfl many_26 rfl (fun w' hS' => (hAt w' hS'.tail.tail.tail).kidAt hu ea)) rfl <| WL.alloc rfl zero_26 (.none rfl) rfl rfl <| ?_
          intro g12 hg12
          refine WL.v (v_assign rfl rfl) rfl <| WL.storeW rfl rfl rfl rfl many_26 rfl rfl (.none rfl) rfl <| WL.nt <| WC.seq <| WC.orders mixed <| ?_
          refine WR.first (g := 6) [2, 3, 5] (by kernel_rfl) (by kernel_rfl) ?_
          refine WP.val (v_move rfl rfl) (.none rfl) rfl rfl ?_
          refine WP.val (v_add rfl rfl rfl (w_i64 (by omega) (by omega))) (.none rfl) rfl rfl ?_
          refine WP.val (v_move rfl rfl) (.none rfl) rfl rfl <| WP.nil <| ?_
          refine WR.read (g := 2) [0, 1, 4, 6] (by kernel_rfl) (by kernel_rfl) (by kernel_rfl) (by kernel_rfl) rfl ?_
          refine WQ.val (v_load1 rfl rfl one_154 (cellAt rfl)) (.none rfl) rfl rfl <| WQ.val (v_loadN rfl rfl many_26 rfl allAt) (.none rfl) rfl rfl <| WQ.val (v_loadN rfl rfl many_26 rfl allAt) (.none rfl) rfl rfl <| WQ.call _ rfl rfl ck_90 (.none rfl) rfl rfl (fun w hS => Calls.still (PredKid_c w t k) hS) <| WQ.nilR <| ?_
          refine WR.ones (g := 1) [7] (by kernel_rfl) ?_
          refine WL.callV rfl rfl rfl ck_86 (.none rfl) rfl rfl ?_
          intro w1 hS1
          refine (ih u (by have := Nd.kid_size hu; omega) (.row g12 (ndL u) :: .row g5 (ndL t) :: L) w1 (deep + 1) (predK t.kind k) c (hI.kids.get _ _ _ hu) (fun w' hS' => ((hAt w' hS'.tail.tail).kid hu).2) hc0 hc1 (by omega) (by omega) hS1.swap22).mono ?_
          rintro e w' ⟨rfl, hS'⟩
          refine ⟨_, _, rfl, hS'.swap22, ?_⟩
          refine WL.nilR ?_
          refine WR.first (g := 0) [8] (by kernel_rfl) (by kernel_rfl) ?_
          refine WP.val (v_assign rfl rfl) (.none rfl) rfl rfl <| WP.nil <| ?_
          refine WR.done (by kernel_rfl) ?_
          refine WE.then_n <| WC.seq <| WC.region <| WL.v (v_move rfl rfl) rfl <| ?_
          refine WL.test (v_neq rfl rfl rfl) (.none rfl) rfl rfl (fun h54 => ?_) (fun h54 => ?_)
          ·
           refine WL.nt <| WC.cond_t rfl <| WC.seq <| WC.region <| WL.v (v_move rfl rfl) rfl <| WL.v (v_assign rfl rfl) rfl <| WL.nt <| WC.ret <| WE.block_ret <| WE.then_ret <| WE.then_ret <| WE.block_ret <| WE.then_ret <| WE.ret1 (P := Tryz.prog) (.inl rfl) Tryz.results86 rfl <| ?_
           have e := walkT_eq t deep pred n
           rw [if_pos h54] at hw
           rw [if_neg (by omega), if_neg (by rw [hb25]; decide), if_neg h30, if_neg h35, ← hw] at e
           exact fun w' h => ⟨by rw [e], by rw [e]; exact h.tail.tail⟩
          ·
           refine WL.nt <| WC.cond_f rfl <| WC.skip <| WE.block_n <| WE.then_n <| WC.region <| ?_
           refine WL.v (v_add rfl rfl rfl (w_i64 (by omega) (by omega))) rfl ?_
           refine WL.v (v_move rfl rfl) rfl <| WL.nil <| ?_
           have h54' := Classical.not_not.1 h54
           rw [if_neg (fun q => q h54')] at hw
           have hle := walkT_le u (deep + 1) (predK t.kind k) c hc0 h54'
           exact WE.next (k + 1, (walkT u (deep + 1) (predK t.kind k) c).2) (by dsimp only; omega) ⟨by dsimp only; omega, hw, by dsimp only; omega, by dsimp only; omega⟩ (.int rfl (by dsimp only; omega) (.cons rfl (.cons rfl (.cons rfl (.cons rfl (.cons rfl (.cons rfl .nil))))))) (.cons _ (.refl _))
         ·
          refine WL.nt <| WC.seq <| WC.cond_f rfl <| WC.exit <| WE.then_exit <| WE.then_exit <| WE.block_hit <| WE.then_n <| WC.seq <| WC.region <| WL.v (v_assign rfl rfl) rfl <| WL.nt <| WC.ret <| WE.ret1 (P := Tryz.prog) (.inl rfl) Tryz.results86 rfl <| ?_
          obtain rfl : k = t.kids.length := (by omega)
          have e := walkT_eq t deep pred n
          rw [List.drop_length, walkKs] at hw
          rw [if_neg (by omega), if_neg (by rw [hb25]; decide), if_neg h30, if_neg h35, ← hw] at e
          exact fun w' h => ⟨by rw [e], by rw [e]; exact h.tail⟩
end Go.Proofs.YtkeonnnhogaggaaGreatDoor
/- policy: Check, CheckPred; holds. -/
namespace Go.Proofs.YtkeonnnhogaggaaGreatDoor
open Go.RowKit

theorem St.range {p : Nat → Prop} {w0 w : World} {L : List Ent} (hp : ∀ b, ¬ p b) (hS : St p w0 w L) (b o : Nat) (cs : List Value) (h : w0.rangeAt b o cs) : w.rangeAt b o cs := fun j v hj => hS.old (hp b) (h j v hj)
theorem Nd.At.st {p : Nat → Prop} {w0 w : World} {L : List Ent} {t : Nd} (hp : ∀ b, ¬ p b) (h : t.At w0) (hS : St p w0 w L) : t.At w := Nd.At.keep (hS.range hp) t h
theorem check_c (w : World) (t : Nd) (pred : Bool) (hI : t.In) (hA : t.At w) (hG : GW w) :
    Calls Tryz.prog 42 #[ndV t, .bool pred] w fun e w' => e = .returned (.int .i64 (walkT t 1 pred 0).1) ∧ Frm (fun _ => False) w w' := by
  refine enter Tryz.func42 rfl Tryz.ntmps42 rfl (St.start (fun _ => False) w) ?_
  refine WC.seq <| WC.region <| WL.box rfl rfl rfl (.none rfl) rfl rfl <| ?_
  intro g2 hg2
  refine WL.v (v_assign rfl rfl) rfl <| WL.nt <| WC.seq <| WC.region <| WL.alloc rfl zero_3 (.none rfl) rfl rfl <| ?_
  intro g5 hg5
  refine WL.store1 rfl rfl rfl rfl one_3 (Nat.le_of_ble_eq_true rfl) (.none rfl) rfl <| WL.nt <| WC.seq <| WC.region <| WL.alloc rfl zero_154 (.none rfl) rfl rfl <| ?_
  intro g6 hg6
  refine WL.nt <| WC.seq <| WC.region <| WL.v (v_makeFunc rfl rfl rfl) rfl <| WL.store1 rfl rfl rfl rfl one_154 (Nat.le_of_ble_eq_true rfl) (.none rfl) rfl <| WL.nt <| WC.seq <| WC.region <| WL.v (v_load1 rfl rfl one_154 (cellAt rfl)) rfl <| WL.v (v_loadN rfl rfl many_26 rfl allAt) rfl <| WL.v (v_move rfl rfl) rfl <| WL.callV rfl rfl rfl ck_86 (.none rfl) rfl rfl <| ?_
  intro w1 hS1
  refine (Chk1_c (fun _ => False) (fun _ h => h) w hG g5 g6 _ t (Nat.le_refl _) [.row g2 (ndL t)] w1 1 pred 0 hI (fun w' hS' => hA.st (fun _ h => h) hS') (by omega) (by omega) (by omega) (by omega) (hS1.perm (List.Perm.swap _ _ _))).mono ?_
  rintro e w' ⟨rfl, hS'⟩
  refine ⟨_, _, rfl, hS', ?_⟩
  refine WL.v (v_assign rfl rfl) rfl <| WL.nt <| WC.ret <| WE.ret1 (P := Tryz.prog) (.inl rfl) Tryz.results42 rfl <| ?_
  exact fun w' h => ⟨rfl, h.frm⟩
theorem Check_c (w : World) (t : Nd) (hI : t.In) (hA : t.At w) (hG : GW w) :
    Calls Tryz.prog 14 #[ndV t] w fun e w' => e = .returned (.int .i64 (walkT t 1 false 0).1) ∧ Frm (fun _ => False) w w' := by
  refine enter Tryz.func14 rfl Tryz.ntmps14 rfl (St.start (fun _ => False) w) ?_
  refine WC.seq <| WC.region <| WL.box rfl rfl rfl (.none rfl) rfl rfl <| ?_
  intro g1 hg1
  refine WL.v (v_assign rfl rfl) rfl <| WL.nt <| WC.seq <| WC.region <| WL.v (v_loadN rfl rfl many_26 rfl allAt) rfl <| WL.call rfl rfl ck_42 (.none rfl) rfl rfl <| ?_
  intro w hS
  refine Calls.then (check_c w t false hI (hA.st (fun _ h => h) hS) (hG.keep (fun h => h) hS)) hS ?_
  refine WL.v (v_assign rfl rfl) rfl <| WL.nt <| WC.ret <| WE.ret1 (P := Tryz.prog) (.inl rfl) Tryz.results14 rfl <| ?_
  exact fun w' h => ⟨rfl, h.frm⟩
end Go.Proofs.YtkeonnnhogaggaaGreatDoor
/- rules.List: Find; Run where one act at most is to be done; the document's example of layer 17. -/
namespace Go.Proofs.YtkeonnnhogaggaaGreatDoor
open Go.RowKit

theorem rangeIn {p : Nat → Prop} {w0 : World} {L : List Ent} {b off : Nat} {cs : List Value} (hp : ¬ p b) (h : w0.rangeAt b off cs) : ∀ w, St p w0 w L → w.rangeAt b off cs := fun _ hS j v hj => hS.old hp (h j v hj)
structure Ru where
  m : Mt
  ad : Option Addr
  n : Nat
  c : Nat
def ruL (r : Ru) : List Value := mtL r.m ++ [.slice r.ad r.n r.c]
theorem ruL_acts (r : Ru) : (ruL r)[18]? = some (.slice r.ad r.n r.c) := by
  unfold ruL
  rw [List.getElem?_append_right (by rw [mtL_len]; omega), mtL_len]; rfl
theorem ruL_match (r : Ru) : seg (ruL r) 0 18 = mtL r.m := by
  unfold seg ruL
  rw [List.drop_zero, List.take_left' (mtL_len _)]
theorem ruL_len (r : Ru) : (ruL r).length = 19 := by simp [ruL, mtL_len]
/-- The first of so many, or -1. -/
def findI (t : Nat → Bool) (n : Nat) : Int := match (List.range n).find? t with | some k => (k : Int) | none => -1
theorem findI_some {t : Nat → Bool} {n k : Nat} (hk : k < n) (h : t k = true) (hb : ∀ j, j < k → t j = false) : findI t n = (k : Int) := by
  unfold findI
  rw [List.find?_range_eq_some.2 ⟨h, List.mem_range.2 hk, fun j hj => by rw [hb j hj]; rfl⟩]
theorem findI_none {t : Nat → Bool} {n : Nat} (hb : ∀ j, j < n → t j = false) : findI t n = -1 := by
  unfold findI
  rw [List.find?_eq_none.2 (fun x hx => by rw [hb x (List.mem_range.1 hx)]; decide)]
/-! ### A sort of one at most, and what stands beside it -/
set_option maxRecDepth 8000 in
theorem Len64_s (w : World) (n : Nat) (hn : n ≤ 1) : Calls Tryz.prog 156 #[.int .u64 n] w fun e w' => e = .returned (.int .i64 n) ∧ Frm (fun _ => False) w w' := by
  have hq : ((UInt8.ofNat n).toNat : Int) = n := (by match n, hn with | 0, _ => rfl | 1, _ => rfl)
  refine enter Tryz.func156 rfl Tryz.ntmps156 rfl (St.start (fun _ => False) w) ?_
  refine WC.seq <| WC.region <| WL.v (v_assign rfl rfl) rfl <| WL.nt <| WC.seq <| WC.seq <| WC.region <| WL.v (v_move rfl rfl) rfl <| ?_
  refine WL.v ((v_geq rfl rfl rfl).f (by omega)) rfl ?_
  refine WL.nt <| WC.cond_f rfl <| WC.skip <| WE.then_n <| WC.seq <| WC.seq <| WC.region <| WL.v (v_move rfl rfl) rfl <| ?_
  refine WL.v ((v_geq rfl rfl rfl).f (by omega)) rfl ?_
  refine WL.nt <| WC.cond_f rfl <| WC.skip <| WE.then_n <| WC.seq <| WC.seq <| WC.region <| WL.v (v_move rfl rfl) rfl <| ?_
  refine WL.v ((v_geq rfl rfl rfl).f (by omega)) rfl ?_
  refine WL.nt <| WC.cond_f rfl <| WC.skip <| WE.then_n <| WC.seq <| WC.region <| WL.v (v_move rfl rfl) rfl <| WL.v (v_move rfl rfl) rfl <| ?_
  refine WL.v (v_conv rfl rfl Tryz.underlying5 Tryz.underlying23 (by first | exact w_u8 (by omega) (by omega) | exact w_u8m _)) rfl ?_
  refine WL.v (v_indexS (lo := n) (v := UInt8.ofNat n) rfl rfl rfl Tryz.underlying9 (by omega) (by match n, hn with | 0, _ => exact rfl | 1, _ => exact rfl)) rfl ?_
  refine WL.v (v_conv rfl rfl Tryz.underlying3 Tryz.underlying5 (w_i64 (by omega) (by omega))) rfl ?_
  refine WL.v (v_add rfl rfl rfl (w_i64 (by omega) (by omega))) rfl ?_
  refine WL.v (v_assign rfl rfl) rfl <| WL.nt <| WC.ret <| WE.ret1 (P := Tryz.prog) (.inl rfl) Tryz.results156 rfl <| ?_
  exact fun w' h => ⟨by rw [← hq]; simp, h.frm⟩
theorem Len_s (w : World) (n : Nat) (hn : n ≤ 1) : Calls Tryz.prog 109 #[.int .u64 n] w fun e w' => e = .returned (.int .i64 n) ∧ Frm (fun _ => False) w w' := by
  refine enter Tryz.func109 rfl Tryz.ntmps109 rfl (St.start (fun _ => False) w) ?_
  refine WC.seq <| WC.region <| WL.v (v_assign rfl rfl) rfl <| WL.nt <| WC.seq <| WC.cond_f rfl <| WC.skip <| WE.then_n <| WC.seq <| WC.region <| WL.v (v_move rfl rfl) rfl <| WL.call rfl rfl ck_156 (.none rfl) rfl rfl <| ?_
  intro w hS
  refine Calls.then (Len64_s w n hn) hS ?_
  refine WL.v (v_assign rfl rfl) rfl <| WL.nt <| WC.ret <| WE.ret1 (P := Tryz.prog) (.inl rfl) Tryz.results109 rfl <| ?_
  exact fun w' h => ⟨rfl, h.frm⟩
theorem Insert_s (w : World) (ad : Option Addr) (n c : Nat) (f : Value) (hn : n ≤ 1) : Calls Tryz.prog 160 #[.slice ad n c, .int .i64 0, .int .i64 n, f] w fun e w' => e = .returned (.tuple #[]) ∧ Frm (fun _ => False) w w' := by
  refine enter Tryz.func160 rfl Tryz.ntmps160 rfl (St.start (fun _ => False) w) ?_
  refine WC.seq <| WC.region <| WL.v (v_move rfl rfl) rfl <| ?_
  refine WL.v (v_add rfl rfl rfl (w_i64 (by omega) (by omega))) rfl ?_
  refine WL.v (v_assign rfl rfl) rfl <| WL.nt <| WC.block <| WC.loop (fun _ : Unit => [(8, .int .i64 1), (2, .int .i64 n)]) (fun _ => []) (fun _ => True) (fun _ => 0) () trivial (.cons rfl (.cons rfl .nil)) (.refl _) <| ?_
  intro _ _
  refine WC.seq <| WC.seq <| WC.region <| WL.v (v_move rfl rfl) rfl <| WL.v (v_move rfl rfl) rfl <| ?_
  refine WL.v ((v_lss rfl rfl rfl).f (by omega)) rfl ?_
  refine WL.nt <| WC.cond_f rfl <| WC.exit <| WE.then_exit <| WE.then_exit <| WE.block_hit <| WE.ret0 (P := Tryz.prog) (.inr rfl) Tryz.results160  <| ?_
  exact fun w' h => ⟨rfl, h.frm⟩
theorem Pdq_s (w : World) (ad : Option Addr) (n c : Nat) (f : Value) (m : Int) (hn : n ≤ 1) : Calls Tryz.prog 120 #[.slice ad n c, .int .i64 0, .int .i64 n, .int .i64 m, f] w fun e w' => e = .returned (.tuple #[]) ∧ Frm (fun _ => False) w w' := by
  refine enter Tryz.func120 rfl Tryz.ntmps120 rfl (St.start (fun _ => False) w) ?_
  refine WC.seq <| WC.region <| WL.v (v_assign rfl rfl) rfl <| WL.nt <| WC.seq <| WC.region <| WL.v (v_assign rfl rfl) rfl <| WL.nt <| WC.block <| WC.loop (fun _ : Unit => [(0, .slice ad n c), (1, .int .i64 0), (2, .int .i64 n), (4, f)]) (fun _ => []) (fun _ => True) (fun _ => 0) () trivial (.cons rfl (.cons rfl (.cons rfl (.cons rfl .nil)))) (.refl _) <| ?_
  intro _ _
  refine WC.block <| WC.seq <| WC.region <| WL.v (v_move rfl rfl) rfl <| WL.v (v_move rfl rfl) rfl <| ?_
  refine WL.v (v_sub rfl rfl rfl (w_i64 (by omega) (by omega))) rfl ?_
  refine WL.v (v_assign rfl rfl) rfl <| WL.nt <| WC.seq <| WC.seq <| WC.region <| WL.v (v_move rfl rfl) rfl <| ?_
  refine WL.v ((v_leq rfl rfl rfl).t (by omega)) rfl ?_
  refine WL.nt <| WC.cond_t rfl <| WC.seq <| WC.region <| WL.v (v_move rfl rfl) rfl <| WL.v (v_move rfl rfl) rfl <| WL.v (v_move rfl rfl) rfl <| WL.v (v_move rfl rfl) rfl <| WL.call rfl rfl ck_160 (.none rfl) rfl rfl <| ?_
  intro w hS
  refine Calls.then (Insert_s w ad n c f hn) hS ?_
  refine WL.nt <| WC.ret <| WE.then_ret <| WE.block_ret <| WE.then_ret <| WE.block_ret <| WE.ret0 (P := Tryz.prog) (.inl rfl) Tryz.results120  <| ?_
  exact fun w' h => ⟨rfl, h.frm⟩
theorem Sort_s (w : World) (ad : Option Addr) (n c : Nat) (f : Value) (hn : n ≤ 1) : Calls Tryz.prog 77 #[.slice ad n c, f] w fun e w' => e = .returned (.tuple #[]) ∧ Frm (fun _ => False) w w' := by
  refine enter Tryz.func77 rfl Tryz.ntmps77 rfl (St.start (fun _ => False) w) ?_
  refine WC.seq <| WC.region <| WL.v (v_move rfl rfl) rfl <| WL.v (v_len_slice rfl rfl Tryz.underlying64) rfl <| WL.v (v_assign rfl rfl) rfl <| WL.nt <| WC.region <| WL.v (v_move rfl rfl) rfl <| WL.v (v_move rfl rfl) rfl <| WL.v (v_move rfl rfl) rfl <| ?_
  refine WL.v (v_conv rfl rfl Tryz.underlying172 Tryz.underlying3 (by first | exact w_u64 (by omega) (by omega) | exact w_u64m _)) rfl ?_
  refine WL.call rfl rfl ck_109 (.none rfl) rfl rfl ?_
  intro w hS
  refine Calls.then (Len_s w n hn) hS ?_
  refine WL.v (v_move rfl rfl) rfl <| WL.call rfl rfl ck_120 (.none rfl) rfl rfl <| ?_
  intro w hS
  refine Calls.then (Pdq_s w ad n c f n hn) hS ?_
  refine WL.nil <| WE.ret0 (P := Tryz.prog) (.inr rfl) Tryz.results77  <| ?_
  exact fun w' h => ⟨rfl, h.frm⟩
theorem Compact_s (w : World) (ad : Option Addr) (n c : Nat) (hn : n ≤ 1) : Calls Tryz.prog 79 #[.slice ad n c] w fun e w' => e = .returned (.slice ad n c) ∧ Frm (fun _ => False) w w' := by
  refine enter Tryz.func79 rfl Tryz.ntmps79 rfl (St.start (fun _ => False) w) ?_
  refine WC.seq <| WC.region <| WL.v (v_assign rfl rfl) rfl <| WL.nt <| WC.seq <| WC.seq <| WC.region <| WL.v (v_move rfl rfl) rfl <| WL.v (v_len_slice rfl rfl Tryz.underlying64) rfl <| ?_
  refine WL.v ((v_lss rfl rfl rfl).t (by omega)) rfl ?_
  refine WL.nt <| WC.cond_t rfl <| WC.seq <| WC.region <| WL.v (v_move rfl rfl) rfl <| WL.v (v_assign rfl rfl) rfl <| WL.nt <| WC.ret <| WE.then_ret <| WE.ret1 (P := Tryz.prog) (.inl rfl) Tryz.results79 rfl <| ?_
  exact fun w' h => ⟨rfl, h.frm⟩
end Go.Proofs.YtkeonnnhogaggaaGreatDoor
/- policy: holds. -/
namespace Go.Proofs.YtkeonnnhogaggaaGreatDoor
open Go.RowKit

mutual
/-- All is right with a tree (as a predicate, or as a policy). -/
def okT : Bool → Nd → Prop
  | pred, .mk k f v m a c kids => fitsP k pred = true ∧ argE (.mk k f v m a c kids) = 0 ∧ formE (.mk k f v m a c kids) = 0 ∧ okKs k 0 kids
def okKs (k : Int) : Nat → List Nd → Prop
  | _, [] => True
  | i, t :: ts => okT (predK k i) t ∧ okKs k (i + 1) ts
end
theorem okT.parts {t : Nd} {pred : Bool} (h : okT pred t) : fitsP t.kind pred = true ∧ argE t = 0 ∧ formE t = 0 ∧ okKs t.kind 0 t.kids := by
  cases t; unfold okT at h; exact h
theorem okKs.get {k : Int} : ∀ (ts : List Nd) (i j : Nat) (t : Nd), okKs k i ts → ts[j]? = some t → okT (predK k (i + j)) t
  | [], _, _, _, _, h => by simp at h
  | t :: ts, i, 0, t', h, ht => by
    simp only [List.getElem?_cons_zero, Option.some.injEq] at ht
    subst ht
    unfold okKs at h
    exact h.1
  | t :: ts, i, j + 1, t', h, ht => by
    unfold okKs at h
    rw [List.getElem?_cons_succ] at ht
    have := okKs.get ts (i + 1) j t' h.2 ht
    rwa [show i + 1 + j = i + (j + 1) by omega] at this
theorem okT.kid {t u : Nd} {pred : Bool} {j : Nat} (h : okT pred t) (hu : t.kids[j]? = some u) : okT (predK t.kind j) u := by
  have := h.parts.2.2.2.get _ 0 j u hu
  rwa [Nat.zero_add] at this
mutual
theorem walkT_ok : ∀ (t : Nd) (deep : Int) (pred : Bool) (n : Int), (walkT t deep pred n).1 = 0 → okT pred t
  | .mk k f v m a c kids, deep, pred, n, he => by
    rw [walkT] at he
    split at he
    · cases he
    · split at he
      · cases he
      · split at he
        · rename_i h; exact absurd he h
        · split at he
          · rename_i h; exact absurd he h
          · rename_i h1 h2 h3 h4
            unfold okT
            exact ⟨by simpa using h2, Classical.not_not.1 h3, Classical.not_not.1 h4, walkKs_ok k 0 kids (deep + 1) (n + 1) he⟩
theorem walkKs_ok (k : Int) : ∀ (i : Nat) (ts : List Nd) (deep n : Int), (walkKs k i ts deep n).1 = 0 → okKs k i ts
  | _, [], _, _, _ => by unfold okKs; trivial
  | i, t :: ts, deep, n, he => by
    rw [walkKs] at he
    split at he
    · rename_i h; exact absurd he h
    · rename_i h
      unfold okKs
      exact ⟨walkT_ok t deep (predK k i) n (Classical.not_not.1 h), walkKs_ok k (i + 1) ts deep _ he⟩
end
mutual
/-- Whether a predicate holds of a header. -/
def holdsT (H : Hd) : Nd → Bool
  | .mk k f v m _ _ kids => if k = 1 then true else if k = 3 then decide (andN (xorN (getF H f.toNat) v) m = 0) else if k = 4 then !(holdsKs H kids).getD 0 false else if k = 5 then (holdsKs H kids).all id else if k = 6 then (holdsKs H kids).any id else false
def holdsKs (H : Hd) : List Nd → List Bool
  | [] => []
  | t :: ts => holdsT H t :: holdsKs H ts
end
theorem holdsKs_map (H : Hd) : ∀ ts : List Nd, holdsKs H ts = ts.map (holdsT H)
  | [] => by rw [holdsKs]; rfl
  | t :: ts => by rw [holdsKs, holdsKs_map H ts]; rfl
theorem holdsT_eq (H : Hd) (t : Nd) : holdsT H t = if t.kind = 1 then true else if t.kind = 3 then decide (andN (xorN (getF H t.f.toNat) t.val) t.mask = 0) else if t.kind = 4 then !((t.kids.map (holdsT H)).getD 0 false) else if t.kind = 5 then (t.kids.map (holdsT H)).all id else if t.kind = 6 then (t.kids.map (holdsT H)).any id else false := by
  cases t; rw [holdsT, holdsKs_map]; rfl
/-- The first of a node's kids that a function says true of. -/
theorem PIdx_c (w : World) (t : Nd) (fn : FuncId) (ck_fn : callOk Tryz.prog fn) (cap : Array Value) (r : Nd → Bool) (hI : t.In) (hA : t.At w)
    (hf : ∀ (i : Nat) (u : Nd), t.kids[i]? = some u → ∀ w', Frm (fun _ => False) w w' → Calls Tryz.prog fn (#[] ++ #[ndV u] ++ cap) w' fun e w'' => e = .returned (.bool (r u)) ∧ Frm (fun _ => False) w' w'') :
    Calls Tryz.prog 203 #[.slice t.ad t.kids.length t.cap, .func (.func fn) #[] cap] w
      fun e w' => e = .returned (.int .i64 (findI (fun i => ((t.kids[i]?).map r).getD false) t.kids.length)) ∧ Frm (fun _ => False) w w' := by
  have hlen := hI.nums.2.2.2.2
  refine enter Tryz.func203 rfl Tryz.ntmps203 rfl (St.start (fun _ => False) w) ?_
  refine WC.seq <| WC.region <| WL.v (v_assign rfl rfl) rfl <| WL.nt <| WC.seq <| WC.seq <| WC.region <| WL.v (v_move rfl rfl) rfl <| WL.v (v_len_slice rfl rfl Tryz.underlying24) rfl <| WL.v (v_move rfl rfl) rfl <| WL.nt <| WC.block <| ?_
  refine WC.loop (fun k : Nat => [(8, .int .i64 k), (7, .int .i64 t.kids.length), (6, .slice t.ad t.kids.length t.cap), (0, .slice t.ad t.kids.length t.cap), (1, .func (.func fn) #[] cap)]) (fun _ => []) (fun k => k ≤ t.kids.length ∧ ∀ j, j < k → ((t.kids[j]?).map r).getD false = false) (fun k => t.kids.length - k) 0 ⟨Nat.zero_le _, fun j h => absurd h (by omega)⟩ (.cons rfl (.cons rfl (.cons rfl (.cons rfl (.cons rfl .nil))))) (.refl _) ?_
  rintro k ⟨hk, hno⟩
  refine WC.seq <| WC.region <| ?_
  refine WL.test (v_lss rfl rfl rfl) (.none rfl) rfl rfl (fun h9 => ?_) (fun h9 => ?_)
  ·
   refine WL.nt <| WC.seq <| WC.cond_t rfl <| WC.skip <| WE.then_n <| WC.seq <| WC.block <| WC.seq <| WC.region <| WL.v (v_move rfl rfl) rfl <| ?_
   obtain ⟨u, hu⟩ : ∃ u, t.kids[k]? = some u := ⟨t.kids[k]'(by omega), List.getElem?_eq_getElem _⟩
   obtain ⟨b, o, ea, hr⟩ := (hA.kid hu).1
   refine WL.v (v_assign rfl rfl) rfl <| WL.nt <| WC.seq <| WC.region <| WL.v (v_move rfl rfl) rfl <| WL.v (v_move rfl rfl) rfl <| WL.v (v_move rfl rfl) rfl <| ?_
   refine WL.v (v_indexAddr (b := b) (off := o) (lo := k) rfl (by show some (Value.slice t.ad _ _) = _; rw [ea]) rfl Tryz.underlying24 sz_26 rfl (by omega)) rfl ?_
   refine WL.v (v_loadN (cs := ndL u) rfl rfl many_26 rfl (rangeIn (fun h => h) hr)) rfl <| WL.callV rfl rfl rfl ck_fn (.none rfl) rfl rfl <| ?_
   intro w hS
   refine Calls.then (hf k u hu w hS.frm) hS ?_
   generalize hb : r u = bb
   cases bb
   ·
    refine WL.nt <| WC.cond_f rfl <| WC.skip <| WE.block_n <| WE.then_n <| WC.region <| ?_
    refine WL.v (v_add rfl rfl rfl (w_i64 (by omega) (by omega))) rfl ?_
    refine WL.v (v_move rfl rfl) rfl <| WL.nil <| ?_
    exact WE.next (k + 1) (by omega) ⟨by omega, fun j hj => by
    by_cases e : j = k
    · subst e; rw [hu]; exact hb
    · exact hno j (by omega)⟩ (.int rfl (by omega) (.cons rfl (.cons rfl (.cons rfl (.cons rfl .nil))))) (.refl _)
   ·
    refine WL.nt <| WC.cond_t rfl <| WC.seq <| WC.region <| WL.v (v_move rfl rfl) rfl <| WL.v (v_assign rfl rfl) rfl <| WL.nt <| WC.ret <| WE.block_ret <| WE.then_ret <| WE.then_ret <| WE.block_ret <| WE.then_ret <| WE.ret1 (P := Tryz.prog) (.inl rfl) Tryz.results203 rfl <| ?_
    exact fun w' h => ⟨by rw [findI_some (k := k) (by omega) (by rw [hu]; exact hb) hno], h.frm⟩
  ·
   refine WL.nt <| WC.seq <| WC.cond_f rfl <| WC.exit <| WE.then_exit <| WE.then_exit <| WE.block_hit <| WE.then_n <| WC.seq <| WC.region <| WL.v (v_assign rfl rfl) rfl <| WL.nt <| WC.ret <| WE.ret1 (P := Tryz.prog) (.inl rfl) Tryz.results203 rfl <| ?_
   obtain rfl : k = t.kids.length := (by omega)
   exact fun w' h => ⟨by rw [findI_none hno], h.frm⟩
theorem findI_any (r : Nd → Bool) (ts : List Nd) : decide (0 ≤ findI (fun i => ((ts[i]?).map r).getD false) ts.length) = ts.any r := by
  by_cases h : ∃ i, i < ts.length ∧ ((ts[i]?).map r).getD false = true
  · obtain ⟨i, hi, ht⟩ := h
    have h2 : findI (fun i => ((ts[i]?).map r).getD false) ts.length ≠ -1 := by
      intro e
      unfold findI at e
      split at e
      · rename_i k _; omega
      · rename_i hn
        have := List.find?_eq_none.1 hn i (List.mem_range.2 hi)
        exact this ht
    have h3 : 0 ≤ findI (fun i => ((ts[i]?).map r).getD false) ts.length := by
      unfold findI at h2 ⊢
      split
      · omega
      · rename_i hn; rw [hn] at h2; exact absurd rfl h2
    rw [decide_eq_true h3]
    symm
    rw [List.any_eq_true]
    rw [List.getElem?_eq_getElem hi] at ht
    exact ⟨ts[i], List.getElem_mem hi, ht⟩
  · rw [findI_none (fun j hj => by
      cases e : ((ts[j]?).map r).getD false with
      | false => rfl
      | true => exact absurd ⟨j, hj, e⟩ h)]
    symm
    rw [show decide ((0 : Int) ≤ -1) = false by decide, List.any_eq_false]
    intro u hu ht
    obtain ⟨i, hi, e⟩ := List.getElem_of_mem hu
    exact h ⟨i, hi, by rw [List.getElem?_eq_getElem hi, e]; exact ht⟩
theorem PCon_c (w : World) (t : Nd) (fn : FuncId) (ck_fn : callOk Tryz.prog fn) (cap : Array Value) (r : Nd → Bool) (hI : t.In) (hA : t.At w)
    (hf : ∀ (i : Nat) (u : Nd), t.kids[i]? = some u → ∀ w', Frm (fun _ => False) w w' → Calls Tryz.prog fn (#[] ++ #[ndV u] ++ cap) w' fun e w'' => e = .returned (.bool (r u)) ∧ Frm (fun _ => False) w' w'') :
    Calls Tryz.prog 190 #[.slice t.ad t.kids.length t.cap, .func (.func fn) #[] cap] w
      fun e w' => e = .returned (.bool (t.kids.any r)) ∧ Frm (fun _ => False) w w' := by
  refine enter Tryz.func190 rfl Tryz.ntmps190 rfl (St.start (fun _ => False) w) ?_
  refine WC.seq <| WC.region <| WL.v (v_assign rfl rfl) rfl <| WL.nt <| WC.seq <| WC.region <| WL.v (v_move rfl rfl) rfl <| WL.v (v_move rfl rfl) rfl <| WL.call rfl rfl ck_203 (.none rfl) rfl rfl <| ?_
  intro w hS
  refine Calls.then (PIdx_c w t fn ck_fn cap r hI (hA.st (fun _ h => h) hS) (fun i u hu w' hF => hf i u hu w' (hS.frm.trans hF))) hS ?_
  refine WL.v (v_geq rfl rfl rfl) rfl <| WL.v (v_assign rfl rfl) rfl <| WL.nt <| WC.ret <| WE.ret1 (P := Tryz.prog) (.inl rfl) Tryz.results190 rfl <| ?_
  exact fun w' h => ⟨by rw [← findI_any], h.frm⟩
end Go.Proofs.YtkeonnnhogaggaaGreatDoor
/- policy: holds, Holds. -/
namespace Go.Proofs.YtkeonnnhogaggaaGreatDoor
open Go.RowKit

theorem Frm.range {w w' : World} (hF : Frm (fun _ => False) w w') (b o : Nat) (cs : List Value) (h : w.rangeAt b o cs) : w'.rangeAt b o cs := ((St.start (fun _ => False) w).ext hF).range (fun _ h => h) b o cs h
theorem Frm.gw {w w' : World} (hF : Frm (fun _ => False) w w') (h : GW w) : GW w' := h.keep (fun h => h) ((St.start (fun _ => False) w).ext hF)
theorem Frm.at {w w' : World} {t : Nd} (hF : Frm (fun _ => False) w w') (h : t.At w) : t.At w' := h.keep (Frm.range hF)
theorem formE_le {t : Nd} (h : formE t = 0) : leastK t.kind ≤ t.kids.length ∧ (t.kids.length : Int) ≤ mostK t.kind := by
  unfold formE at h
  split at h
  · cases h
  · omega
/-- What is shown of holds, up to a size. -/
def HoldsTo (N : Nat) (H : Hd) : Prop := ∀ (t : Nd), SizeOf.sizeOf t ≤ N → ∀ (w : World), okT true t → t.In → t.At w → GW w →
  Calls Tryz.prog 157 #[ndV t, .agg (hdCells H)] w fun e w' => e = .returned (.bool (holdsT H t)) ∧ Frm (fun _ => False) w w'
theorem Of1_c (N : Nat) (H : Hd) (ih : HoldsTo N H) (w : World) (gh : Nat) (u : Nd) (hN : SizeOf.sizeOf u ≤ N) (hk : okT true u) (hI : u.In) (hA : u.At w) (hG : GW w) (hh : w.rangeAt gh 0 (hdL H)) :
    Calls Tryz.prog 189 #[ndV u, .pointer (some ⟨gh, 0, none⟩)] w fun e w' => e = .returned (.bool (holdsT H u)) ∧ Frm (fun _ => False) w w' := by
  refine enter Tryz.func189 rfl Tryz.ntmps189 rfl (St.start (fun _ => False) w) ?_
  refine WC.seq <| WC.region <| WL.box rfl rfl rfl (.none rfl) rfl rfl <| ?_
  intro g2 hg2
  refine WL.v (v_assign rfl rfl) rfl <| WL.nt <| WC.seq <| WC.region <| WL.v (v_loadN rfl rfl many_26 rfl allAt) rfl <| WL.v (v_loadN (cs := hdL H) rfl rfl many_59 rfl (rangeIn (fun h => h) hh)) rfl <| WL.call rfl rfl ck_157 (.none rfl) rfl rfl <| ?_
  intro w hS
  refine Calls.then (ih u hN w hk hI (hA.st (fun _ h => h) hS) (hG.keep (fun h => h) hS)) hS ?_
  refine WL.v (v_assign rfl rfl) rfl <| WL.nt <| WC.ret <| WE.ret1 (P := Tryz.prog) (.inl rfl) Tryz.results189 rfl <| ?_
  exact fun w' h => ⟨rfl, h.frm⟩
def ofF (gh : Nat) : Value := .func (.func 189) #[] #[.pointer (some ⟨gh, 0, none⟩)]
theorem Of2_c (N : Nat) (H : Hd) (ih : HoldsTo N H) (w : World) (gh gv : Nat) (u : Nd) (hN : SizeOf.sizeOf u ≤ N) (hk : okT true u) (hI : u.In) (hA : u.At w) (hG : GW w) (hh : w.rangeAt gh 0 (hdL H)) (hv : w.cell? ⟨gv, 0, none⟩ = some (ofF gh)) :
    Calls Tryz.prog 191 #[ndV u, .pointer (some ⟨gv, 0, none⟩)] w fun e w' => e = .returned (.bool (!holdsT H u)) ∧ Frm (fun _ => False) w w' := by
  refine enter Tryz.func191 rfl Tryz.ntmps191 rfl (St.start (fun _ => False) w) ?_
  refine WC.seq <| WC.region <| WL.box rfl rfl rfl (.none rfl) rfl rfl <| ?_
  intro g2 hg2
  refine WL.v (v_assign rfl rfl) rfl <| WL.nt <| WC.seq <| WC.region <| WL.v (v_load1 rfl rfl one_39 (cellOld (fun h => h) hv)) rfl <| WL.v (v_loadN rfl rfl many_26 rfl allAt) rfl <| WL.callV rfl rfl rfl ck_189 (.none rfl) rfl rfl <| ?_
  intro w hS
  refine Calls.then (Of1_c N H ih w gh u hN hk hI (hA.st (fun _ h => h) hS) (hG.keep (fun h => h) hS) (rangeIn (fun h => h) hh w hS)) hS ?_
  generalize holdsT H u = bb
  cases bb
  ·
   refine WL.v (v_not rfl rfl rfl) rfl <| WL.v (v_assign rfl rfl) rfl <| WL.nt <| WC.ret <| WE.ret1 (P := Tryz.prog) (.inl rfl) Tryz.results191 rfl <| ?_
   exact fun w' h => ⟨rfl, h.frm⟩
  ·
   refine WL.v (v_not rfl rfl rfl) rfl <| WL.v (v_assign rfl rfl) rfl <| WL.nt <| WC.ret <| WE.ret1 (P := Tryz.prog) (.inl rfl) Tryz.results191 rfl <| ?_
   exact fun w' h => ⟨rfl, h.frm⟩
theorem predK_pred {k : Int} {j : Nat} (h : k = 4 ∨ k = 5 ∨ k = 6 ∨ k = 13) : predK k j = true := by unfold predK; rw [decide_eq_true (by omega)]
set_option maxHeartbeats 1000000 in
theorem holds_step (H : Hd) (hH : H.In) (N : Nat) (ih : HoldsTo N H) : HoldsTo (N + 1) H := by
  intro t hN w hk hI hA hG
  obtain ⟨hfit, harg, hform, _⟩ := hk.parts
  have hnum := hI.nums
  have hkid : ∀ (j : Nat) (u : Nd), t.kids[j]? = some u → t.kind = 4 ∨ t.kind = 5 ∨ t.kind = 6 → SizeOf.sizeOf u ≤ N ∧ okT true u ∧ u.In := fun j u hu h4 => by
    refine ⟨by have := Nd.kid_size hu; omega, ?_, hI.kids.get _ _ _ hu⟩
    have := hk.kid hu
    rwa [predK_pred (by omega)] at this
  refine enter Tryz.func157 rfl Tryz.ntmps157 rfl (St.start (fun _ => False) w) ?_
  refine WC.seq <| WC.region <| WL.box rfl rfl rfl (.none rfl) rfl rfl <| ?_
  intro g2 hg2
  refine WL.box rfl rfl rfl (.none rfl) rfl rfl ?_
  intro g3 hg3
  refine WL.v (v_assign rfl rfl) rfl <| WL.nt <| WC.seq <| WC.region <| WL.v (v_makeFunc rfl rfl rfl) rfl <| WL.alloc rfl zero_39 (.none rfl) rfl rfl <| ?_
  intro g5 hg5
  skip
  refine WL.store1 rfl rfl rfl rfl one_39 (Nat.le_of_ble_eq_true rfl) (.none rfl) rfl <| WL.nt <| WC.seq <| WC.seq <| WC.region <| WL.v (v_fieldAddr0 rfl rfl fld_26_0) rfl <| WL.v (v_load1 rfl rfl one_3 (cellAt rfl)) rfl <| WL.nt <| WC.block <| WC.seq <| WC.region <| ?_
  refine WL.test (v_eql rfl rfl rfl) (.none rfl) rfl rfl (fun h10 => ?_) (fun h10 => ?_)
  ·
   refine WL.v (v_assign rfl rfl) rfl <| WL.nt <| WC.cond_t rfl <| WC.seq <| WC.region <| WL.v (v_assign rfl rfl) rfl <| WL.nt <| WC.ret <| WE.block_ret <| WE.then_ret <| WE.ret1 (P := Tryz.prog) (.inl rfl) Tryz.results157 rfl <| ?_
   exact fun w' h => ⟨by rw [holdsT_eq, if_pos h10], h.frm⟩
  ·
   refine WL.v (v_assign rfl rfl) rfl <| WL.nt <| WC.cond_f rfl <| WC.seq <| WC.region <| ?_
   refine WL.test (v_eql rfl rfl rfl) (.none rfl) rfl rfl (fun h12 => ?_) (fun h12 => ?_)
   ·
    refine WL.v (v_assign rfl rfl) rfl <| WL.nt <| WC.cond_t rfl <| WC.seq <| ?_
    refine WC.quiet mixed (by kernel_rfl) ?_
    refine WQ.val (v_loadN rfl rfl many_59 rfl allAt) (.none rfl) rfl rfl ?_
    obtain ⟨q, eq, hq9, eq2⟩ : ∃ q : Nat, t.f = q ∧ q < 9 ∧ t.f.toNat = q := (by
      unfold argE at harg
      rw [if_pos h12] at harg
      split at harg
      · cases harg
      · rename_i h; exact isFld.nat (Classical.not_not.1 (fun q => h (.inl q))))
    have hg := getF_le H q
    have hf := fullI_u64 q
    have hx := xorN_le (x := getF H q) (y := t.val) (by omega) hnum.2.2.1.2
    refine WQ.val (v_fieldAddr0 rfl rfl fld_26_1) (.none rfl) rfl rfl <| WQ.val (v_load1 rfl rfl one_22 (cellAt rfl)) (.none rfl) rfl rfl <| ?_
    refine WQ.call _ rfl rfl ck_122 (.none rfl) rfl rfl (fun w hS => Calls.still (by rw [eq]; exact Get_c w H q hq9 hH (hG.keep (fun h => h) hS)) hS) ?_
    refine WQ.val (v_fieldAddr0 rfl rfl fld_26_2) (.none rfl) rfl rfl <| WQ.val (v_load1 rfl rfl one_23 (cellAt rfl)) (.none rfl) rfl rfl <| ?_
    refine WQ.val (v_xor rfl rfl rfl (bits_xor_u64 hg.1 (by omega) hnum.2.2.1.1 hnum.2.2.1.2)) (.none rfl) rfl rfl ?_
    refine WQ.val (v_fieldAddr0 rfl rfl fld_26_3) (.none rfl) rfl rfl <| WQ.val (v_load1 rfl rfl one_23 (cellAt rfl)) (.none rfl) rfl rfl <| WQ.val (v_and rfl rfl rfl (bits_and_u64 hx.1 hx.2 hnum.2.2.2.1.1 hnum.2.2.2.1.2)) (.none rfl) rfl rfl <| WQ.val (v_eql rfl rfl rfl) (.none rfl) rfl rfl <| WQ.val (v_assign rfl rfl) (.none rfl) rfl rfl <| WQ.nil <| WE.then_n <| WC.ret <| WE.block_ret <| WE.then_ret <| WE.ret1 (P := Tryz.prog) (.inl rfl) Tryz.results157 rfl <| ?_
    exact fun w' h => ⟨by rw [holdsT_eq, if_neg h10, if_pos h12, eq2], h.frm⟩
   ·
    refine WL.v (v_assign rfl rfl) rfl <| WL.nt <| WC.cond_f rfl <| WC.seq <| WC.region <| ?_
    refine WL.test (v_eql rfl rfl rfl) (.none rfl) rfl rfl (fun h25 => ?_) (fun h25 => ?_)
    ·
     refine WL.v (v_assign rfl rfl) rfl <| WL.nt <| WC.cond_t rfl <| WC.seq <| ?_
     refine WC.quiet mixed (by kernel_rfl) ?_
     refine WQ.val (v_load1 rfl rfl one_39 (cellAt rfl)) (.none rfl) rfl rfl <| WQ.val (v_fieldAddr0 rfl rfl fld_26_4) (.none rfl) rfl rfl <| WQ.val (v_load1 rfl rfl one_24 (cellAt rfl)) (.none rfl) rfl rfl <| ?_
     obtain ⟨u, hu⟩ : ∃ u, t.kids[0]? = some u := (by
       have : 1 ≤ t.kids.length := (by have := (formE_le hform).1; rw [h25, show leastK 4 = 1 by decide] at this; omega)
       exact ⟨t.kids[0]'(by omega), List.getElem?_eq_getElem _⟩)
     obtain ⟨b, o, ea, hr⟩ := (hA.kid hu).1
     obtain ⟨k1, k2, k3⟩ := hkid 0 u hu (.inl h25)
     have hl0 : 0 < t.kids.length := (by
       rcases Nat.eq_zero_or_pos t.kids.length with h | h
       · rw [List.getElem?_eq_none (by omega)] at hu; cases hu
       · exact h)
     refine WQ.val (v_indexAddr (b := b) (off := o) (lo := 0) rfl (by show some (Value.slice t.ad _ _) = _; rw [ea]) rfl Tryz.underlying24 sz_26 rfl hl0) (.none rfl) rfl rfl ?_
     refine WQ.val (v_loadN (cs := ndL u) rfl rfl many_26 rfl (rangeIn (fun h => h) hr)) (.none rfl) rfl rfl <| WQ.callV _ rfl rfl rfl ck_189 (.none rfl) rfl rfl (fun w hS => Calls.still (Of1_c N H ih w g3 u k1 k2 k3 ((hA.kid hu).2.st (fun _ h => h) hS) (hG.keep (fun h => h) hS) (allAt (g := g3) w hS)) hS) <| ?_
     generalize hbb : holdsT H u = bb
     cases bb
     ·
      refine WQ.val (v_not rfl rfl rfl) (.none rfl) rfl rfl <| WQ.val (v_assign rfl rfl) (.none rfl) rfl rfl <| WQ.nil <| WE.then_n <| WC.ret <| WE.block_ret <| WE.then_ret <| WE.ret1 (P := Tryz.prog) (.inl rfl) Tryz.results157 rfl <| ?_
      exact fun w' h => ⟨by rw [holdsT_eq, if_neg h10, if_neg h12, if_pos h25, List.getD_eq_getElem?_getD, List.getElem?_map, hu]; simp [hbb], h.frm⟩
     ·
      refine WQ.val (v_not rfl rfl rfl) (.none rfl) rfl rfl <| WQ.val (v_assign rfl rfl) (.none rfl) rfl rfl <| WQ.nil <| WE.then_n <| WC.ret <| WE.block_ret <| WE.then_ret <| WE.ret1 (P := Tryz.prog) (.inl rfl) Tryz.results157 rfl <| ?_
      exact fun w' h => ⟨by rw [holdsT_eq, if_neg h10, if_neg h12, if_pos h25, List.getD_eq_getElem?_getD, List.getElem?_map, hu]; simp [hbb], h.frm⟩
    ·
     refine WL.v (v_assign rfl rfl) rfl <| WL.nt <| WC.cond_f rfl <| WC.seq <| WC.region <| ?_
     refine WL.test (v_eql rfl rfl rfl) (.none rfl) rfl rfl (fun h34 => ?_) (fun h34 => ?_)
     ·
      refine WL.v (v_assign rfl rfl) rfl <| WL.nt <| WC.cond_t rfl <| WC.seq <| WC.region <| WL.v (v_fieldAddr0 rfl rfl fld_26_4) rfl <| WL.v (v_load1 rfl rfl one_24 (cellAt rfl)) rfl <| WL.v (v_makeFunc rfl rfl rfl) rfl <| WL.call rfl rfl ck_190 (.none rfl) rfl rfl <| ?_
      intro w hS
      refine Calls.then (PCon_c w t 191 ck_191 _ (fun u => !holdsT H u) hI (hA.st (fun _ h => h) hS) (fun i u hu w' hF => Of2_c N H ih w' g3 g5 u (hkid i u hu (by omega)).1 (hkid i u hu (by omega)).2.1 (hkid i u hu (by omega)).2.2 (Frm.at hF ((hA.kid hu).2.st (fun _ h => h) hS)) (Frm.gw hF (hG.keep (fun h => h) hS)) (Frm.range hF _ _ _ (allAt (g := g3) w hS)) (((St.start (fun _ => False) w).ext hF).old (fun h => h) (hS.cell (g := g5) rfl)))) hS ?_
      generalize hbb : (t.kids.any fun u => !holdsT H u) = bb
      cases bb
      ·
       refine WL.v (v_not rfl rfl rfl) rfl <| WL.v (v_assign rfl rfl) rfl <| WL.nt <| WC.ret <| WE.block_ret <| WE.then_ret <| WE.ret1 (P := Tryz.prog) (.inl rfl) Tryz.results157 rfl <| ?_
       exact fun w' h => ⟨by rw [holdsT_eq, if_neg h10, if_neg h12, if_neg h25, if_pos h34, List.all_map, List.all_eq_not_any_not]; simp only [Function.comp, id]; rw [hbb], h.frm⟩
      ·
       refine WL.v (v_not rfl rfl rfl) rfl <| WL.v (v_assign rfl rfl) rfl <| WL.nt <| WC.ret <| WE.block_ret <| WE.then_ret <| WE.ret1 (P := Tryz.prog) (.inl rfl) Tryz.results157 rfl <| ?_
       exact fun w' h => ⟨by rw [holdsT_eq, if_neg h10, if_neg h12, if_neg h25, if_pos h34, List.all_map, List.all_eq_not_any_not]; simp only [Function.comp, id]; rw [hbb], h.frm⟩
     ·
      refine WL.v (v_assign rfl rfl) rfl <| WL.nt <| WC.cond_f rfl <| WC.seq <| WC.region <| ?_
      refine WL.test (v_eql rfl rfl rfl) (.none rfl) rfl rfl (fun h41 => ?_) (fun h41 => ?_)
      ·
       refine WL.v (v_assign rfl rfl) rfl <| WL.nt <| WC.cond_t rfl <| WC.seq <| WC.region <| WL.v (v_fieldAddr0 rfl rfl fld_26_4) rfl <| WL.v (v_load1 rfl rfl one_24 (cellAt rfl)) rfl <| WL.v (v_load1 rfl rfl one_39 (cellAt rfl)) rfl <| WL.call rfl rfl ck_190 (.none rfl) rfl rfl <| ?_
       intro w hS
       refine Calls.then (PCon_c w t 189 ck_189 _ (holdsT H) hI (hA.st (fun _ h => h) hS) (fun i u hu w' hF => Of1_c N H ih w' g3 u (hkid i u hu (by omega)).1 (hkid i u hu (by omega)).2.1 (hkid i u hu (by omega)).2.2 (Frm.at hF ((hA.kid hu).2.st (fun _ h => h) hS)) (Frm.gw hF (hG.keep (fun h => h) hS)) (Frm.range hF _ _ _ (allAt (g := g3) w hS)))) hS ?_
       refine WL.v (v_assign rfl rfl) rfl <| WL.nt <| WC.ret <| WE.block_ret <| WE.then_ret <| WE.ret1 (P := Tryz.prog) (.inl rfl) Tryz.results157 rfl <| ?_
       exact fun w' h => ⟨by rw [holdsT_eq, if_neg h10, if_neg h12, if_neg h25, if_neg h34, if_pos h41, List.any_map]; rfl, h.frm⟩
      ·
       refine WL.v (v_assign rfl rfl) rfl <| WL.nt <| WC.cond_f rfl <| WC.skip <| WE.block_n <| WE.then_n <| WC.seq <| WC.region <| WL.v (v_assign rfl rfl) rfl <| WL.nt <| WC.ret <| WE.ret1 (P := Tryz.prog) (.inl rfl) Tryz.results157 rfl <| ?_
       exact fun w' h => ⟨by rw [holdsT_eq, if_neg h10, if_neg h12, if_neg h25, if_neg h34, if_neg h41], h.frm⟩
theorem holds_c (H : Hd) (hH : H.In) : ∀ N, HoldsTo N H
  | 0 => fun t hN => by cases t; simp only [Nd.mk.sizeOf_spec] at hN; omega
  | N + 1 => holds_step H hH N (holds_c H hH N)
end Go.Proofs.YtkeonnnhogaggaaGreatDoor
/- rules.List: Run where one act at most is to be done; the document's example of layer 17. -/
namespace Go.Proofs.YtkeonnnhogaggaaGreatDoor
open Go.RowKit

def hdsL (Hs : List Hd) : List Value := Hs.flatMap hdL
theorem hdsL_snoc (Hs : List Hd) (H : Hd) : hdsL Hs ++ hdL H = hdsL (Hs ++ [H]) := by simp [hdsL]
def outs (a : Nat → Ac) (H : Hd) (k : Nat) : List Hd := (List.range k).map fun i => appK (a i) H 9
def mt0 : Mt := ⟨fun _ => 0, fun _ => 0⟩
theorem Hd.zero_in : Hd.zero.In := by constructor <;> (try intro k) <;> first | decide | exact ⟨Int.le_refl _, (by decide : (0 : Int) ≤ 255)⟩
end Go.Proofs.YtkeonnnhogaggaaGreatDoor
/- policy: headers that are the same; Index, Contains, gather. -/
namespace Go.Proofs.YtkeonnnhogaggaaGreatDoor
open Go.RowKit

def Hd.same (A B : Hd) : Prop := A.port = B.port ∧ (∀ i, i < 6 → A.src i = B.src i) ∧ (∀ i, i < 6 → A.dst i = B.dst i) ∧ A.ty = B.ty ∧ A.sip = B.sip ∧ A.dip = B.dip ∧ A.proto = B.proto ∧ A.sp = B.sp ∧ A.dp = B.dp
instance (A B : Hd) : Decidable (A.same B) := by unfold Hd.same; infer_instance
theorem hdL_same {A B : Hd} : hdL A = hdL B ↔ A.same B := by
  constructor
  · intro h
    unfold hdL at h
    simp only [List.cons.injEq, Value.int.injEq, true_and, and_true] at h
    obtain ⟨h0, h1, h2, h3, h4, h5, h6, h7, h8, h9, h10, h11, h12, h13, h14, h15, h16, h17, h18⟩ := h
    exact ⟨h0, fun i hi => by match i, hi with | 0, _ => exact h1 | 1, _ => exact h2 | 2, _ => exact h3 | 3, _ => exact h4 | 4, _ => exact h5 | 5, _ => exact h6,
      fun i hi => by match i, hi with | 0, _ => exact h7 | 1, _ => exact h8 | 2, _ => exact h9 | 3, _ => exact h10 | 4, _ => exact h11 | 5, _ => exact h12, h13, h14, h15, h16, h17, h18⟩
  · rintro ⟨h0, h1, h2, h3, h4, h5, h6, h7, h8⟩
    unfold hdL
    rw [h0, h1 0 (by omega), h1 1 (by omega), h1 2 (by omega), h1 3 (by omega), h1 4 (by omega), h1 5 (by omega), h2 0 (by omega), h2 1 (by omega), h2 2 (by omega), h2 3 (by omega), h2 4 (by omega), h2 5 (by omega), h3, h4, h5, h6, h7, h8]
theorem hdL_len (H : Hd) : (hdL H).length = 19 := rfl
theorem hdsL_len : ∀ Hs : List Hd, (hdsL Hs).length = Hs.length * 19
  | [] => rfl
  | H :: Hs => by
    show (hdL H ++ hdsL Hs).length = _
    rw [List.length_append, hdsL_len Hs, hdL_len, List.length_cons]; omega
theorem hdsL_seg : ∀ (Hs : List Hd) (i : Nat) (H : Hd), Hs[i]? = some H → ((hdsL Hs).drop (i * 19)).take 19 = hdL H
  | [], _, _, h => by simp at h
  | G :: Hs, 0, H, h => by
    simp only [List.getElem?_cons_zero, Option.some.injEq] at h
    subst h
    show ((hdL G ++ hdsL Hs).drop (0 * 19)).take 19 = _
    rw [Nat.zero_mul, List.drop_zero, List.take_left' (hdL_len G)]
  | G :: Hs, i + 1, H, h => by
    rw [List.getElem?_cons_succ] at h
    show ((hdL G ++ hdsL Hs).drop ((i + 1) * 19)).take 19 = _
    rw [show (i + 1) * 19 = 19 + i * 19 by omega, ← List.drop_drop, List.drop_left' (hdL_len G)]
    exact hdsL_seg Hs i H h
/-- Headers lie there, one behind the other. -/
def HdsAt (w : World) (ad : Option Addr) (Hs : List Hd) : Prop := ∀ (i : Nat) (H : Hd), Hs[i]? = some H → ∃ b o, ad = some ⟨b, o, none⟩ ∧ w.rangeAt b (o + i * 19) (hdL H)
theorem HdsAt.keep {w w' : World} {ad : Option Addr} {Hs : List Hd} (hw : ∀ b o cs, w.rangeAt b o cs → w'.rangeAt b o cs) (h : HdsAt w ad Hs) : HdsAt w' ad Hs := fun i H hi => by
  obtain ⟨b, o, e, hr⟩ := h i H hi
  exact ⟨b, o, e, hw _ _ _ hr⟩
theorem HdsAt.at {w : World} {b o : Nat} {Hs : List Hd} {i : Nat} {H : Hd} (h : HdsAt w (some ⟨b, o, none⟩) Hs) (hi : Hs[i]? = some H) : w.rangeAt b (o + i * 19) (hdL H) := by
  obtain ⟨b', o', e', hr⟩ := h i H hi
  injection e' with e'
  injection e' with e1 e2
  subst e1 e2
  exact hr
theorem Vec.hds {p : Nat → Prop} {w0 w : World} {L E : List Ent} {ad : Option Addr} {n c : Nat} {Hs : List Hd} (hV : Vec 19 ad n c (hdsL Hs) E) (hS : St p w0 w L) (hm : ∀ e ∈ E, e ∈ L) : HdsAt w ad Hs := fun i H hi => by
  have hlt : i < Hs.length := (List.getElem?_eq_some_iff.1 hi).1
  have hl := hV.len.1
  rw [hdsL_len] at hl
  rcases hV with ⟨_, h, _⟩ | ⟨g, cs, rfl, rfl, hx, hcl, hk⟩
  · subst h; omega
  · refine ⟨g, 0, rfl, fun j v hj => ?_⟩
    have hR : Row w g cs := hS.holds (.row g cs) (hm _ (by simp))
    refine hR.cell ?_
    have hs := hdsL_seg Hs i H hi
    rw [← hs, List.getElem?_take] at hj
    split at hj
    · rename_i hj19
      rw [List.getElem?_drop, ← hx, List.getElem?_take] at hj
      split at hj
      · rw [Nat.zero_add]; exact hj
      · cases hj
    · cases hj
theorem HIdx_c (w : World) (ad : Option Addr) (c : Nat) (Hs : List Hd) (H : Hd) (hA : HdsAt w ad Hs) (hn : Hs.length ≤ 1000) :
    Calls Tryz.prog 207 #[.slice ad Hs.length c, .agg (hdCells H)] w
      fun e w' => e = .returned (.int .i64 (findI (fun i => ((Hs[i]?).map fun x => decide (H.same x)).getD false) Hs.length)) ∧ Frm (fun _ => False) w w' := by
  refine enter Tryz.func207 rfl Tryz.ntmps207 rfl (St.start (fun _ => False) w) ?_
  refine WC.seq <| WC.region <| WL.box rfl rfl rfl (.none rfl) rfl rfl <| ?_
  intro g3 hg3
  refine WL.v (v_assign rfl rfl) rfl <| WL.nt <| WC.seq <| WC.seq <| WC.region <| WL.v (v_move rfl rfl) rfl <| WL.v (v_len_slice rfl rfl Tryz.underlying64) rfl <| WL.v (v_move rfl rfl) rfl <| WL.nt <| WC.block <| ?_
  refine WC.loop (fun k : Nat => [(8, .int .i64 k), (7, .int .i64 Hs.length), (6, .slice ad Hs.length c), (0, .slice ad Hs.length c), (3, .pointer (some ⟨g3, 0, none⟩))]) (fun _ => [.row g3 (hdL H)]) (fun k => k ≤ Hs.length ∧ ∀ j, j < k → ((Hs[j]?).map fun x => decide (H.same x)).getD false = false) (fun k => Hs.length - k) 0 ⟨Nat.zero_le _, fun j h => absurd h (by omega)⟩ (.cons rfl (.cons rfl (.cons rfl (.cons rfl (.cons rfl .nil))))) (.refl _) ?_
  rintro k ⟨hk, hno⟩
  refine WC.seq <| WC.region <| ?_
  refine WL.test (v_lss rfl rfl rfl) (.none rfl) rfl rfl (fun h9 => ?_) (fun h9 => ?_)
  ·
   refine WL.nt <| WC.seq <| WC.cond_t rfl <| WC.skip <| WE.then_n <| WC.seq <| WC.block <| WC.seq <| WC.region <| WL.v (v_move rfl rfl) rfl <| ?_
   obtain ⟨x, hx⟩ : ∃ x, Hs[k]? = some x := ⟨Hs[k]'(by omega), List.getElem?_eq_getElem _⟩
   obtain ⟨b, o, ea, hr⟩ := hA k x hx
   refine WL.v (v_assign rfl rfl) rfl <| WL.nt <| WC.seq <| ?_
   refine WC.quiet mixed (by kernel_rfl) ?_
   refine WQ.val (v_loadN rfl rfl many_59 rfl allAt) (.none rfl) rfl rfl <| WQ.val (v_move rfl rfl) (.none rfl) rfl rfl <| WQ.val (v_move rfl rfl) (.none rfl) rfl rfl <| ?_
   refine WQ.val (v_indexAddr (b := b) (off := o) (lo := k) rfl (by show some (Value.slice ad _ _) = _; rw [ea]) rfl Tryz.underlying64 sz_59 rfl (by omega)) (.none rfl) rfl rfl ?_
   refine WQ.val (v_loadN (cs := hdL x) rfl rfl many_59 rfl (rangeIn (fun h => h) hr)) (.none rfl) rfl rfl ?_
   generalize hb : decide (H.same x) = bb
   cases bb
   ·
    refine WQ.val (v_eql_aggF rfl rfl rfl eqk_59 eqg_59 rfl rfl (by exact fun e => of_decide_eq_false hb (hdL_same.1 e))) (.none rfl) rfl rfl ?_
    refine WQ.nil <| WE.then_n <| WC.cond_f rfl <| WC.skip <| WE.block_n <| WE.then_n <| WC.region <| ?_
    refine WL.v (v_add rfl rfl rfl (w_i64 (by omega) (by omega))) rfl ?_
    refine WL.v (v_move rfl rfl) rfl <| WL.nil <| ?_
    exact WE.next (k + 1) (by omega) ⟨by omega, fun j hj => by
    by_cases e : j = k
    · subst e; rw [hx]; exact hb
    · exact hno j (by omega)⟩ (.int rfl (by omega) (.cons rfl (.cons rfl (.cons rfl (.cons rfl .nil))))) (.refl _)
   ·
    refine WQ.val (v_eql_aggT rfl rfl rfl eqk_59 eqg_59 rfl rfl (by exact hdL_same.2 (of_decide_eq_true hb))) (.none rfl) rfl rfl ?_
    refine WQ.nil <| WE.then_n <| WC.cond_t rfl <| WC.seq <| WC.region <| WL.v (v_move rfl rfl) rfl <| WL.v (v_assign rfl rfl) rfl <| WL.nt <| WC.ret <| WE.block_ret <| WE.then_ret <| WE.then_ret <| WE.block_ret <| WE.then_ret <| ?_
    refine WE.ret1 (P := Tryz.prog) (.inl rfl) Tryz.results207 rfl ?_
    exact fun w' h => ⟨by rw [findI_some (k := k) (by omega) (by rw [hx]; exact hb) hno], h.frm⟩
  ·
   refine WL.nt <| WC.seq <| WC.cond_f rfl <| WC.exit <| WE.then_exit <| WE.then_exit <| WE.block_hit <| WE.then_n <| WC.seq <| WC.region <| WL.v (v_assign rfl rfl) rfl <| WL.nt <| WC.ret <| WE.ret1 (P := Tryz.prog) (.inl rfl) Tryz.results207 rfl <| ?_
   obtain rfl : k = Hs.length := (by omega)
   exact fun w' h => ⟨by rw [findI_none hno], h.frm⟩
theorem findI_any' {α : Type} (r : α → Bool) (ts : List α) : decide (0 ≤ findI (fun i => ((ts[i]?).map r).getD false) ts.length) = ts.any r := by
  by_cases h : ∃ i, i < ts.length ∧ ((ts[i]?).map r).getD false = true
  · obtain ⟨i, hi, ht⟩ := h
    have h2 : findI (fun i => ((ts[i]?).map r).getD false) ts.length ≠ -1 := by
      intro e
      unfold findI at e
      split at e
      · rename_i k _; omega
      · rename_i hn
        have := List.find?_eq_none.1 hn i (List.mem_range.2 hi)
        exact this ht
    have h3 : 0 ≤ findI (fun i => ((ts[i]?).map r).getD false) ts.length := by
      unfold findI at h2 ⊢
      split
      · omega
      · rename_i hn; rw [hn] at h2; exact absurd rfl h2
    rw [decide_eq_true h3]
    symm
    rw [List.any_eq_true]
    rw [List.getElem?_eq_getElem hi] at ht
    exact ⟨ts[i], List.getElem_mem hi, ht⟩
  · rw [findI_none (fun j hj => by
      cases e : ((ts[j]?).map r).getD false with
      | false => rfl
      | true => exact absurd ⟨j, hj, e⟩ h)]
    symm
    rw [show decide ((0 : Int) ≤ -1) = false by decide, List.any_eq_false]
    intro u hu ht
    obtain ⟨i, hi, e⟩ := List.getElem_of_mem hu
    exact h ⟨i, hi, by rw [List.getElem?_eq_getElem hi, e]; exact ht⟩
def inHs (Hs : List Hd) (H : Hd) : Bool := Hs.any fun x => decide (H.same x)
theorem HCon_c (w : World) (ad : Option Addr) (c : Nat) (Hs : List Hd) (H : Hd) (hA : HdsAt w ad Hs) (hn : Hs.length ≤ 1000) :
    Calls Tryz.prog 204 #[.slice ad Hs.length c, .agg (hdCells H)] w
      fun e w' => e = .returned (.bool (inHs Hs H)) ∧ Frm (fun _ => False) w w' := by
  refine enter Tryz.func204 rfl Tryz.ntmps204 rfl (St.start (fun _ => False) w) ?_
  refine WC.seq <| WC.region <| WL.box rfl rfl rfl (.none rfl) rfl rfl <| ?_
  intro g3 hg3
  refine WL.v (v_assign rfl rfl) rfl <| WL.nt <| WC.seq <| WC.region <| WL.v (v_move rfl rfl) rfl <| WL.v (v_loadN rfl rfl many_59 rfl allAt) rfl <| WL.call rfl rfl ck_207 (.none rfl) rfl rfl <| ?_
  intro w hS
  refine Calls.then (HIdx_c w ad c Hs H (hA.keep (hS.range (fun _ h => h))) hn) hS ?_
  refine WL.v (v_geq rfl rfl rfl) rfl <| WL.v (v_assign rfl rfl) rfl <| WL.nt <| WC.ret <| WE.ret1 (P := Tryz.prog) (.inl rfl) Tryz.results204 rfl <| ?_
  exact fun w' h => ⟨by unfold inHs; rw [← findI_any'], h.frm⟩
/-- What gather makes of two lists. -/
def gatherT (all : List Hd) : List Hd → Option (List Hd)
  | [] => some all
  | h :: more => if inHs all h then gatherT all more else if all.length = 64 then none else gatherT (all ++ [h]) more
end Go.Proofs.YtkeonnnhogaggaaGreatDoor
/- policy: gather. -/
namespace Go.Proofs.YtkeonnnhogaggaaGreatDoor
open Go.RowKit

theorem gatherT_len : ∀ (Bs As Rs : List Hd), As.length ≤ 64 → gatherT As Bs = some Rs → Rs.length ≤ 64
  | [], As, Rs, h, e => by rw [gatherT] at e; cases e; exact h
  | b :: Bs, As, Rs, h, e => by
    rw [gatherT] at e
    split at e
    · exact gatherT_len Bs As Rs h e
    · split at e
      · cases e
      · exact gatherT_len Bs (As ++ [b]) Rs (by rw [List.length_append]; show _ + 1 ≤ 64; omega) e
theorem gatherT_mem : ∀ (Bs As Rs : List Hd), gatherT As Bs = some Rs → ∀ x ∈ Rs, x ∈ As ∨ x ∈ Bs
  | [], As, Rs, e, x, hx => by rw [gatherT] at e; cases e; exact .inl hx
  | b :: Bs, As, Rs, e, x, hx => by
    rw [gatherT] at e
    split at e
    · exact (gatherT_mem Bs As Rs e x hx).imp id (List.mem_cons_of_mem _)
    · split at e
      · cases e
      · rcases gatherT_mem Bs (As ++ [b]) Rs e x hx with h | h
        · rcases List.mem_append.1 h with h | h
          · exact .inl h
          · rw [List.mem_singleton.1 h]; exact .inr (List.mem_cons_self ..)
        · exact .inr (List.mem_cons_of_mem _ h)
/-- A list of headers, and whether there is one. -/
def HdsPost (p : Nat → Prop) (w0 : World) (L : List Ent) (o : Option (List Hd)) (e : Ending) (w' : World) : Prop :=
  ∃ Rs ad c E b, e = .returned (.tuple #[.slice ad (List.length Rs) c, .bool b]) ∧ Vec 19 ad (List.length Rs) c (hdsL Rs) E ∧ St p w0 w' (E ++ L) ∧ ((b = true ∧ o = some Rs) ∨ (b = false ∧ o = none ∧ Rs = [] ∧ ad = none ∧ c = 0))
theorem HdsPost.none {p : Nat → Prop} {w0 w' : World} {L : List Ent} {o : Option (List Hd)} (ho : o = .none) (h : St p w0 w' L) : HdsPost p w0 L o (.returned (.tuple #[.slice .none 0 0, .bool false])) w' :=
  ⟨[], .none, 0, [], false, rfl, Vec.nil 19, h, .inr ⟨rfl, ho, rfl, rfl, rfl⟩⟩
theorem HdsPost.some {p : Nat → Prop} {w0 w' : World} {L E : List Ent} {o : Option (List Hd)} {Rs : List Hd} {ad : Option Addr} {c : Nat} (ho : o = .some Rs) (hV : Vec 19 ad Rs.length c (hdsL Rs) E) (h : St p w0 w' (E ++ L)) : HdsPost p w0 L o (.returned (.tuple #[.slice ad Rs.length c, .bool true])) w' :=
  ⟨Rs, ad, c, E, true, rfl, hV, h, .inl ⟨rfl, ho⟩⟩
set_option maxHeartbeats 1000000 in
theorem gather_c (p : Nat → Prop) (w0 w1 : World) (L E0 : List Ent) (As Bs : List Hd) (ad0 ad2 : Option Addr) (c0 c2 : Nat) (hV0 : Vec 19 ad0 As.length c0 (hdsL As) E0) (hS0 : St p w0 w1 (E0 ++ L)) (hB : ∀ w, St p w0 w L → HdsAt w ad2 Bs) (hl : As.length ≤ 64) (hb : Bs.length ≤ 1000) :
    Calls Tryz.prog 192 #[.slice ad0 As.length c0, .slice ad2 Bs.length c2] w1 (HdsPost p w0 L (gatherT As Bs)) := by
  refine enter Tryz.func192 rfl Tryz.ntmps192 rfl hS0 ?_
  refine WC.seq <| WC.region <| WL.v (v_assign rfl rfl) rfl <| WL.v (v_assign rfl rfl) rfl <| WL.nt <| WC.seq <| WC.seq <| WC.region <| WL.v (v_move rfl rfl) rfl <| WL.v (v_len_slice rfl rfl Tryz.underlying64) rfl <| WL.v (v_move rfl rfl) rfl <| WL.nt <| WC.block <| WC.loop (fun x : Nat × List Hd × Option Addr × Nat × List Ent => [(10, .int .i64 x.1), (9, .int .i64 Bs.length), (8, .slice ad2 Bs.length c2), (0, .slice x.2.2.1 x.2.1.length x.2.2.2.1)]) (fun x => x.2.2.2.2 ++ L) (fun x => x.1 ≤ Bs.length ∧ Vec 19 x.2.2.1 x.2.1.length x.2.2.2.1 (hdsL x.2.1) x.2.2.2.2 ∧ x.2.1.length ≤ 64 ∧ gatherT x.2.1 (Bs.drop x.1) = gatherT As Bs) (fun x => Bs.length - x.1) (0, As, ad0, c0, E0) ⟨Nat.zero_le _, hV0, hl, rfl⟩ (.cons rfl (.cons rfl (.cons rfl (.cons rfl .nil)))) (.refl _) <| ?_
  rintro ⟨k, R, ad, c, E⟩ ⟨hk, hV, hR, hg⟩
  dsimp only at hk hV hR hg
  dsimp only
  have hfact : k < Bs.length → ∃ x b o, Bs[k]? = some x ∧ ad2 = some ⟨b, o, none⟩ ∧ Bs.drop k = x :: Bs.drop (k + 1) := (fun hkl => by
    obtain ⟨b, o, ea, _⟩ := hB w1 (hS0.sub (List.sublist_append_right _ _)) k _ (List.getElem?_eq_getElem hkl)
    exact ⟨_, b, o, List.getElem?_eq_getElem hkl, ea, List.drop_eq_getElem_cons hkl⟩)
  refine WC.seq <| WC.region <| ?_
  refine WL.test (v_lss rfl rfl rfl) (.none rfl) rfl rfl (fun h11 => ?_) (fun h11 => ?_)
  ·
   refine WL.nt <| WC.seq <| WC.cond_t rfl <| WC.skip <| WE.then_n <| WC.seq <| WC.block <| WC.seq <| WC.region <| ?_
   obtain ⟨x, b, o, hx, ea, hdr⟩ := hfact (by omega)
   rw [hdr, gatherT] at hg
   refine WL.v (v_indexAddr (b := b) (off := o) (lo := k) rfl (by show some (Value.slice ad2 _ _) = _; rw [ea]) rfl Tryz.underlying64 sz_59 rfl (by omega)) rfl ?_
   refine WL.v (v_loadN (cs := hdL x) rfl rfl many_59 rfl (fun w' hS' => HdsAt.at (by rw [← ea]; exact hB w' (hS'.sub (List.sublist_append_right _ _))) hx)) rfl ?_
   refine WL.alloc rfl zero_59 (.none rfl) rfl rfl ?_
   intro g7 hg7
   refine WL.storeW rfl rfl rfl rfl many_59 rfl rfl (.none rfl) rfl <| WL.nt <| WC.seq <| WC.seq <| WC.region <| WL.v (v_move rfl rfl) rfl <| WL.v (v_loadN rfl rfl many_59 rfl allAt) rfl <| WL.call rfl rfl ck_204 (.none rfl) rfl rfl <| ?_
   intro w hS
   refine Calls.then (HCon_c w ad c R x (hV.hds hS (fun e he => List.mem_cons_of_mem _ (List.mem_append_left _ he))) (by omega)) hS ?_
   generalize hb : inHs R x = bb
   cases bb
   ·
    refine WL.nt <| WC.cond_f rfl <| WC.skip <| WE.then_n <| WC.seq <| WC.seq <| WC.region <| WL.v (v_move rfl rfl) rfl <| WL.v (v_len_slice rfl rfl Tryz.underlying64) rfl <| ?_
    refine WL.test (v_eql rfl rfl rfl) (.none rfl) rfl rfl (fun h19 => ?_) (fun h19 => ?_)
    ·
     refine WL.nt <| WC.cond_t rfl <| WC.seq <| WC.region <| WL.v (v_assign rfl rfl) rfl <| WL.v (v_assign rfl rfl) rfl <| WL.nt <| WC.ret <| WE.then_ret <| WE.block_ret <| WE.then_ret <| WE.then_ret <| WE.block_ret <| WE.then_ret <| ?_
     refine WE.ret2 (P := Tryz.prog) (.inl rfl) Tryz.results192 rfl rfl ?_
     rw [hb, if_neg (by decide), if_pos (by omega)] at hg
     exact fun w' h => HdsPost.none hg.symm (h.sub (.cons _ (List.sublist_append_right _ _)))
    ·
     refine WL.nt <| WC.cond_f rfl <| WC.skip <| WE.then_n <| WC.region <| WL.v (v_move rfl rfl) rfl <| WL.v (v_loadN rfl rfl many_59 rfl allAt) rfl <| ?_
     refine WL.buildSlice rfl rfl Tryz.underlying64 sz_59 zero_59 rfl (by decide) rfl (.none rfl) rfl rfl ?_
     intro g22 hg22
     refine WL.to (L' := E ++ (.row g22 (hdL x) :: .row g7 (hdL x) :: L)) (fun w hS => hS.front [_, _]) ?_
     refine WL.appendL rfl rfl rfl Tryz.underlying64 Tryz.underlying64 sz_59 by_59 zero_59 rfl rfl hV (new := hdL x) (fun _ => ⟨g22, 0, rfl, fun w hS => allAt (g := g22) w hS⟩) rfl rfl (by omega) (.none rfl) rfl rfl ?_
     intro ad23 c23 E23 hV23 hr23
     refine WL.v (v_assign rfl rfl) rfl <| WL.nil <| WE.block_n <| WE.then_n <| WC.region <| ?_
     refine WL.v (v_add rfl rfl rfl (w_i64 (by omega) (by omega))) rfl ?_
     refine WL.v (v_move rfl rfl) rfl <| WL.nil <| ?_
     rw [hb, if_neg (by decide), if_neg (by omega)] at hg
     have hl9 : (R ++ [x]).length = R.length + 1 := (by rw [List.length_append]; rfl)
     exact WE.next (k + 1, R ++ [x], ad23, c23, E23) (by dsimp only; omega) ⟨by dsimp only; omega, by dsimp only; rw [hl9, ← hdsL_snoc]; exact hV23, by dsimp only; omega, hg⟩ (.int rfl (by dsimp only; omega) (.cons rfl (.cons rfl (.eq rfl (by dsimp only; rw [hl9]) .nil)))) (List.Sublist.append_left (.cons _ (.cons _ (.refl _))) _)
   ·
    refine WL.nt <| WC.cond_t rfl <| WC.exit <| WE.then_exit <| WE.block_hit <| WE.then_n <| WC.region <| ?_
    refine WL.v (v_add rfl rfl rfl (w_i64 (by omega) (by omega))) rfl ?_
    refine WL.v (v_move rfl rfl) rfl <| WL.nil <| ?_
    rw [hb, if_pos rfl] at hg
    exact WE.next (k + 1, R, ad, c, E) (by dsimp only; omega) ⟨by dsimp only; omega, hV, hR, hg⟩ (.int rfl (by dsimp only; omega) (.cons rfl (.cons rfl (.cons rfl .nil)))) (.cons _ (.refl _))
  ·
   refine WL.nt <| WC.seq <| WC.cond_f rfl <| WC.exit <| WE.then_exit <| WE.then_exit <| WE.block_hit <| WE.then_n <| WC.seq <| WC.region <| WL.v (v_move rfl rfl) rfl <| WL.v (v_assign rfl rfl) rfl <| WL.v (v_assign rfl rfl) rfl <| WL.nt <| ?_
   refine WC.ret <| WE.ret2 (P := Tryz.prog) (.inl rfl) Tryz.results192 rfl rfl <| ?_
   obtain rfl : k = Bs.length := (by omega)
   rw [List.drop_length, gatherT] at hg
   exact fun w' h => HdsPost.some hg.symm hV h
end Go.Proofs.YtkeonnnhogaggaaGreatDoor
/- Acts: the plain law. -/
namespace Go.Proofs.YtkeonnnhogaggaaGreatDoor
open Go.RowKit

theorem wthF_in {k : Nat} {n : Int} {H : Hd} (hH : H.In) (h0 : 0 ≤ n) (h1 : n ≤ fullI k) : (wthF k n H).In := by
  match k with
  | 0 => have e : fullI 0 = 255 := (by decide); exact { hH with port := (by show _ ∧ n ≤ _; refine ⟨?_, by omega⟩; show _ ≤ n; omega) }
  | 1 => exact { hH with src := ofB_byt n }
  | 2 => exact { hH with dst := ofB_byt n }
  | 3 => have e : fullI 3 = 65535 := (by decide); exact { hH with ty := (by show _ ∧ n ≤ _; refine ⟨?_, by omega⟩; show _ ≤ n; omega) }
  | 4 => have e : fullI 4 = 4294967295 := (by decide); exact { hH with sip := (by show 0 ≤ n ∧ n ≤ _; omega) }
  | 5 => have e : fullI 5 = 4294967295 := (by decide); exact { hH with dip := (by show 0 ≤ n ∧ n ≤ _; omega) }
  | 6 => have e : fullI 6 = 255 := (by decide); exact { hH with proto := (by show _ ∧ n ≤ _; refine ⟨?_, by omega⟩; show _ ≤ n; omega) }
  | 7 => have e : fullI 7 = 65535 := (by decide); exact { hH with sp := (by show _ ∧ n ≤ _; refine ⟨?_, by omega⟩; show _ ≤ n; omega) }
  | 8 => have e : fullI 8 = 65535 := (by decide); exact { hH with dp := (by show _ ∧ n ≤ _; refine ⟨?_, by omega⟩; show _ ≤ n; omega) }
  | _ + 9 => exact hH
/-! ### Two acts as one -/
/-! ### The order of acts -/
theorem cmpI_neg (x y : Int) : cmpI x y = -cmpI y x := by unfold cmpI; split <;> split <;> (try split) <;> omega
theorem cmpI_zero2 (x y : Int) : cmpI x y = 0 ↔ x = y := by unfold cmpI; split <;> (try split) <;> omega
theorem lexK_neg (f g : Nat → Int) : ∀ k, lexK f g k = -lexK g f k
  | 0 => rfl
  | k + 1 => by
    have ih := lexK_neg f g k
    show (if lexK f g k ≠ 0 then lexK f g k else cmpI (f k) (g k)) = -(if lexK g f k ≠ 0 then lexK g f k else cmpI (g k) (f k))
    by_cases h : lexK f g k = 0
    · rw [if_neg (by omega), if_neg (by omega)]; exact cmpI_neg _ _
    · rw [if_pos h, if_pos (by omega)]; exact ih
theorem lexK_zero (f g : Nat → Int) : ∀ k, lexK f g k = 0 ↔ ∀ i, i < k → f i = g i
  | 0 => ⟨fun _ i h => absurd h (Nat.not_lt_zero i), fun _ => rfl⟩
  | k + 1 => by
    have ih := lexK_zero f g k
    show (if lexK f g k ≠ 0 then lexK f g k else cmpI (f k) (g k)) = 0 ↔ _
    by_cases h : lexK f g k = 0
    · rw [if_neg (by omega), cmpI_zero2]
      refine ⟨fun e i hi => ?_, fun q => q k (by omega)⟩
      by_cases e2 : i = k
      · subst e2; exact e
      · exact ih.1 h i (by omega)
    · rw [if_pos h]
      exact ⟨fun q => absurd q h, fun q => ih.2 fun i hi => q i (by omega)⟩
end Go.Proofs.YtkeonnnhogaggaaGreatDoor
/- policy: run, par, seq. -/
namespace Go.Proofs.YtkeonnnhogaggaaGreatDoor
open Go.RowKit

/-- One stage of a sequence: what each header gives, gathered. -/
def seqStep (f : Hd → Option (List Hd)) : List Hd → List Hd → Option (List Hd)
  | [], nx => some nx
  | g :: gs, nx => (f g).bind fun out => (gatherT nx out).bind fun nx' => seqStep f gs nx'
mutual
/-- What a policy makes of a header, in the order in which it comes. -/
def runT : Nd → Hd → Option (List Hd)
  | .mk k f v _ _ _ kids, H =>
    if k = 12 then some [H]
    else if k = 13 then (if (holdsKs H kids).getD 0 false then some [H] else some [])
    else if k = 14 then some [wthF f.toNat v H]
    else if k = 15 then parKs kids H []
    else if k = 16 then seqKs kids [H]
    else if k = 17 then (if (holdsKs H kids).getD 0 false then nthKs kids 1 H else nthKs kids 2 H)
    else some []
def parKs : List Nd → Hd → List Hd → Option (List Hd)
  | [], _, all => some all
  | t :: ts, H, all => (runT t H).bind fun out => (gatherT all out).bind fun all' => parKs ts H all'
def seqKs : List Nd → List Hd → Option (List Hd)
  | [], all => some all
  | t :: ts, all => (seqStep (fun g => runT t g) all []).bind fun next => seqKs ts next
def nthKs : List Nd → Nat → Hd → Option (List Hd)
  | [], _, _ => none
  | t :: _, 0, H => runT t H
  | _ :: ts, i + 1, H => nthKs ts i H
end
theorem runT_eq (t : Nd) (H : Hd) : runT t H =
    if t.kind = 12 then some [H]
    else if t.kind = 13 then (if (t.kids.map (holdsT H)).getD 0 false then some [H] else some [])
    else if t.kind = 14 then some [wthF t.f.toNat t.val H]
    else if t.kind = 15 then parKs t.kids H []
    else if t.kind = 16 then seqKs t.kids [H]
    else if t.kind = 17 then (if (t.kids.map (holdsT H)).getD 0 false then nthKs t.kids 1 H else nthKs t.kids 2 H)
    else some [] := by
  cases t; rw [runT, holdsKs_map]; rfl
theorem nthKs_get : ∀ (ts : List Nd) (i : Nat) (u : Nd) (H : Hd), ts[i]? = some u → nthKs ts i H = runT u H
  | [], _, _, _, h => by simp at h
  | t :: ts, 0, u, H, h => by
    simp only [List.getElem?_cons_zero, Option.some.injEq] at h
    subst h; rw [nthKs]
  | t :: ts, i + 1, u, H, h => by
    rw [List.getElem?_cons_succ] at h
    rw [nthKs]; exact nthKs_get ts i u H h
/-- A list that may be carried on. -/
structure Good (Rs : List Hd) : Prop where
  len : Rs.length ≤ 64
  all : ∀ x ∈ Rs, x.In
theorem Good.nil : Good [] := ⟨by decide, fun x h => by cases h⟩
theorem Good.one {H : Hd} (h : H.In) : Good [H] := ⟨show 1 ≤ 64 by omega, fun x hx => by rw [List.mem_singleton.1 hx]; exact h⟩
theorem gatherT_good {As Bs Rs : List Hd} (hA : Good As) (hB : ∀ x ∈ Bs, x.In) (e : gatherT As Bs = some Rs) : Good Rs :=
  ⟨gatherT_len Bs As Rs hA.len e, fun x hx => (gatherT_mem Bs As Rs e x hx).elim (hA.all x) (hB x)⟩
theorem seqStep_good {f : Hd → Option (List Hd)} (hf : ∀ g, g.In → ∀ out, f g = some out → Good out) : ∀ (all nx R : List Hd), (∀ g ∈ all, g.In) → Good nx → seqStep f all nx = some R → Good R
  | [], nx, R, _, hn, e => by rw [seqStep] at e; cases e; exact hn
  | g :: gs, nx, R, ha, hn, e => by
    rw [seqStep] at e
    obtain ⟨out, h1, e⟩ := Option.bind_eq_some_iff.1 e
    obtain ⟨nx', h2, e⟩ := Option.bind_eq_some_iff.1 e
    exact seqStep_good hf gs nx' R (fun x hx => ha x (List.mem_cons_of_mem _ hx)) (gatherT_good hn (hf g (ha g (List.mem_cons_self ..)) out h1).all h2) e
/-- A Set's field and number are in their bounds. -/
theorem argE_set {t : Nd} (h : argE t = 0) (hk : t.kind = 14) : ∃ q : Nat, t.f = q ∧ q < 9 ∧ t.f.toNat = q ∧ t.val ≤ fullI q := by
  unfold argE at h
  rw [if_neg (by omega), if_pos hk] at h
  split at h
  · cases h
  · rename_i hh
    obtain ⟨q, e, hq, e2⟩ := isFld.nat (Classical.not_not.1 fun k => hh (.inl k))
    refine ⟨q, e, hq, e2, ?_⟩
    rw [← e2]
    exact Int.not_lt.1 fun k => hh (.inr (.inr (.inr k)))
mutual
theorem runT_good : ∀ (t : Nd) (pred : Bool) (H : Hd) (Rs : List Hd), okT pred t → t.In → H.In → runT t H = some Rs → Good Rs
  | .mk k f v m a c kids, pred, H, Rs, hk, hI, hH, e => by
    rw [runT] at e
    have hkids := hk.parts.2.2.2
    have hIk := hI.kids
    split at e
    · cases e; exact Good.one hH
    · split at e
      · split at e <;> (cases e; first | exact Good.one hH | exact Good.nil)
      · split at e
        · rename_i h14
          cases e
          obtain ⟨q, _, hq, e2, hv⟩ := argE_set hk.parts.2.1 h14
          have e3 : f.toNat = q := e2
          rw [e3]
          exact Good.one (wthF_in hH hI.nums.2.2.1.1 hv)
        · split at e
          · exact parKs_good k 0 kids H [] Rs hkids hIk hH Good.nil e
          · split at e
            · exact seqKs_good k 0 kids [H] Rs hkids hIk (Good.one hH) e
            · split at e
              · split at e
                · exact nthKs_good k 0 kids 1 H Rs hkids hIk hH e
                · exact nthKs_good k 0 kids 2 H Rs hkids hIk hH e
              · cases e; exact Good.nil
theorem parKs_good (k : Int) : ∀ (i : Nat) (ts : List Nd) (H : Hd) (all Rs : List Hd), okKs k i ts → KidsIn ts → H.In → Good all → parKs ts H all = some Rs → Good Rs
  | _, [], H, all, Rs, _, _, _, ha, e => by rw [parKs] at e; cases e; exact ha
  | i, t :: ts, H, all, Rs, hk, hI, hH, ha, e => by
    rw [parKs] at e
    unfold okKs at hk
    unfold KidsIn at hI
    obtain ⟨out, h1, e⟩ := Option.bind_eq_some_iff.1 e
    obtain ⟨all', h2, e⟩ := Option.bind_eq_some_iff.1 e
    exact parKs_good k (i + 1) ts H all' Rs hk.2 hI.2 hH (gatherT_good ha (runT_good t _ H out hk.1 hI.1 hH h1).all h2) e
theorem seqKs_good (k : Int) : ∀ (i : Nat) (ts : List Nd) (all Rs : List Hd), okKs k i ts → KidsIn ts → Good all → seqKs ts all = some Rs → Good Rs
  | _, [], all, Rs, _, _, ha, e => by rw [seqKs] at e; cases e; exact ha
  | i, t :: ts, all, Rs, hk, hI, ha, e => by
    rw [seqKs] at e
    unfold okKs at hk
    unfold KidsIn at hI
    obtain ⟨nx, h1, e⟩ := Option.bind_eq_some_iff.1 e
    exact seqKs_good k (i + 1) ts nx Rs hk.2 hI.2 (seqStep_good (fun g hg out ho => runT_good t _ g out hk.1 hI.1 hg ho) all [] nx ha.all Good.nil h1) e
theorem nthKs_good (k : Int) : ∀ (i : Nat) (ts : List Nd) (j : Nat) (H : Hd) (Rs : List Hd), okKs k i ts → KidsIn ts → H.In → nthKs ts j H = some Rs → Good Rs
  | _, [], j, H, Rs, _, _, _, e => by rw [nthKs] at e; cases e
  | i, t :: ts, 0, H, Rs, hk, hI, hH, e => by
    rw [nthKs] at e
    unfold okKs at hk
    unfold KidsIn at hI
    exact runT_good t _ H Rs hk.1 hI.1 hH e
  | i, t :: ts, j + 1, H, Rs, hk, hI, hH, e => by
    rw [nthKs] at e
    unfold okKs at hk
    unfold KidsIn at hI
    exact nthKs_good k (i + 1) ts j H Rs hk.2 hI.2 hH e
end
end Go.Proofs.YtkeonnnhogaggaaGreatDoor
/- policy: par and seq, walked. -/
namespace Go.Proofs.YtkeonnnhogaggaaGreatDoor
open Go.RowKit

/-- What is shown of run, up to a size. -/
def RunTo (p : Nat → Prop) (w0 : World) (N : Nat) : Prop := ∀ (t : Nd), SizeOf.sizeOf t ≤ N → ∀ (pred : Bool) (L : List Ent) (w : World) (H : Hd), okT pred t → t.In → (∀ w, St p w0 w L → t.At w) → H.In → St p w0 w L →
  Calls Tryz.prog 118 #[ndV t, .agg (hdCells H)] w (HdsPost p w0 L (runT t H))
theorem Nd.kidN {t u : Nd} {j N : Nat} (hN : SizeOf.sizeOf t ≤ N + 1) (h : t.kids[j]? = some u) : SizeOf.sizeOf u ≤ N := by
  have := Nd.kid_size h; omega
set_option maxHeartbeats 1000000 in
theorem par_c (p : Nat → Prop) (w0 : World) (N : Nat) (ih : RunTo p w0 N) (t : Nd) (hN : SizeOf.sizeOf t ≤ N + 1) (pred : Bool) (L : List Ent) (w1 : World) (H : Hd) (hk : okT pred t) (hI : t.In) (hAt : ∀ w, St p w0 w L → t.At w) (hH : H.In) (hS0 : St p w0 w1 L) :
    Calls Tryz.prog 158 #[ndV t, .agg (hdCells H)] w1 (HdsPost p w0 L (parKs t.kids H [])) := by
  have hlen := hI.nums.2.2.2.2
  refine enter Tryz.func158 rfl Tryz.ntmps158 rfl hS0 ?_
  refine WC.seq <| WC.region <| WL.box rfl rfl rfl (.none rfl) rfl rfl <| ?_
  intro g2 hg2
  refine WL.box rfl rfl rfl (.none rfl) rfl rfl ?_
  intro g3 hg3
  refine WL.v (v_assign rfl rfl) rfl <| WL.v (v_assign rfl rfl) rfl <| WL.nt <| WC.seq <| WC.region <| WL.v (v_assign rfl rfl) rfl <| WL.nt <| WC.seq <| WC.seq <| WC.region <| WL.v (v_fieldAddr0 rfl rfl fld_26_4) rfl <| WL.v (v_load1 rfl rfl one_24 (cellAt rfl)) rfl <| WL.v (v_len_slice rfl rfl Tryz.underlying24) rfl <| WL.v (v_move rfl rfl) rfl <| ?_
  refine WL.nt <| WC.block <| WC.loop (fun x : Nat × List Hd × Option Addr × Nat × List Ent => [(14, .int .i64 x.1), (13, .int .i64 t.kids.length), (12, .slice t.ad t.kids.length t.cap), (6, .slice x.2.2.1 x.2.1.length x.2.2.2.1), (3, .pointer (some ⟨g3, 0, none⟩))]) (fun x => x.2.2.2.2 ++ (.row g3 (hdL H) :: .row g2 (ndL t) :: L)) (fun x => x.1 ≤ t.kids.length ∧ Vec 19 x.2.2.1 x.2.1.length x.2.2.2.1 (hdsL x.2.1) x.2.2.2.2 ∧ Good x.2.1 ∧ parKs (t.kids.drop x.1) H x.2.1 = parKs t.kids H []) (fun x => t.kids.length - x.1) (0, [], none, 0, []) ⟨Nat.zero_le _, Vec.nil 19, Good.nil, rfl⟩ (.cons rfl (.cons rfl (.cons rfl (.cons rfl (.cons rfl .nil))))) (.refl _) <| ?_
  rintro ⟨k, R, ad, c, E⟩ ⟨hkk, hV, hR, hg⟩
  dsimp only at hkk hV hR hg
  dsimp only
  refine WC.seq <| WC.region <| ?_
  refine WL.test (v_lss rfl rfl rfl) (.none rfl) rfl rfl (fun h15 => ?_) (fun h15 => ?_)
  ·
   refine WL.nt <| WC.seq <| WC.cond_t rfl <| WC.skip <| WE.then_n <| WC.seq <| WC.block <| WC.seq <| WC.region <| ?_
   obtain ⟨u, hu⟩ : ∃ u, t.kids[k]? = some u := ⟨t.kids[k]'(by omega), List.getElem?_eq_getElem _⟩
   obtain ⟨b, o, ea, _⟩ := ((hAt _ hS0).kid hu).1
   have hdr : t.kids.drop k = u :: t.kids.drop (k + 1) := (by
     rw [List.drop_eq_getElem_cons (show k < t.kids.length by omega)]
     congr 1
     rw [List.getElem?_eq_getElem (show k < t.kids.length by omega)] at hu
     exact Option.some.inj hu)
   rw [hdr, parKs] at hg
   have hsub : ∀ {w}, St p w0 w (E ++ (.row g3 (hdL H) :: .row g2 (ndL t) :: L)) → St p w0 w L := (fun h => h.sub (List.sublist_append_of_sublist_right (.cons _ (.cons _ (.refl _)))))
   refine WL.v (v_indexAddr (b := b) (off := o) (lo := k) rfl (by show some (Value.slice t.ad _ _) = _; rw [ea]) rfl Tryz.underlying24 sz_26 rfl (by omega)) rfl ?_
   refine WL.v (v_loadN (cs := ndL u) rfl rfl many_26 rfl (fun w' hS' => (hAt w' (hsub hS')).kidAt hu ea)) rfl <| WL.alloc rfl zero_26 (.none rfl) rfl rfl <| ?_
   intro g8 hg8
   refine WL.storeW rfl rfl rfl rfl many_26 rfl rfl (.none rfl) rfl <| WL.nt <| WC.seq <| WC.region <| WL.v (v_loadN rfl rfl many_26 rfl allAt) rfl <| WL.v (v_loadN rfl rfl many_59 rfl allAt) rfl <| WL.call rfl rfl ck_118 (.none rfl) rfl rfl <| ?_
   intro w1 hS
   refine (ih u (Nd.kidN hN hu) _ (.row g8 (ndL u) :: (E ++ (.row g3 (hdL H) :: .row g2 (ndL t) :: L))) w1 H (hk.kid hu) (hI.kids.get _ _ _ hu) (fun w' hS' => ((hAt w' (hsub hS'.tail)).kid hu).2) hH hS).mono ?_
   rintro e w' ⟨Rs, ad', c', E', bb, rfl, hV', hS', hc⟩
   refine ⟨_, _, rfl, hS', ?_⟩
   refine WL.v (v_move rfl rfl) rfl <| WL.v (v_extract rfl rfl rfl) rfl <| WL.v (v_extract rfl rfl rfl) rfl <| ?_
   skip
   cases bb
   ·
    refine WL.v (v_assign rfl rfl) rfl <| WL.v (v_assign rfl rfl) rfl <| WL.nt <| WC.seq <| WC.seq <| WC.region <| WL.v (v_move rfl rfl) rfl <| WL.v (v_not rfl rfl rfl) rfl <| WL.nt <| WC.cond_t rfl <| WC.seq <| WC.region <| WL.v (v_assign rfl rfl) rfl <| WL.v (v_assign rfl rfl) rfl <| ?_
    refine WL.nt <| WC.ret <| WE.then_ret <| WE.block_ret <| WE.then_ret <| WE.then_ret <| WE.block_ret <| WE.then_ret <| WE.ret2 (P := Tryz.prog) (.inl rfl) Tryz.results158 rfl rfl <| ?_
    obtain ⟨_, hc⟩ : True ∧ runT u H = none := (by rcases hc with ⟨h, _⟩ | ⟨_, h, _⟩; cases h; exact ⟨trivial, h⟩)
    rw [hc, Option.bind_none] at hg
    exact fun w' h => HdsPost.none hg.symm (hsub (h.sub (List.sublist_append_of_sublist_right (.cons _ (.refl _)))))
   ·
    refine WL.v (v_assign rfl rfl) rfl <| WL.v (v_assign rfl rfl) rfl <| WL.nt <| WC.seq <| WC.seq <| WC.region <| WL.v (v_move rfl rfl) rfl <| WL.v (v_not rfl rfl rfl) rfl <| WL.nt <| WC.cond_f rfl <| WC.skip <| WE.then_n <| WC.seq <| WC.region <| ?_
    refine WL.v (v_move rfl rfl) rfl <| WL.v (v_move rfl rfl) rfl <| WL.call rfl rfl ck_192 (.none rfl) rfl rfl <| ?_
    intro w1 hS
    obtain ⟨_, hc⟩ : True ∧ runT u H = some Rs := (by rcases hc with ⟨_, h⟩ | ⟨h, _⟩; exact ⟨trivial, h⟩; cases h)
    have hgood := runT_good u _ H Rs (hk.kid hu) (hI.kids.get _ _ _ hu) hH hc
    rw [hc, Option.bind_some] at hg
    refine (gather_c p w0 w1 ((E' ++ [.row g8 (ndL u)]) ++ (.row g3 (hdL H) :: .row g2 (ndL t) :: L)) E R Rs ad ad' c c' hV (St.front (R := E) (E' ++ [.row g8 (ndL u)]) (by simpa [List.append_assoc] using hS)) (fun w hS => hV'.hds hS (fun e he => List.mem_append_left _ (List.mem_append_left _ he))) hR.len (by have := hgood.len; omega)).mono ?_
    rintro e w' ⟨R2, ad2, c2, E2, b2, rfl, hV2, hS', hc2⟩
    refine ⟨_, _, rfl, hS', ?_⟩
    refine WL.v (v_move rfl rfl) rfl <| WL.v (v_extract rfl rfl rfl) rfl <| WL.v (v_extract rfl rfl rfl) rfl <| ?_
    skip
    cases b2
    ·
     refine WL.v (v_assign rfl rfl) rfl <| WL.v (v_assign rfl rfl) rfl <| WL.nt <| WC.seq <| WC.region <| WL.v (v_move rfl rfl) rfl <| WL.v (v_not rfl rfl rfl) rfl <| WL.nt <| WC.cond_t rfl <| WC.seq <| WC.region <| WL.v (v_assign rfl rfl) rfl <| WL.v (v_assign rfl rfl) rfl <| WL.nt <| ?_
     refine WC.ret <| WE.block_ret <| WE.then_ret <| WE.then_ret <| WE.block_ret <| WE.then_ret <| WE.ret2 (P := Tryz.prog) (.inl rfl) Tryz.results158 rfl rfl <| ?_
     obtain ⟨_, hc2⟩ : True ∧ gatherT R Rs = none := (by rcases hc2 with ⟨h, _⟩ | ⟨_, h, _⟩; cases h; exact ⟨trivial, h⟩)
     rw [hc2, Option.bind_none] at hg
     exact fun w' h => HdsPost.none hg.symm (h.sub (List.sublist_append_of_sublist_right (List.sublist_append_of_sublist_right (.cons _ (.cons _ (.refl _))))))
    ·
     refine WL.v (v_assign rfl rfl) rfl <| WL.v (v_assign rfl rfl) rfl <| WL.nt <| WC.seq <| WC.region <| WL.v (v_move rfl rfl) rfl <| WL.v (v_not rfl rfl rfl) rfl <| WL.nt <| WC.cond_f rfl <| WC.skip <| WE.block_n <| WE.then_n <| WC.region <| ?_
     refine WL.v (v_add rfl rfl rfl (w_i64 (by omega) (by omega))) rfl ?_
     refine WL.v (v_move rfl rfl) rfl <| WL.nil <| ?_
     obtain ⟨_, hc2⟩ : True ∧ gatherT R Rs = some R2 := (by rcases hc2 with ⟨_, h⟩ | ⟨h, _⟩; exact ⟨trivial, h⟩; cases h)
     rw [hc2, Option.bind_some] at hg
     exact WE.next (k + 1, R2, ad2, c2, E2) (by dsimp only; omega) ⟨by dsimp only; omega, hV2, gatherT_good hR hgood.all hc2, hg⟩ (.int rfl (by dsimp only; omega) (.cons rfl (.cons rfl (.cons rfl (.cons rfl .nil))))) (List.Sublist.append_left (List.sublist_append_right _ _) _)
  ·
   refine WL.nt <| WC.seq <| WC.cond_f rfl <| WC.exit <| WE.then_exit <| WE.then_exit <| WE.block_hit <| WE.then_n <| WC.seq <| WC.region <| WL.v (v_move rfl rfl) rfl <| WL.v (v_assign rfl rfl) rfl <| WL.v (v_assign rfl rfl) rfl <| WL.nt <| ?_
   refine WC.ret <| WE.ret2 (P := Tryz.prog) (.inl rfl) Tryz.results158 rfl rfl <| ?_
   obtain rfl : k = t.kids.length := (by omega)
   rw [List.drop_length, parKs] at hg
   exact fun w' h => HdsPost.some hg.symm hV (h.sub (List.Sublist.append_left (.cons _ (.cons _ (.refl _))) _))
theorem Vec.adr {sz : Nat} {ad : Option Addr} {n c : Nat} {xs : List Value} {E : List Ent} (h : Vec sz ad n c xs E) (hn : 0 < n) : ∃ g, ad = some ⟨g, 0, none⟩ := by
  rcases h with ⟨_, h, _⟩ | ⟨g, cs, rfl, _⟩
  · omega
  · exact ⟨g, rfl⟩
theorem drop_cons {α : Type} {ts : List α} {k : Nat} {u : α} (hu : ts[k]? = some u) : ts.drop k = u :: ts.drop (k + 1) := by
  obtain ⟨hk, e⟩ := List.getElem?_eq_some_iff.1 hu
  rw [List.drop_eq_getElem_cons hk, e]
set_option maxHeartbeats 1000000 in
theorem seq_c (p : Nat → Prop) (w0 : World) (N : Nat) (ih : RunTo p w0 N) (t : Nd) (hN : SizeOf.sizeOf t ≤ N + 1) (pred : Bool) (L : List Ent) (w1 : World) (H : Hd) (hk : okT pred t) (hI : t.In) (hAt : ∀ w, St p w0 w L → t.At w) (hH : H.In) (hS0 : St p w0 w1 L) :
    Calls Tryz.prog 159 #[ndV t, .agg (hdCells H)] w1 (HdsPost p w0 L (seqKs t.kids [H])) := by
  have hlen := hI.nums.2.2.2.2
  refine enter Tryz.func159 rfl Tryz.ntmps159 rfl hS0 ?_
  refine WC.seq <| WC.region <| WL.box rfl rfl rfl (.none rfl) rfl rfl <| ?_
  intro g2 hg2
  refine WL.box rfl rfl rfl (.none rfl) rfl rfl ?_
  intro g3 hg3
  refine WL.v (v_assign rfl rfl) rfl <| WL.v (v_assign rfl rfl) rfl <| WL.nt <| WC.seq <| WC.region <| WL.v (v_loadN rfl rfl many_59 rfl allAt) rfl <| ?_
  refine WL.buildSlice rfl rfl Tryz.underlying64 sz_59 zero_59 rfl (by decide) rfl (.none rfl) rfl rfl ?_
  intro g15 hg15
  refine WL.v (v_assign rfl rfl) rfl <| WL.nt <| WC.seq <| WC.seq <| WC.region <| WL.v (v_fieldAddr0 rfl rfl fld_26_4) rfl <| WL.v (v_load1 rfl rfl one_24 (cellAt rfl)) rfl <| WL.v (v_len_slice rfl rfl Tryz.underlying24) rfl <| WL.v (v_move rfl rfl) rfl <| WL.nt <| WC.block <| WC.loop (fun x : Nat × List Hd × Option Addr × Nat × List Ent => [(19, .int .i64 x.1), (18, .int .i64 t.kids.length), (17, .slice t.ad t.kids.length t.cap), (6, .slice x.2.2.1 x.2.1.length x.2.2.2.1)]) (fun x => x.2.2.2.2 ++ (.row g3 (hdL H) :: .row g2 (ndL t) :: L)) (fun x => x.1 ≤ t.kids.length ∧ Vec 19 x.2.2.1 x.2.1.length x.2.2.2.1 (hdsL x.2.1) x.2.2.2.2 ∧ Good x.2.1 ∧ seqKs (t.kids.drop x.1) x.2.1 = seqKs t.kids [H]) (fun x => t.kids.length - x.1) (0, [H], some ⟨g15, 0, none⟩, 1, [.row g15 (hdL H)]) ⟨Nat.zero_le _, Vec.row rfl rfl (Nat.le_refl _), Good.one hH, rfl⟩ (.cons rfl (.cons rfl (.cons rfl (.cons rfl .nil)))) (.refl _) <| ?_
  rintro ⟨k, A, ad, c, E⟩ ⟨hkk, hV, hR, hg⟩
  dsimp only at hkk hV hR hg
  dsimp only
  have hsub : ∀ {w}, St p w0 w (E ++ (.row g3 (hdL H) :: .row g2 (ndL t) :: L)) → St p w0 w L := (fun h => h.sub (List.sublist_append_of_sublist_right (.cons _ (.cons _ (.refl _)))))
  refine WC.seq <| WC.region <| ?_
  refine WL.test (v_lss rfl rfl rfl) (.none rfl) rfl rfl (fun h20 => ?_) (fun h20 => ?_)
  ·
   refine WL.nt <| WC.seq <| WC.cond_t rfl <| WC.skip <| WE.then_n <| WC.seq <| WC.block <| WC.seq <| WC.region <| ?_
   obtain ⟨u, hu⟩ : ∃ u, t.kids[k]? = some u := ⟨t.kids[k]'(by omega), List.getElem?_eq_getElem _⟩
   obtain ⟨b, o, ea, _⟩ := ((hAt _ hS0).kid hu).1
   rw [drop_cons hu, seqKs] at hg
   refine WL.v (v_indexAddr (b := b) (off := o) (lo := k) rfl (by show some (Value.slice t.ad _ _) = _; rw [ea]) rfl Tryz.underlying24 sz_26 rfl (by omega)) rfl ?_
   refine WL.v (v_loadN (cs := ndL u) rfl rfl many_26 rfl (fun w' hS' => (hAt w' (hsub hS')).kidAt hu ea)) rfl <| WL.alloc rfl zero_26 (.none rfl) rfl rfl <| ?_
   intro g8 hg8
   refine WL.storeW rfl rfl rfl rfl many_26 rfl rfl (.none rfl) rfl <| WL.nt <| WC.seq <| WC.region <| WL.v (v_assign rfl rfl) rfl <| WL.nt <| WC.seq <| WC.seq <| WC.region <| WL.v (v_move rfl rfl) rfl <| WL.v (v_len_slice rfl rfl Tryz.underlying64) rfl <| WL.v (v_move rfl rfl) rfl <| WL.nt <| WC.block <| ?_
   refine WC.loop (fun x : Nat × List Hd × Option Addr × Nat × List Ent => [(25, .int .i64 x.1), (24, .int .i64 A.length), (23, .slice ad A.length c), (9, .slice x.2.2.1 x.2.1.length x.2.2.2.1), (8, .pointer (some ⟨g8, 0, none⟩)), (19, .int .i64 k), (18, .int .i64 t.kids.length), (17, .slice t.ad t.kids.length t.cap)]) (fun x => x.2.2.2.2 ++ (.row g8 (ndL u) :: (E ++ (.row g3 (hdL H) :: .row g2 (ndL t) :: L)))) (fun x => x.1 ≤ A.length ∧ Vec 19 x.2.2.1 x.2.1.length x.2.2.2.1 (hdsL x.2.1) x.2.2.2.2 ∧ Good x.2.1 ∧ seqStep (fun g => runT u g) (A.drop x.1) x.2.1 = seqStep (fun g => runT u g) A []) (fun x => A.length - x.1) (0, [], none, 0, []) ⟨Nat.zero_le _, Vec.nil 19, Good.nil, rfl⟩ (.cons rfl (.cons rfl (.cons rfl (.cons rfl (.cons rfl (.cons rfl (.cons rfl (.cons rfl .nil)))))))) (.refl _) ?_
   rintro ⟨j, X, ad1, c1, E1⟩ ⟨hj, hV1, hX, hs⟩
   dsimp only at hj hV1 hX hs
   dsimp only
   have hal := hR.len
   have hsub1 : ∀ {w}, St p w0 w (E1 ++ (.row g8 (ndL u) :: (E ++ (.row g3 (hdL H) :: .row g2 (ndL t) :: L)))) → St p w0 w L := (fun h => hsub (h.sub (List.sublist_append_of_sublist_right (.cons _ (.refl _)))))
   refine WC.seq <| WC.region <| ?_
   refine WL.test (v_lss rfl rfl rfl) (.none rfl) rfl rfl (fun h26 => ?_) (fun h26 => ?_)
   ·
    refine WL.nt <| WC.seq <| WC.cond_t rfl <| WC.skip <| WE.then_n <| WC.seq <| WC.block <| WC.seq <| WC.region <| ?_
    obtain ⟨g, hgg⟩ : ∃ g, A[j]? = some g := ⟨A[j]'(by omega), List.getElem?_eq_getElem _⟩
    obtain ⟨ga, ea2⟩ := hV.adr (by omega)
    have hgin := hR.all g (List.mem_of_getElem? hgg)
    rw [drop_cons hgg, seqStep] at hs
    refine WL.v (v_indexAddr (b := ga) (off := 0) (lo := j) rfl (by show some (Value.slice ad _ _) = _; rw [ea2]) rfl Tryz.underlying64 sz_59 rfl (by omega)) rfl ?_
    refine WL.v (v_loadN (cs := hdL g) rfl rfl many_59 rfl (fun w' hS' => HdsAt.at (by rw [← ea2]; exact hV.hds hS' (fun e he => List.mem_append_right _ (List.mem_cons_of_mem _ (List.mem_append_left _ he)))) hgg)) rfl ?_
    refine WL.alloc rfl zero_59 (.none rfl) rfl rfl ?_
    intro g11 hg11
    refine WL.storeW rfl rfl rfl rfl many_59 rfl rfl (.none rfl) rfl <| WL.nt <| WC.seq <| WC.region <| WL.v (v_loadN rfl rfl many_26 rfl allAt) rfl <| WL.v (v_loadN rfl rfl many_59 rfl allAt) rfl <| WL.call rfl rfl ck_118 (.none rfl) rfl rfl <| ?_
    intro w1 hS
    refine (ih u (Nd.kidN hN hu) _ (.row g11 (hdL g) :: (E1 ++ (.row g8 (ndL u) :: (E ++ (.row g3 (hdL H) :: .row g2 (ndL t) :: L))))) w1 g (hk.kid hu) (hI.kids.get _ _ _ hu) (fun w' hS' => ((hAt w' (hsub1 hS'.tail)).kid hu).2) hgin hS).mono ?_
    rintro e w' ⟨Rs, ad', c', E', bb, rfl, hV', hS', hc⟩
    refine ⟨_, _, rfl, hS', ?_⟩
    refine WL.v (v_move rfl rfl) rfl <| WL.v (v_extract rfl rfl rfl) rfl <| WL.v (v_extract rfl rfl rfl) rfl <| ?_
    skip
    cases bb
    ·
     refine WL.v (v_assign rfl rfl) rfl <| WL.v (v_assign rfl rfl) rfl <| WL.nt <| WC.seq <| WC.seq <| WC.region <| WL.v (v_move rfl rfl) rfl <| WL.v (v_not rfl rfl rfl) rfl <| WL.nt <| WC.cond_t rfl <| WC.seq <| WC.region <| WL.v (v_assign rfl rfl) rfl <| WL.v (v_assign rfl rfl) rfl <| ?_
     refine WL.nt <| WC.ret <| WE.then_ret <| WE.block_ret <| WE.then_ret <| WE.then_ret <| WE.block_ret <| WE.then_ret <| WE.block_ret <| WE.then_ret <| WE.then_ret <| WE.block_ret <| WE.then_ret <| WE.ret2 (P := Tryz.prog) (.inl rfl) Tryz.results159 rfl rfl <| ?_
     obtain ⟨_, hc⟩ : True ∧ runT u g = none := (by rcases hc with ⟨h, _⟩ | ⟨_, h, _⟩; cases h; exact ⟨trivial, h⟩)
     rw [hc, Option.bind_none] at hs
     rw [← hs, Option.bind_none] at hg
     exact fun w' h => HdsPost.none hg.symm (hsub1 (h.sub (List.sublist_append_of_sublist_right (.cons _ (.refl _)))))
    ·
     refine WL.v (v_assign rfl rfl) rfl <| WL.v (v_assign rfl rfl) rfl <| WL.nt <| WC.seq <| WC.seq <| WC.region <| WL.v (v_move rfl rfl) rfl <| WL.v (v_not rfl rfl rfl) rfl <| WL.nt <| WC.cond_f rfl <| WC.skip <| WE.then_n <| WC.seq <| WC.region <| ?_
     refine WL.v (v_move rfl rfl) rfl <| WL.v (v_move rfl rfl) rfl <| WL.call rfl rfl ck_192 (.none rfl) rfl rfl <| ?_
     intro w1 hS
     obtain ⟨_, hc⟩ : True ∧ runT u g = some Rs := (by rcases hc with ⟨_, h⟩ | ⟨h, _⟩; exact ⟨trivial, h⟩; cases h)
     have hgood := runT_good u _ g Rs (hk.kid hu) (hI.kids.get _ _ _ hu) hgin hc
     rw [hc, Option.bind_some] at hs
     refine (gather_c p w0 w1 ((E' ++ [.row g11 (hdL g)]) ++ (.row g8 (ndL u) :: (E ++ (.row g3 (hdL H) :: .row g2 (ndL t) :: L)))) E1 X Rs ad1 ad' c1 c' hV1 (St.front (R := E1) (E' ++ [.row g11 (hdL g)]) (by simpa [List.append_assoc] using hS)) (fun w hS => hV'.hds hS (fun e he => List.mem_append_left _ (List.mem_append_left _ he))) hX.len (by have := hgood.len; omega)).mono ?_
     rintro e w' ⟨R2, ad2, c2, E2, b2, rfl, hV2, hS', hc2⟩
     refine ⟨_, _, rfl, hS', ?_⟩
     refine WL.v (v_move rfl rfl) rfl <| WL.v (v_extract rfl rfl rfl) rfl <| WL.v (v_extract rfl rfl rfl) rfl <| ?_
     skip
     cases b2
     ·
      refine WL.v (v_assign rfl rfl) rfl <| WL.v (v_assign rfl rfl) rfl <| WL.nt <| WC.seq <| WC.region <| WL.v (v_move rfl rfl) rfl <| WL.v (v_not rfl rfl rfl) rfl <| WL.nt <| WC.cond_t rfl <| WC.seq <| WC.region <| WL.v (v_assign rfl rfl) rfl <| WL.v (v_assign rfl rfl) rfl <| WL.nt <| ?_
      refine WC.ret <| WE.block_ret <| WE.then_ret <| WE.then_ret <| WE.block_ret <| WE.then_ret <| WE.block_ret <| WE.then_ret <| WE.then_ret <| WE.block_ret <| WE.then_ret <| WE.ret2 (P := Tryz.prog) (.inl rfl) Tryz.results159 rfl rfl <| ?_
      obtain ⟨_, hc2⟩ : True ∧ gatherT X Rs = none := (by rcases hc2 with ⟨h, _⟩ | ⟨_, h, _⟩; cases h; exact ⟨trivial, h⟩)
      rw [hc2, Option.bind_none] at hs
      rw [← hs, Option.bind_none] at hg
      exact fun w' h => HdsPost.none hg.symm (hsub (h.sub (List.sublist_append_of_sublist_right (List.sublist_append_of_sublist_right (.cons _ (.refl _))))))
     ·
      refine WL.v (v_assign rfl rfl) rfl <| WL.v (v_assign rfl rfl) rfl <| WL.nt <| WC.seq <| WC.region <| WL.v (v_move rfl rfl) rfl <| WL.v (v_not rfl rfl rfl) rfl <| WL.nt <| WC.cond_f rfl <| WC.skip <| WE.block_n <| WE.then_n <| WC.region <| ?_
      refine WL.v (v_add rfl rfl rfl (w_i64 (by omega) (by omega))) rfl ?_
      refine WL.v (v_move rfl rfl) rfl <| WL.nil <| ?_
      obtain ⟨_, hc2⟩ : True ∧ gatherT X Rs = some R2 := (by rcases hc2 with ⟨_, h⟩ | ⟨h, _⟩; exact ⟨trivial, h⟩; cases h)
      rw [hc2, Option.bind_some] at hs
      exact WE.next (j + 1, R2, ad2, c2, E2) (by dsimp only; omega) ⟨by dsimp only; omega, hV2, gatherT_good hX hgood.all hc2, hs⟩ (.int rfl (by dsimp only; omega) (.cons rfl (.cons rfl (.cons rfl (.cons rfl (.cons rfl (.cons rfl (.cons rfl .nil)))))))) (List.Sublist.append_left (List.sublist_append_right _ _) _)
   ·
    refine WL.nt <| WC.seq <| WC.cond_f rfl <| WC.exit <| WE.then_exit <| WE.then_exit <| WE.block_hit <| WE.then_n <| WC.region <| WL.v (v_move rfl rfl) rfl <| WL.v (v_assign rfl rfl) rfl <| WL.nil <| WE.block_n <| WE.then_n <| ?_
    refine WC.region ?_
    refine WL.v (v_add rfl rfl rfl (w_i64 (by omega) (by omega))) rfl ?_
    refine WL.v (v_move rfl rfl) rfl <| WL.nil <| ?_
    obtain rfl : j = A.length := (by omega)
    rw [List.drop_length, seqStep] at hs
    rw [← hs, Option.bind_some] at hg
    exact WE.next (k + 1, X, ad1, c1, E1) (by dsimp only; omega) ⟨by dsimp only; omega, hV1, hX, hg⟩ (.int rfl (by dsimp only; omega) (.cons rfl (.cons rfl (.cons rfl .nil)))) (List.Sublist.append_left (.cons _ (List.sublist_append_right _ _)) _)
  ·
   refine WL.nt <| WC.seq <| WC.cond_f rfl <| WC.exit <| WE.then_exit <| WE.then_exit <| WE.block_hit <| WE.then_n <| WC.seq <| WC.region <| WL.v (v_move rfl rfl) rfl <| WL.v (v_assign rfl rfl) rfl <| WL.v (v_assign rfl rfl) rfl <| WL.nt <| ?_
   refine WC.ret <| WE.ret2 (P := Tryz.prog) (.inl rfl) Tryz.results159 rfl rfl <| ?_
   obtain rfl : k = t.kids.length := (by omega)
   rw [List.drop_length, seqKs] at hg
   exact fun w' h => HdsPost.some hg.symm hV (h.sub (List.Sublist.append_left (.cons _ (.cons _ (.refl _))) _))
end Go.Proofs.YtkeonnnhogaggaaGreatDoor
/- policy: run, Run. -/
namespace Go.Proofs.YtkeonnnhogaggaaGreatDoor
open Go.RowKit

set_option maxHeartbeats 2000000 in
theorem run_step (p : Nat → Prop) (hp : ∀ b, ¬ p b) (w0 : World) (hG : GW w0) (N : Nat) (ih : RunTo p w0 N) : RunTo p w0 (N + 1) := by
  intro t hN pred L w1 H hk hI hAt hH hS0
  have hlen := hI.nums.2.2.2.2
  obtain ⟨_, harg, hform, _⟩ := hk.parts
  have hfl := formE_le hform
  have l13 : t.kind = 13 → 1 ≤ t.kids.length := fun h => by have := hfl.1; rw [h, show leastK 13 = 1 by decide] at this; omega
  have l17 : t.kind = 17 → 3 ≤ t.kids.length := fun h => by have := hfl.1; rw [h, show leastK 17 = 3 by decide] at this; omega
  refine enter Tryz.func118 rfl Tryz.ntmps118 rfl hS0 ?_
  refine WC.seq <| WC.region <| WL.box rfl rfl rfl (.none rfl) rfl rfl <| ?_
  intro g2 hg2
  refine WL.box rfl rfl rfl (.none rfl) rfl rfl ?_
  intro g3 hg3
  refine WL.v (v_assign rfl rfl) rfl <| WL.v (v_assign rfl rfl) rfl <| WL.nt <| WC.seq <| WC.seq <| WC.region <| WL.v (v_fieldAddr0 rfl rfl fld_26_0) rfl <| WL.v (v_load1 rfl rfl one_3 (cellAt rfl)) rfl <| WL.nt <| WC.block <| WC.seq <| WC.region <| ?_
  refine WL.test (v_eql rfl rfl rfl) (.none rfl) rfl rfl (fun h11 => ?_) (fun h11 => ?_)
  ·
   refine WL.v (v_assign rfl rfl) rfl <| WL.nt <| WC.cond_t rfl <| WC.seq <| WC.region <| WL.v (v_loadN rfl rfl many_59 rfl allAt) rfl <| ?_
   refine WL.buildSlice rfl rfl Tryz.underlying64 sz_59 zero_59 rfl (by decide) rfl (.none rfl) rfl rfl ?_
   intro g13 hg13
   refine WL.v (v_assign rfl rfl) rfl <| WL.v (v_assign rfl rfl) rfl <| WL.nt <| WC.ret <| WE.block_ret <| WE.then_ret <| WE.ret2 (P := Tryz.prog) (.inl rfl) Tryz.results118 rfl rfl <| ?_
   exact fun w' h => HdsPost.some (Rs := [H]) (by rw [runT_eq, if_pos h11]) (Vec.row rfl rfl (Nat.le_refl _)) (h.sub (List.Sublist.append_left (.cons _ (.cons _ (.refl _))) [_]))
  ·
   refine WL.v (v_assign rfl rfl) rfl <| WL.nt <| WC.cond_f rfl <| WC.seq <| WC.region <| ?_
   refine WL.test (v_eql rfl rfl rfl) (.none rfl) rfl rfl (fun h15 => ?_) (fun h15 => ?_)
   ·
    refine WL.v (v_assign rfl rfl) rfl <| WL.nt <| WC.cond_t rfl <| WC.seq <| ?_
    refine WC.quiet mixed (by kernel_rfl) ?_
    refine WQ.val (v_fieldAddr0 rfl rfl fld_26_4) (.none rfl) rfl rfl <| WQ.val (v_load1 rfl rfl one_24 (cellAt rfl)) (.none rfl) rfl rfl <| ?_
    have hl := l13 h15
    obtain ⟨u, hu⟩ : ∃ u, t.kids[0]? = some u := ⟨t.kids[0]'(by omega), List.getElem?_eq_getElem _⟩
    obtain ⟨bu, ou, eau, _⟩ := ((hAt _ hS0).kid hu).1
    refine WQ.val (v_indexAddr (b := bu) (off := ou) (lo := 0) rfl (by show some (Value.slice t.ad _ _) = _; rw [eau]) rfl Tryz.underlying24 sz_26 rfl (by omega)) (.none rfl) rfl rfl ?_
    refine WQ.val (v_loadN (cs := ndL u) rfl rfl many_26 rfl (fun w' hS' => (hAt w' hS'.tail.tail).kidAt hu eau)) (.none rfl) rfl rfl <| WQ.val (v_loadN rfl rfl many_59 rfl allAt) (.none rfl) rfl rfl <| ?_
    refine WQ.call _ rfl rfl ck_157 (.none rfl) rfl rfl (fun w hS => Calls.still (holds_c H hH _ u (Nat.le_refl _) w (by have := hk.kid hu; rwa [show predK t.kind 0 = true by unfold predK; rw [decide_eq_true (by omega)]] at this) (hI.kids.get _ _ _ hu) ((hAt w hS.tail.tail).kid hu).2 (hG.keep (hp _) hS)) hS) ?_
    generalize hb21 : holdsT H u = bb0
    cases bb0
    ·
     refine WQ.nil <| WE.then_n <| WC.cond_f rfl <| WC.skip <| WE.block_n <| WE.then_n <| WC.seq <| WC.region <| WL.v (v_assign rfl rfl) rfl <| WL.v (v_assign rfl rfl) rfl <| WL.nt <| WC.ret <| WE.ret2 (P := Tryz.prog) (.inl rfl) Tryz.results118 rfl rfl <| ?_
     exact fun w' h => HdsPost.some (Rs := []) (by rw [runT_eq, if_neg h11, if_pos h15, List.getD_eq_getElem?_getD, List.getElem?_map, hu, Option.map_some, Option.getD_some, hb21, if_neg (by decide)]) (Vec.nil 19) (h.sub (.cons _ (.cons _ (.refl _))))
    ·
     refine WQ.nil <| WE.then_n <| WC.cond_t rfl <| WC.seq <| WC.region <| WL.v (v_loadN rfl rfl many_59 rfl allAt) rfl <| ?_
     refine WL.buildSlice rfl rfl Tryz.underlying64 sz_59 zero_59 rfl (by decide) rfl (.none rfl) rfl rfl ?_
     intro g23 hg23
     refine WL.v (v_assign rfl rfl) rfl <| WL.v (v_assign rfl rfl) rfl <| WL.nt <| WC.ret <| WE.block_ret <| WE.then_ret <| WE.ret2 (P := Tryz.prog) (.inl rfl) Tryz.results118 rfl rfl <| ?_
     exact fun w' h => HdsPost.some (Rs := [H]) (by rw [runT_eq, if_neg h11, if_pos h15, List.getD_eq_getElem?_getD, List.getElem?_map, hu, Option.map_some, Option.getD_some, hb21, if_pos rfl]) (Vec.row rfl rfl (Nat.le_refl _)) (h.sub (List.Sublist.append_left (.cons _ (.cons _ (.refl _))) [_]))
   ·
    refine WL.v (v_assign rfl rfl) rfl <| WL.nt <| WC.cond_f rfl <| WC.seq <| WC.region <| ?_
    refine WL.test (v_eql rfl rfl rfl) (.none rfl) rfl rfl (fun h25 => ?_) (fun h25 => ?_)
    ·
     refine WL.v (v_assign rfl rfl) rfl <| WL.nt <| WC.cond_t rfl <| WC.seq <| WC.region <| ?_
     obtain ⟨q, eq, hq9, eq2, hqv⟩ := argE_set harg h25
     refine WL.v (v_loadN rfl rfl many_59 rfl allAt) rfl <| WL.v (v_fieldAddr0 rfl rfl fld_26_1) rfl <| WL.v (v_load1 rfl rfl one_22 (cellAt rfl)) rfl <| WL.v (v_fieldAddr0 rfl rfl fld_26_2) rfl <| WL.v (v_load1 rfl rfl one_23 (cellAt rfl)) rfl <| WL.call rfl rfl ck_126 (.none rfl) rfl rfl <| ?_
     intro w hS
     refine Calls.then (by rw [eq]; exact With_c w H q hq9 t.val hI.nums.2.2.1.1 hqv (hG.keep (hp _) hS)) hS ?_
     refine WL.v (v_move rfl rfl) rfl <| WL.v (v_extract rfl rfl rfl) rfl <| WL.v (v_extract rfl rfl rfl) rfl <| WL.alloc rfl zero_59 (.none rfl) rfl rfl <| ?_
     intro g6 hg6
     refine WL.storeW rfl rfl rfl rfl many_59 rfl rfl (.none rfl) rfl <| WL.v (v_assign rfl rfl) rfl <| WL.nt <| WC.seq <| WC.region <| WL.v (v_move rfl rfl) rfl <| WL.v ((v_eql rfl rfl rfl).t (rfl)) rfl <| WL.nt <| WC.cond_t rfl <| WC.seq <| WC.region <| WL.v (v_loadN rfl rfl many_59 rfl allAt) rfl <| ?_
     refine WL.buildSlice rfl rfl Tryz.underlying64 sz_59 zero_59 rfl (by decide) rfl (.none rfl) rfl rfl ?_
     intro g38 hg38
     refine WL.v (v_assign rfl rfl) rfl <| WL.v (v_assign rfl rfl) rfl <| WL.nt <| WC.ret <| WE.block_ret <| WE.then_ret <| WE.ret2 (P := Tryz.prog) (.inl rfl) Tryz.results118 rfl rfl <| ?_
     exact fun w' h => HdsPost.some (Rs := [wthF q t.val H]) (by rw [runT_eq, if_neg h11, if_neg h15, if_pos h25, eq2]) (Vec.row rfl rfl (Nat.le_refl _)) (h.sub (List.Sublist.append_left (.cons _ (.cons _ (.cons _ (.refl _)))) [_]))
    ·
     refine WL.v (v_assign rfl rfl) rfl <| WL.nt <| WC.cond_f rfl <| WC.seq <| WC.region <| ?_
     refine WL.test (v_eql rfl rfl rfl) (.none rfl) rfl rfl (fun h40 => ?_) (fun h40 => ?_)
     ·
      refine WL.v (v_assign rfl rfl) rfl <| WL.nt <| WC.cond_t rfl <| WC.seq <| WC.region <| WL.v (v_loadN rfl rfl many_26 rfl allAt) rfl <| WL.v (v_loadN rfl rfl many_59 rfl allAt) rfl <| WL.call rfl rfl ck_158 (.none rfl) rfl rfl <| ?_
      intro w1 hS
      refine (par_c p w0 N ih t hN pred (.row g3 (hdL H) :: .row g2 (ndL t) :: L) w1 H hk hI (fun w' hS' => hAt w' hS'.tail.tail) hH hS).mono ?_
      rintro e w' ⟨Rs, ad, c, E, bb, rfl, hV, hS', hc⟩
      refine ⟨_, _, rfl, hS', ?_⟩
      refine WL.v (v_extract rfl rfl rfl) rfl <| WL.v (v_extract rfl rfl rfl) rfl <| WL.v (v_assign rfl rfl) rfl <| WL.v (v_assign rfl rfl) rfl <| WL.nt <| WC.ret <| WE.block_ret <| WE.then_ret <| WE.ret2 (P := Tryz.prog) (.inl rfl) Tryz.results118 rfl rfl <| ?_
      exact fun w' h => ⟨Rs, ad, c, E, bb, rfl, hV, h.sub (List.Sublist.append_left (.cons _ (.cons _ (.refl _))) _), by rw [runT_eq, if_neg h11, if_neg h15, if_neg h25, if_pos h40]; exact hc⟩
     ·
      refine WL.v (v_assign rfl rfl) rfl <| WL.nt <| WC.cond_f rfl <| WC.seq <| WC.region <| ?_
      refine WL.test (v_eql rfl rfl rfl) (.none rfl) rfl rfl (fun h47 => ?_) (fun h47 => ?_)
      ·
       refine WL.v (v_assign rfl rfl) rfl <| WL.nt <| WC.cond_t rfl <| WC.seq <| WC.region <| WL.v (v_loadN rfl rfl many_26 rfl allAt) rfl <| WL.v (v_loadN rfl rfl many_59 rfl allAt) rfl <| WL.call rfl rfl ck_159 (.none rfl) rfl rfl <| ?_
       intro w1 hS
       refine (seq_c p w0 N ih t hN pred (.row g3 (hdL H) :: .row g2 (ndL t) :: L) w1 H hk hI (fun w' hS' => hAt w' hS'.tail.tail) hH hS).mono ?_
       rintro e w' ⟨Rs, ad, c, E, bb, rfl, hV, hS', hc⟩
       refine ⟨_, _, rfl, hS', ?_⟩
       refine WL.v (v_extract rfl rfl rfl) rfl <| WL.v (v_extract rfl rfl rfl) rfl <| WL.v (v_assign rfl rfl) rfl <| WL.v (v_assign rfl rfl) rfl <| WL.nt <| WC.ret <| WE.block_ret <| WE.then_ret <| WE.ret2 (P := Tryz.prog) (.inl rfl) Tryz.results118 rfl rfl <| ?_
       exact fun w' h => ⟨Rs, ad, c, E, bb, rfl, hV, h.sub (List.Sublist.append_left (.cons _ (.cons _ (.refl _))) _), by rw [runT_eq, if_neg h11, if_neg h15, if_neg h25, if_neg h40, if_pos h47]; exact hc⟩
      ·
       refine WL.v (v_assign rfl rfl) rfl <| WL.nt <| WC.cond_f rfl <| WC.seq <| WC.region <| ?_
       refine WL.test (v_eql rfl rfl rfl) (.none rfl) rfl rfl (fun h54 => ?_) (fun h54 => ?_)
       ·
        refine WL.v (v_assign rfl rfl) rfl <| WL.nt <| WC.cond_t rfl <| WC.seq <| WC.seq <| ?_
        refine WC.quiet mixed (by kernel_rfl) ?_
        refine WQ.val (v_fieldAddr0 rfl rfl fld_26_4) (.none rfl) rfl rfl <| WQ.val (v_load1 rfl rfl one_24 (cellAt rfl)) (.none rfl) rfl rfl <| ?_
        have hl := l17 h54
        obtain ⟨u, hu⟩ : ∃ u, t.kids[0]? = some u := ⟨t.kids[0]'(by omega), List.getElem?_eq_getElem _⟩
        obtain ⟨bu, ou, eau, _⟩ := ((hAt _ hS0).kid hu).1
        obtain ⟨u1, hu1⟩ : ∃ u, t.kids[1]? = some u := ⟨t.kids[1]'(by omega), List.getElem?_eq_getElem _⟩
        obtain ⟨bu1, ou1, eau1, _⟩ := ((hAt _ hS0).kid hu1).1
        obtain ⟨u2, hu2⟩ : ∃ u, t.kids[2]? = some u := ⟨t.kids[2]'(by omega), List.getElem?_eq_getElem _⟩
        obtain ⟨bu2, ou2, eau2, _⟩ := ((hAt _ hS0).kid hu2).1
        refine WQ.val (v_indexAddr (b := bu) (off := ou) (lo := 0) rfl (by show some (Value.slice t.ad _ _) = _; rw [eau]) rfl Tryz.underlying24 sz_26 rfl (by omega)) (.none rfl) rfl rfl ?_
        refine WQ.val (v_loadN (cs := ndL u) rfl rfl many_26 rfl (fun w' hS' => (hAt w' hS'.tail.tail).kidAt hu eau)) (.none rfl) rfl rfl <| WQ.val (v_loadN rfl rfl many_59 rfl allAt) (.none rfl) rfl rfl <| ?_
        refine WQ.call _ rfl rfl ck_157 (.none rfl) rfl rfl (fun w hS => Calls.still (holds_c H hH _ u (Nat.le_refl _) w (by have := hk.kid hu; rwa [show predK t.kind 0 = true by unfold predK; rw [decide_eq_true (by omega)]] at this) (hI.kids.get _ _ _ hu) ((hAt w hS.tail.tail).kid hu).2 (hG.keep (hp _) hS)) hS) ?_
        generalize hb60 : holdsT H u = bb0
        cases bb0
        ·
         refine WQ.nil <| WE.then_n <| WC.cond_f rfl <| WC.skip <| WE.then_n <| WC.seq <| WC.orders mixed <| ?_
         refine WR.first (g := 9) [0] (by kernel_rfl) (by kernel_rfl) ?_
         refine WP.val (v_fieldAddr0 rfl rfl fld_26_4) (.none rfl) rfl rfl <| WP.nil <| ?_
         refine WR.read (g := 5) [1, 2, 3, 4] (by kernel_rfl) (by kernel_rfl) (by kernel_rfl) (by kernel_rfl) rfl ?_
         refine WQ.val (v_load1 rfl rfl one_24 (cellAt rfl)) (.none rfl) rfl rfl ?_
         refine WQ.val (v_indexAddr (b := bu2) (off := ou2) (lo := 2) rfl (by show some (Value.slice t.ad _ _) = _; rw [eau2]) rfl Tryz.underlying24 sz_26 rfl (by omega)) (.none rfl) rfl rfl ?_
         refine WQ.val (v_loadN (cs := ndL u2) rfl rfl many_26 rfl (fun w' hS' => (hAt w' hS'.tail.tail).kidAt hu2 eau2)) (.none rfl) rfl rfl <| WQ.val (v_loadN rfl rfl many_59 rfl allAt) (.none rfl) rfl rfl <| WQ.nilR <| ?_
         refine WR.ones (g := 4) [5] (by kernel_rfl) ?_
         refine WL.call rfl rfl ck_118 (.none rfl) rfl rfl ?_
         intro w1 hS
         refine (ih u2 (Nd.kidN hN hu2) _ (.row g3 (hdL H) :: .row g2 (ndL t) :: L) w1 H (hk.kid hu2) (hI.kids.get _ _ _ hu2) (fun w' hS' => ((hAt w' hS'.tail.tail).kid hu2).2) hH hS).mono ?_
         rintro e w' ⟨Rs, ad, c, E, bb, rfl, hV, hS', hc⟩
         refine ⟨_, _, rfl, hS', ?_⟩
         refine WL.nilR ?_
         refine WR.first (g := 0) [6, 7, 8, 9] (by kernel_rfl) (by kernel_rfl) ?_
         refine WP.val (v_extract rfl rfl rfl) (.none rfl) rfl rfl <| WP.val (v_extract rfl rfl rfl) (.none rfl) rfl rfl <| WP.val (v_assign rfl rfl) (.none rfl) rfl rfl <| WP.val (v_assign rfl rfl) (.none rfl) rfl rfl <| WP.nil <| ?_
         refine WR.done (by kernel_rfl) ?_
         refine WE.then_n <| WC.ret <| WE.block_ret <| WE.then_ret <| WE.ret2 (P := Tryz.prog) (.inl rfl) Tryz.results118 rfl rfl <| ?_
         exact fun w' h => ⟨Rs, ad, c, E, bb, rfl, hV, h.sub (List.Sublist.append_left (.cons _ (.cons _ (.refl _))) _), by rw [runT_eq, if_neg h11, if_neg h15, if_neg h25, if_neg h40, if_neg h47, if_pos h54, List.getD_eq_getElem?_getD, List.getElem?_map, hu, Option.map_some, Option.getD_some, hb60, if_neg (by decide), nthKs_get _ _ _ _ hu2]; exact hc⟩
        ·
         refine WQ.nil <| WE.then_n <| WC.cond_t rfl <| WC.seq <| WC.orders mixed <| ?_
         refine WR.first (g := 9) [0] (by kernel_rfl) (by kernel_rfl) ?_
         refine WP.val (v_fieldAddr0 rfl rfl fld_26_4) (.none rfl) rfl rfl <| WP.nil <| ?_
         refine WR.read (g := 5) [1, 2, 3, 4] (by kernel_rfl) (by kernel_rfl) (by kernel_rfl) (by kernel_rfl) rfl ?_
         refine WQ.val (v_load1 rfl rfl one_24 (cellAt rfl)) (.none rfl) rfl rfl ?_
         refine WQ.val (v_indexAddr (b := bu1) (off := ou1) (lo := 1) rfl (by show some (Value.slice t.ad _ _) = _; rw [eau1]) rfl Tryz.underlying24 sz_26 rfl (by omega)) (.none rfl) rfl rfl ?_
         refine WQ.val (v_loadN (cs := ndL u1) rfl rfl many_26 rfl (fun w' hS' => (hAt w' hS'.tail.tail).kidAt hu1 eau1)) (.none rfl) rfl rfl <| WQ.val (v_loadN rfl rfl many_59 rfl allAt) (.none rfl) rfl rfl <| WQ.nilR <| ?_
         refine WR.ones (g := 4) [5] (by kernel_rfl) ?_
         refine WL.call rfl rfl ck_118 (.none rfl) rfl rfl ?_
         intro w1 hS
         refine (ih u1 (Nd.kidN hN hu1) _ (.row g3 (hdL H) :: .row g2 (ndL t) :: L) w1 H (hk.kid hu1) (hI.kids.get _ _ _ hu1) (fun w' hS' => ((hAt w' hS'.tail.tail).kid hu1).2) hH hS).mono ?_
         rintro e w' ⟨Rs, ad, c, E, bb, rfl, hV, hS', hc⟩
         refine ⟨_, _, rfl, hS', ?_⟩
         refine WL.nilR ?_
         refine WR.first (g := 0) [6, 7, 8, 9] (by kernel_rfl) (by kernel_rfl) ?_
         refine WP.val (v_extract rfl rfl rfl) (.none rfl) rfl rfl <| WP.val (v_extract rfl rfl rfl) (.none rfl) rfl rfl <| WP.val (v_assign rfl rfl) (.none rfl) rfl rfl <| WP.val (v_assign rfl rfl) (.none rfl) rfl rfl <| WP.nil <| ?_
         refine WR.done (by kernel_rfl) ?_
         refine WE.then_n <| WC.ret <| WE.then_ret <| WE.block_ret <| WE.then_ret <| WE.ret2 (P := Tryz.prog) (.inl rfl) Tryz.results118 rfl rfl <| ?_
         exact fun w' h => ⟨Rs, ad, c, E, bb, rfl, hV, h.sub (List.Sublist.append_left (.cons _ (.cons _ (.refl _))) _), by rw [runT_eq, if_neg h11, if_neg h15, if_neg h25, if_neg h40, if_neg h47, if_pos h54, List.getD_eq_getElem?_getD, List.getElem?_map, hu, Option.map_some, Option.getD_some, hb60, if_pos rfl, nthKs_get _ _ _ _ hu1]; exact hc⟩
       ·
        refine WL.v (v_assign rfl rfl) rfl <| WL.nt <| WC.cond_f rfl <| WC.skip <| WE.block_n <| WE.then_n <| WC.seq <| WC.region <| WL.v (v_assign rfl rfl) rfl <| WL.v (v_assign rfl rfl) rfl <| WL.nt <| WC.ret <| WE.ret2 (P := Tryz.prog) (.inl rfl) Tryz.results118 rfl rfl <| ?_
        exact fun w' h => HdsPost.some (Rs := []) (by rw [runT_eq, if_neg h11, if_neg h15, if_neg h25, if_neg h40, if_neg h47, if_neg h54]) (Vec.nil 19) (h.sub (.cons _ (.cons _ (.refl _))))
theorem run_c (p : Nat → Prop) (hp : ∀ b, ¬ p b) (w0 : World) (hG : GW w0) : ∀ N, RunTo p w0 N
  | 0 => fun t hN => by cases t; simp only [Nd.mk.sizeOf_spec] at hN; omega
  | N + 1 => run_step p hp w0 hG N (run_c p hp w0 hG N)
end Go.Proofs.YtkeonnnhogaggaaGreatDoor
/- The sort of headers: its order; its worlds as mine. -/
namespace Go.Proofs.YtkeonnnhogaggaaGreatDoor
open Go.RowKit Go.Sort

/-! ### The order -/
theorem hcmp_lex (A B : Hd) : ∀ k, hcmpK A B k = lexK (getF A) (getF B) k
  | 0 => rfl
  | k + 1 => by
    show (if hcmpK A B k ≠ 0 then hcmpK A B k else cmpI _ _) = (if lexK (getF A) (getF B) k ≠ 0 then lexK (getF A) (getF B) k else cmpI _ _)
    rw [hcmp_lex A B k]
theorem cmpI_lt (x y : Int) : cmpI x y < 0 ↔ x < y := by unfold cmpI; split <;> (try split) <;> omega
theorem lexK_lt (f g : Nat → Int) : ∀ k, lexK f g k < 0 ↔ ∃ i, i < k ∧ (∀ j, j < i → f j = g j) ∧ f i < g i
  | 0 => ⟨fun h => absurd h (by show ¬ (0 : Int) < 0; omega), fun ⟨i, h, _⟩ => absurd h (Nat.not_lt_zero i)⟩
  | k + 1 => by
    have ih := lexK_lt f g k
    have hz := lexK_zero f g k
    show (if lexK f g k ≠ 0 then lexK f g k else cmpI (f k) (g k)) < 0 ↔ _
    by_cases h : lexK f g k = 0
    · rw [if_neg (by omega), cmpI_lt]
      constructor
      · intro hl; exact ⟨k, by omega, hz.1 h, hl⟩
      · rintro ⟨i, hi, he, hl⟩
        by_cases e : i = k
        · subst e; exact hl
        · have := hz.1 h i (by omega); omega
    · rw [if_pos h, ih]
      constructor
      · rintro ⟨i, hi, he, hl⟩; exact ⟨i, by omega, he, hl⟩
      · rintro ⟨i, hi, he, hl⟩
        by_cases e : i = k
        · subst e; exact absurd (hz.2 he) h
        · exact ⟨i, by omega, he, hl⟩
theorem lex_trans {f g h : Nat → Int} {k : Nat} (h1 : lexK f g k < 0) (h2 : lexK g h k < 0) : lexK f h k < 0 := by
  obtain ⟨i, hi, he, hl⟩ := (lexK_lt f g k).1 h1
  obtain ⟨j, hj, he', hl'⟩ := (lexK_lt g h k).1 h2
  refine (lexK_lt f h k).2 ?_
  rcases Nat.lt_trichotomy i j with e | e | e
  · exact ⟨i, hi, fun q hq => (he q hq).trans (he' q (by omega)), by have := he' i e; omega⟩
  · subst e; exact ⟨i, hi, fun q hq => (he q hq).trans (he' q hq), by omega⟩
  · exact ⟨j, hj, fun q hq => (he q (by omega)).trans (he' q hq), by have := he j e; omega⟩
theorem lex_nlt {f g : Nat → Int} {k : Nat} : ¬ lexK f g k < 0 ↔ lexK g f k < 0 ∨ lexK f g k = 0 := by
  have := lexK_neg f g k
  omega
theorem lex_eqr {f g h : Nat → Int} {k : Nat} (h1 : lexK f g k = 0) : lexK f h k = lexK g h k := by
  have hz := (lexK_zero f g k).1 h1
  have key : ∀ m, m ≤ k → lexK f h m = lexK g h m := by
    intro m
    induction m with
    | zero => exact fun _ => rfl
    | succ m ih =>
      intro hm
      show (if lexK f h m ≠ 0 then lexK f h m else cmpI _ _) = (if lexK g h m ≠ 0 then lexK g h m else cmpI _ _)
      rw [ih (by omega), hz m (by omega)]
  exact key k (Nat.le_refl _)
theorem lex_eql {f g h : Nat → Int} {k : Nat} (h1 : lexK g h k = 0) : lexK f g k = lexK f h k := by
  have := lex_eqr (h := f) h1
  rw [lexK_neg f g, lexK_neg f h, this]
abbrev HdI := { H : Hd // H.In }
instance : Inhabited HdI := ⟨⟨Hd.zero, Hd.zero_in⟩⟩
def hcf (x y : HdI) : Int := hcmpK x.1 y.1 9
theorem hcf_swo : Go.Sort.SWO (ltOf hcf) := by
  constructor
  · intro x
    unfold ltOf hcf
    rw [hcmp_lex]
    exact decide_eq_false (by have := (lexK_zero (getF x.1) (getF x.1) 9).2 (fun _ _ => rfl); omega)
  · intro x y z h1 h2
    unfold ltOf hcf at *
    rw [hcmp_lex] at *
    exact decide_eq_true (lex_trans (of_decide_eq_true h1) (of_decide_eq_true h2))
  · intro x y z h1 h2
    unfold ltOf hcf at *
    rw [hcmp_lex] at *
    have a := lex_nlt.1 (of_decide_eq_false h1)
    have b := lex_nlt.1 (of_decide_eq_false h2)
    refine decide_eq_false (lex_nlt.2 ?_)
    rcases a with a | a
    · rcases b with b | b
      · exact .inl (lex_trans b a)
      · left
        have := lex_eql (f := getF z.1) (lexK_neg (getF y.1) (getF z.1) 9 ▸ b : lexK (getF y.1) (getF z.1) 9 = 0)
        have e := lex_eqr (h := getF x.1) b
        omega
    · rcases b with b | b
      · left
        have e := lex_eql (f := getF z.1) (g := getF x.1) (h := getF y.1) a
        omega
      · right
        rw [lex_eqr a]; exact b
/-! ### Worlds -/
theorem Frm.grown {w w' : World} (h : Frm (fun _ => False) w w') : ∃ q os', w' = Go.Sort.grow (w.drewN q) os' := by
  refine ⟨w'.drawn - w.drawn, (w'.heap.toList.drop w.heap.size).toArray, ?_⟩
  have h1 := h.drawn
  have hh : w'.heap = w.heap ++ (w'.heap.toList.drop w.heap.size).toArray := by
    apply Array.ext_getElem?
    intro k
    rw [Array.getElem?_append]
    split
    · rename_i hk; exact h.block k hk (fun h => h)
    · rename_i hk
      simp only [List.getElem?_toArray, List.getElem?_drop, Array.getElem?_toList]
      rw [show w.heap.size + (k - w.heap.size) = k by omega]
  have ext : ∀ a b : World, a.heap = b.heap → a.tape = b.tape → a.drawn = b.drawn → a.os = b.os → a.output = b.output → a = b := by
    rintro ⟨⟩ ⟨⟩ h1 h2 h3 h4 h5
    dsimp only at h1 h2 h3 h4 h5
    subst h1 h2 h3 h4 h5
    rfl
  exact ext _ _ hh h.tape (by show w'.drawn = w.drawn + (w'.drawn - w.drawn); omega) h.os h.output
def hEnc (x : HdI) : List Value := hdL x.1
theorem sortW_frm (w : World) (blk off m : Nat) (d : Array HdI) (os : Array Obj) : Frm (fun b => b = blk) w (sortWorldK hEnc 19 w blk off m d os) := by
  have hsz : (putRowK hEnc 19 (Go.Sort.ahead w m) blk off d).heap.size = w.heap.size := by unfold putRowK; rw [Go.Sort.size_putRow]; rfl
  refine ⟨rfl, rfl, rfl, ?_, ?_, Nat.le_add_right _ _⟩
  · show w.heap.size ≤ ((putRowK hEnc 19 (Go.Sort.ahead w m) blk off d).heap ++ os).size
    rw [Array.size_append, hsz]; omega
  · intro k hk hn
    show ((putRowK hEnc 19 (Go.Sort.ahead w m) blk off d).heap ++ os)[k]? = _
    rw [Array.getElem?_append_left (by rw [hsz]; exact hk)]
    show (w.heap.modify blk _)[k]? = _
    rw [Array.getElem?_modify, if_neg (fun e => hn e.symm)]
def srtL (d : Array HdI) (cs : List Value) : List Value := (Go.Sort.putCells id 0 (flatK hEnc 19 d) cs.toArray).toList
theorem srtL_len (d : Array HdI) (cs : List Value) : (srtL d cs).length = cs.length := by simp [srtL, Go.Sort.putCells]
theorem hEnc_len (x : HdI) : (hEnc x).length = 19 := rfl
theorem srtL_take (d : Array HdI) (cs : List Value) (h : d.size * 19 ≤ cs.length) : (srtL d cs).take (d.size * 19) = hdsL (d.toList.map (·.1)) := by
  have hl : (hdsL (d.toList.map (·.1))).length = d.size * 19 := by rw [hdsL_len, List.length_map, Array.length_toList]
  apply List.ext_getElem?
  intro t
  by_cases ht : t < d.size * 19
  · rw [List.getElem?_take, if_pos ht]
    have hq : t / 19 < d.size := by omega
    have hr : t % 19 < 19 := Nat.mod_lt _ (by omega)
    have e1 : (srtL d cs)[t]? = some ((hEnc d[t / 19]!)[t % 19]!) := by
      unfold srtL Go.Sort.putCells
      rw [Array.getElem?_toList, Array.getElem?_mapIdx]
      rw [show cs.toArray[t]? = some (cs[t]'(by omega)) by rw [List.getElem?_toArray]; exact List.getElem?_eq_getElem _]
      simp only [Option.map_some, size_flatK]
      rw [if_pos (by omega), Nat.sub_zero, get_flatK _ _ _ _ ht]
      rfl
    have e2 : (d.toList.map (·.1))[t / 19]? = some (d[t / 19]!).1 := by
      rw [List.getElem?_map, Array.getElem?_toList, Array.getElem?_eq_getElem hq, getElem!_pos d (t / 19) hq]; rfl
    have e3 := hdsL_seg _ _ _ e2
    have e4 : (hdL (d[t / 19]!).1)[t % 19]? = (hdsL (d.toList.map (·.1)))[t]? := by
      rw [← e3, List.getElem?_take, if_pos hr, List.getElem?_drop]
      congr 1
      omega
    rw [e1, ← e4]
    show some ((hdL (d[t / 19]!).1)[t % 19]!) = _
    rw [getElem!_pos (hdL (d[t / 19]!).1) (t % 19) (by rw [hdL_len]; exact hr)]
    exact (List.getElem?_eq_getElem _).symm
  · rw [List.getElem?_eq_none (by rw [List.length_take]; omega), List.getElem?_eq_none (by rw [hl]; omega)]
theorem sortW_row {w : World} {blk m : Nat} {cs : List Value} {d : Array HdI} {os : Array Obj} (h : Row w blk cs) : Row (sortWorldK hEnc 19 w blk 0 m d os) blk (srtL d cs) := by
  have hlt := h.lt
  obtain ⟨T, lo, hi, hb, hf⟩ := h
  refine ⟨T, lo, hi, ?_, by rw [srtL_len]; exact hf⟩
  have hsz : (putRowK hEnc 19 (Go.Sort.ahead w m) blk 0 d).heap.size = w.heap.size := by unfold putRowK; rw [Go.Sort.size_putRow]; rfl
  show ((putRowK hEnc 19 (Go.Sort.ahead w m) blk 0 d).heap ++ os)[blk]? = _
  rw [Array.getElem?_append_left (by rw [hsz]; exact hlt)]
  show (w.heap.modify blk _)[blk]? = _
  rw [Array.getElem?_modify, if_pos rfl, hb]
  rfl
theorem sortW_st {p : Nat → Prop} {w0 w : World} {blk m : Nat} {cs : List Value} {d : Array HdI} {os : Array Obj} {L : List Ent} (hS : St p w0 w (.row blk cs :: L)) : St p w0 (sortWorldK hEnc 19 w blk 0 m d os) (.row blk (srtL d cs) :: L) := by
  have hF := sortW_frm w blk 0 m d os
  have hR : Row w blk cs := hS.holds (.row blk cs) (by simp)
  have hm := hS.mine (.row blk cs) (by simp)
  refine ⟨⟨hF.os.trans hS.frm.os, hF.tape.trans hS.frm.tape, hF.output.trans hS.frm.output, Nat.le_trans hS.frm.size hF.size, fun k hk hn => ?_, Nat.le_trans hS.frm.drawn hF.drawn⟩, ?_, hS.dist, ?_⟩
  · have hne : ¬ k = blk := fun e => by
      subst e
      rcases hm with h | h
      · exact hn h
      · exact absurd hk (by show ¬ k < w0.heap.size; have : w0.heap.size ≤ k := h; omega)
    exact (hF.block k (Nat.lt_of_lt_of_le hk hS.frm.size) hne).trans (hS.frm.block k hk hn)
  · intro e he
    rcases List.mem_cons.1 he with rfl | he
    · exact sortW_row hR
    · have hh := hS.holds e (List.mem_cons_of_mem _ he)
      refine Ent.keep hh (hF.block _ (Ent.lt hh) fun e' => ?_)
      have hd := hS.dist
      simp only [List.map_cons, List.nodup_cons] at hd
      exact hd.1 (List.mem_map.2 ⟨e, he, e'⟩)
  · intro e he
    rcases List.mem_cons.1 he with rfl | he
    · exact hm
    · exact hS.mine e (List.mem_cons_of_mem _ he)
end Go.Proofs.YtkeonnnhogaggaaGreatDoor
/- The kit's laying SlLaysF0.n6 at this seat's functions. Printed by wip/tools/lays.py. -/
namespace Go.Proofs.YtkeonnnhogaggaaGreatDoor
open Go.RowKit Go.Shelf

def ren77 : Ren := ⟨fun n => match n with | 6 => 77 | 14 => 120 | 15 => 109 | 20 => 160 | 21 => 161 | 22 => 162 | 23 => 163 | 24 => 164 | 25 => 165 | 26 => 166 | 27 => 167 | 28 => 155 | 29 => 156 | 46 => 193 | 47 => 185 | 48 => 186 | 49 => 194 | 50 => 195 | 57 => 205 | n => n, fun n => match n with | 0 => 0 | 3 => 3 | 4 => 4 | 5 => 5 | 9 => 9 | 22 => 64 | 24 => 59 | 25 => 150 | 39 => 172 | 45 => 212 | 46 => 213 | 50 => 217 | 53 => 56 | 55 => 23 | 66 => 242 | 70 => 246 | 76 => 256 | 77 => 37 | n => n, fun n => n⟩
set_option maxRecDepth 100000 in
theorem lays77 : SlLaysF0.n6 Tryz.prog ren77 where
  mixed := mixed
  f6 := ⟨Tryz.f77.name, by decide, Tryz.func77.trans (congrArg some (by kernel_rfl))⟩
  f14 := ⟨Tryz.f120.name, by decide, Tryz.func120.trans (congrArg some (by kernel_rfl))⟩
  f15 := Tryz.func109.trans (congrArg some (by kernel_rfl))
  f20 := ⟨Tryz.f160.name, by decide, Tryz.func160.trans (congrArg some (by kernel_rfl))⟩
  f21 := ⟨Tryz.f161.name, by decide, Tryz.func161.trans (congrArg some (by kernel_rfl))⟩
  f22 := ⟨Tryz.f162.name, by decide, Tryz.func162.trans (congrArg some (by kernel_rfl))⟩
  f23 := ⟨Tryz.f163.name, by decide, Tryz.func163.trans (congrArg some (by kernel_rfl))⟩
  f24 := ⟨Tryz.f164.name, by decide, Tryz.func164.trans (congrArg some (by kernel_rfl))⟩
  f25 := ⟨Tryz.f165.name, by decide, Tryz.func165.trans (congrArg some (by kernel_rfl))⟩
  f26 := ⟨Tryz.f166.name, by decide, Tryz.func166.trans (congrArg some (by kernel_rfl))⟩
  f27 := ⟨Tryz.f167.name, by decide, Tryz.func167.trans (congrArg some (by kernel_rfl))⟩
  f28 := Tryz.func155.trans (congrArg some (by kernel_rfl))
  f29 := Tryz.func156.trans (congrArg some (by kernel_rfl))
  f46 := ⟨Tryz.f193.name, by decide, Tryz.func193.trans (congrArg some (by kernel_rfl))⟩
  f47 := Tryz.func185.trans (congrArg some (by kernel_rfl))
  f48 := Tryz.func186.trans (congrArg some (by kernel_rfl))
  f49 := ⟨Tryz.f194.name, by decide, Tryz.func194.trans (congrArg some (by kernel_rfl))⟩
  f50 := ⟨Tryz.f195.name, by decide, Tryz.func195.trans (congrArg some (by kernel_rfl))⟩
  f57 := ⟨Tryz.f205.name, by decide, Tryz.func205.trans (congrArg some (by kernel_rfl))⟩
  t0 := Tryz.underlying0
  a0 := Tryz.isAgg0
  z0 := Tryz.sizeOf0
  v0 := Tryz.zeroValue0
  t3 := Tryz.underlying3
  a3 := Tryz.isAgg3
  z3 := Tryz.sizeOf3
  v3 := Tryz.zeroValue3
  t4 := Tryz.underlying4
  a4 := Tryz.isAgg4
  z4 := Tryz.sizeOf4
  v4 := Tryz.zeroValue4
  t5 := Tryz.underlying5
  a5 := Tryz.isAgg5
  z5 := Tryz.sizeOf5
  v5 := Tryz.zeroValue5
  t9 := Tryz.underlying9
  a9 := Tryz.isAgg9
  z9 := Tryz.sizeOf9
  v9 := Tryz.zeroValue9
  t22 := Tryz.underlying64
  a22 := Tryz.isAgg64
  z22 := Tryz.sizeOf64
  v22 := Tryz.zeroValue64
  t25 := Tryz.underlying150
  a25 := Tryz.isAgg150
  z25 := Tryz.sizeOf150
  v25 := Tryz.zeroValue150
  t39 := Tryz.underlying172
  a39 := Tryz.isAgg172
  z39 := Tryz.sizeOf172
  v39 := Tryz.zeroValue172
  t45 := Tryz.underlying212
  a45 := Tryz.isAgg212
  z45 := Tryz.sizeOf212
  v45 := Tryz.zeroValue212
  t46 := Tryz.underlying213
  a46 := Tryz.isAgg213
  z46 := Tryz.sizeOf213
  v46 := Tryz.zeroValue213
  t50 := Tryz.underlying217
  a50 := Tryz.isAgg217
  z50 := Tryz.sizeOf217
  v50 := Tryz.zeroValue217
  t53 := Tryz.underlying56
  a53 := Tryz.isAgg56
  z53 := Tryz.sizeOf56
  v53 := Tryz.zeroValue56
  t55 := Tryz.underlying23
  a55 := Tryz.isAgg23
  z55 := Tryz.sizeOf23
  v55 := Tryz.zeroValue23
  t66 := Tryz.underlying242
  a66 := Tryz.isAgg242
  z66 := Tryz.sizeOf242
  v66 := Tryz.zeroValue242
  t70 := Tryz.underlying246
  a70 := Tryz.isAgg246
  z70 := Tryz.sizeOf246
  v70 := Tryz.zeroValue246
  t76 := Tryz.underlying256
  a76 := Tryz.isAgg256
  z76 := Tryz.sizeOf256
  v76 := Tryz.zeroValue256
  t77 := Tryz.underlying37
  a77 := Tryz.isAgg37
  z77 := Tryz.sizeOf37
  v77 := Tryz.zeroValue37
end Go.Proofs.YtkeonnnhogaggaaGreatDoor
/- slices.SortFunc of headers, whatever their number. -/
namespace Go.Proofs.YtkeonnnhogaggaaGreatDoor
open Go.RowKit Go.Sort

theorem GW.frm {q : Nat → Prop} {w w' : World} (hF : Frm q w w') (hq : ¬ q 1) (h : GW w) : GW w' :=
  h.keep (L := []) hq ⟨hF, (fun _ h => by cases h), (by simp), (fun _ h => by cases h)⟩
theorem GW.lt {w : World} (h : GW w) : 1 < w.heap.size := by
  have h0 := h 0 (by omega)
  unfold World.cell? at h0
  rcases Nat.lt_or_ge 1 w.heap.size with h' | h'
  · exact h'
  · rw [Array.getElem?_eq_none h'] at h0; cases h0
theorem hflat_get (d : Array HdI) {t : Nat} (ht : t < d.size * 19) : (hdsL (d.toList.map (·.1)))[t]? = some ((hEnc d[t / 19]!)[t % 19]!) := by
  have hq : t / 19 < d.size := by omega
  have hr : t % 19 < 19 := Nat.mod_lt _ (by omega)
  have e2 : (d.toList.map (·.1))[t / 19]? = some (d[t / 19]!).1 := by
    rw [List.getElem?_map, Array.getElem?_toList, Array.getElem?_eq_getElem hq, getElem!_pos d (t / 19) hq]; rfl
  have e3 := hdsL_seg _ _ _ e2
  have e4 : (hdL (d[t / 19]!).1)[t % 19]? = (hdsL (d.toList.map (·.1)))[t]? := by
    rw [← e3, List.getElem?_take, if_pos hr, List.getElem?_drop]
    congr 1
    omega
  rw [← e4]
  show _ = some ((hdL (d[t / 19]!).1)[t % 19]!)
  rw [getElem!_pos (hdL (d[t / 19]!).1) (t % 19) (by rw [hdL_len]; exact hr)]
  exact List.getElem?_eq_getElem _
/-- Ascending: no later one is less than an earlier one. -/
def Asc (Rs : List Hd) : Prop := ∀ (i j : Nat) (A B : Hd), Rs[i]? = some A → Rs[j]? = some B → i < j → ¬ hcmpK B A 9 < 0
theorem sort_c (p : Nat → Prop) (hp : ∀ b, ¬ p b) (w0 w : World) (hG : GW w0) (L E : List Ent) (ad : Option Addr) (c : Nat) (Hs : List Hd) (hIn : ∀ x ∈ Hs, x.In) (hV : Vec 19 ad Hs.length c (hdsL Hs) E) (hS : St p w0 w (E ++ L)) (hlen : Hs.length < 4611686018427387904) :
    Calls Tryz.prog 77 #[.slice ad Hs.length c, .func (.func 78) #[] #[]] w fun e w' =>
      e = .returned (.tuple #[]) ∧ ∃ Rs E', Rs.Perm Hs ∧ Asc Rs ∧ Vec 19 ad Hs.length c (hdsL Rs) E' ∧ St p w0 w' (E' ++ L) := by
  rcases hV with ⟨ha, hn, hc, hx, hE⟩ | ⟨g, cs, rfl, rfl, hx, hcl, hk⟩
  · have e0 : Hs = [] := List.length_eq_zero_iff.1 hn
    subst e0
    refine (Sort_s w ad _ c _ (by show 0 ≤ 1; omega)).mono fun e w' h => ⟨h.1, [], E, .refl _, fun i j A B h => by simp at h, .inl ⟨ha, hn, hc, hx, hE⟩, hS.ext h.2⟩
  · have hS' : St p w0 w (.row g cs :: L) := hS
    have hR : Row w g cs := hS'.holds (.row g cs) (by simp)
    have hgw : GW w := hG.keep (hp _) hS'
    have hgne : ¬ 1 = g := fun e => by
      rcases hS'.mine (.row g cs) (by simp) with h | h
      · exact hp _ h
      · have := hG.lt; have : w0.heap.size ≤ g := h; omega
    have hd : ∃ d : Array HdI, d.toList.map (·.1) = Hs ∧ d.size = Hs.length := ⟨(Hs.attach.map fun x => (⟨x.1, hIn x.1 x.2⟩ : HdI)).toArray, by rw [List.map_map]; exact List.attach_map_subtype_val Hs, by simp⟩
    obtain ⟨d, hd1, hd2⟩ := hd
    have hcs : Hs.length * 19 ≤ cs.length := by rw [hcl]; exact Nat.mul_le_mul_right 19 hk
    have hcmp : CmpLays Tryz.prog 78 #[] hEnc 19 hcf g 0 d.size w := fun m os dk hs x y => by
      have h := HCmp_c (sortWorldK hEnc 19 w g 0 m dk os) x.1 y.1 x.2 y.2 (GW.frm (sortW_frm w g 0 m dk os) hgne hgw)
      exact h.mono fun e w' ⟨he, hF⟩ => ⟨he, hF.grown⟩
    have hH : HoldsK hEnc 19 w g 0 d := fun t ht => by
      rw [size_flatK] at ht
      have ht2 : t < cs.length := by rw [hd2] at ht; omega
      rw [Nat.zero_add]
      refine ⟨hR.cell ?_, hR.frozen ht2⟩
      show cs[t]? = some ((flatK hEnc 19 d)[t]!)
      rw [get_flatK _ _ _ _ ht, ← hflat_get d ht, hd1, ← hx, List.getElem?_take, if_pos (by rw [← hd2]; exact ht)]
    have key := AnyQ.slices_SortFunc (P := Tryz.prog) lays77 19 Tryz.isAgg59 Tryz.sizeOf59 hEnc hEnc_len (fun x v hv => by
      unfold hEnc hdL at hv
      simp only [List.mem_cons, List.not_mem_nil, or_false] at hv
      rcases hv with h | h | h | h | h | h | h | h | h | h | h | h | h | h | h | h | h | h | h <;> (subst h; rfl)) hcf hcf_swo 78 #[] g 0 c d w ck_78 hcmp hH hR.lt (by rw [hd2]; exact hlen)
    rw [hd2] at key
    refine key.mono ?_
    rintro e w' ⟨he, d', n, os, ⟨hs1, _, hperm⟩, hsort, rfl⟩
    have hd' : d'.size = Hs.length := by rw [hs1, hd2]
    rw [← hd2] at hperm
    have f1 : d'.extract 0 d.size = d' := by rw [← hs1]; simp
    have f2 : d.extract 0 d.size = d := by simp
    rw [f1, f2] at hperm
    have hrow := srtL_take d' cs (by rw [hd']; exact hcs)
    refine ⟨he, d'.toList.map (·.1), [.row g (srtL d' cs)], ?_, ?_, ?_, sortW_st hS'⟩
    · rw [← hd1]; exact hperm.map _
    · intro i j A B hi hj hij
      have li := (List.getElem?_eq_some_iff.1 hi).1
      have lj := (List.getElem?_eq_some_iff.1 hj).1
      rw [List.length_map, Array.length_toList] at li lj
      have h := hsort i j (Nat.zero_le _) hij (by rw [← hd']; exact lj)
      rw [List.getElem?_map, Array.getElem?_toList, Array.getElem?_eq_getElem li] at hi
      rw [List.getElem?_map, Array.getElem?_toList, Array.getElem?_eq_getElem lj] at hj
      rw [getElem!_pos d' i li, getElem!_pos d' j lj] at h
      have ea := Option.some.inj hi
      have eb := Option.some.inj hj
      subst ea eb
      exact of_decide_eq_false h
    · exact .inr ⟨g, srtL d' cs, rfl, rfl, by rw [← hd', hrow], by rw [srtL_len]; exact hcl, hk⟩
end Go.Proofs.YtkeonnnhogaggaaGreatDoor
/- policy: Run; Fwd; the law's own par, seq, filter. -/
namespace Go.Proofs.YtkeonnnhogaggaaGreatDoor
open Go.RowKit

/-- What Run hands back. -/
def RunIs (t : Nd) (H : Hd) (Rs : List Hd) (er : Int) : Prop :=
  if (walkT t 1 false 0).1 ≠ 0 then er = (walkT t 1 false 0).1 ∧ Rs = []
  else if H.okB = false then er = 1 ∧ Rs = []
  else match runT t H with
    | none => er = 34 ∧ Rs = []
    | some Qs => er = 0 ∧ Rs.Perm Qs ∧ Asc Rs
def RunPost (p : Nat → Prop) (w0 : World) (L : List Ent) (t : Nd) (H : Hd) (e : Ending) (w' : World) : Prop :=
  ∃ Rs ad c E er, e = .returned (.tuple #[.slice ad (List.length Rs) c, .int .i64 er]) ∧ Vec 19 ad (List.length Rs) c (hdsL Rs) E ∧ St p w0 w' (E ++ L) ∧ RunIs t H Rs er
set_option maxHeartbeats 1000000 in
theorem Run_c (p : Nat → Prop) (hp : ∀ b, ¬ p b) (w0 : World) (hG : GW w0) (L : List Ent) (w1 : World) (t : Nd) (H : Hd) (hI : t.In) (hAt : ∀ w, St p w0 w L → t.At w) (hH : H.In) (hS0 : St p w0 w1 L) :
    Calls Tryz.prog 73 #[ndV t, .agg (hdCells H)] w1 (RunPost p w0 L t H) := by
  refine enter Tryz.func73 rfl Tryz.ntmps73 rfl hS0 ?_
  refine WC.seq <| WC.region <| WL.box rfl rfl rfl (.none rfl) rfl rfl <| ?_
  intro g2 hg2
  refine WL.box rfl rfl rfl (.none rfl) rfl rfl ?_
  intro g3 hg3
  refine WL.v (v_assign rfl rfl) rfl <| WL.v (v_assign rfl rfl) rfl <| WL.nt <| WC.seq <| WC.seq <| WC.region <| WL.v (v_loadN rfl rfl many_26 rfl allAt) rfl <| WL.call rfl rfl ck_14 (.none rfl) rfl rfl <| ?_
  intro w hS
  refine Calls.then (Check_c w t hI (hAt w hS.tail.tail) (hG.keep (hp _) hS)) hS ?_
  refine WL.v (v_assign rfl rfl) rfl <| WL.nt <| WC.seq <| WC.region <| WL.v (v_move rfl rfl) rfl <| ?_
  refine WL.test (v_neq rfl rfl rfl) (.none rfl) rfl rfl (fun h13 => ?_) (fun h13 => ?_)
  ·
   refine WL.nt <| WC.cond_t rfl <| WC.seq <| WC.region <| WL.v (v_move rfl rfl) rfl <| WL.v (v_assign rfl rfl) rfl <| WL.v (v_assign rfl rfl) rfl <| WL.nt <| WC.ret <| WE.then_ret <| WE.ret2 (P := Tryz.prog) (.inl rfl) Tryz.results73 rfl rfl <| ?_
   exact fun w' h => ⟨[], none, 0, [], _, rfl, Vec.nil 19, h.tail.tail, by unfold RunIs; rw [if_pos h13]; exact ⟨rfl, rfl⟩⟩
  ·
   refine WL.nt <| WC.cond_f rfl <| WC.skip <| WE.then_n <| WC.seq <| WC.seq <| WC.region <| WL.v (v_loadN rfl rfl many_59 rfl allAt) rfl <| WL.call rfl rfl ck_33 (.none rfl) rfl rfl <| ?_
   intro w hS
   refine Calls.then (HCheck_c w H hH (hG.keep (hp _) hS)) hS ?_
   generalize hok : H.okB = okb
   cases okb
   ·
    refine WL.v (v_assign rfl rfl) rfl <| WL.nt <| WC.seq <| WC.region <| WL.v (v_move rfl rfl) rfl <| ?_
    refine WL.v ((v_neq rfl rfl rfl).t ((fun h => absurd h (by decide)))) rfl ?_
    refine WL.nt <| WC.cond_t rfl <| WC.seq <| WC.region <| WL.v (v_move rfl rfl) rfl <| WL.v (v_assign rfl rfl) rfl <| WL.v (v_assign rfl rfl) rfl <| WL.nt <| WC.ret <| WE.then_ret <| WE.ret2 (P := Tryz.prog) (.inl rfl) Tryz.results73 rfl rfl <| ?_
    exact fun w' h => ⟨[], none, 0, [], _, rfl, Vec.nil 19, h.tail.tail, by unfold RunIs; rw [if_neg h13, if_pos hok]; exact ⟨rfl, rfl⟩⟩
   ·
    refine WL.v (v_assign rfl rfl) rfl <| WL.nt <| WC.seq <| WC.region <| WL.v (v_move rfl rfl) rfl <| WL.v ((v_neq rfl rfl rfl).f (fun h => h rfl)) rfl <| WL.nt <| WC.cond_f rfl <| WC.skip <| WE.then_n <| WC.seq <| WC.region <| WL.v (v_loadN rfl rfl many_26 rfl allAt) rfl <| WL.v (v_loadN rfl rfl many_59 rfl allAt) rfl <| ?_
    refine WL.call rfl rfl ck_118 (.none rfl) rfl rfl ?_
    intro w1 hS
    refine (run_c p hp w0 hG _ t (Nat.le_refl _) false (.row g3 (hdL H) :: .row g2 (ndL t) :: L) w1 H (walkT_ok _ _ _ _ (Classical.not_not.1 h13)) hI (fun w' hS' => hAt w' hS'.tail.tail) hH hS).mono ?_
    rintro e w' ⟨Rs, ad, c, E, bb, rfl, hV, hS', hc⟩
    refine ⟨_, _, rfl, hS', ?_⟩
    refine WL.v (v_move rfl rfl) rfl <| WL.v (v_extract rfl rfl rfl) rfl <| WL.v (v_extract rfl rfl rfl) rfl <| ?_
    skip
    cases bb
    ·
     refine WL.v (v_assign rfl rfl) rfl <| WL.v (v_assign rfl rfl) rfl <| WL.nt <| WC.seq <| WC.seq <| WC.region <| WL.v (v_move rfl rfl) rfl <| WL.v (v_not rfl rfl rfl) rfl <| WL.nt <| WC.cond_t rfl <| WC.seq <| WC.region <| WL.v (v_assign rfl rfl) rfl <| WL.v (v_assign rfl rfl) rfl <| ?_
     refine WL.nt <| WC.ret <| WE.then_ret <| WE.ret2 (P := Tryz.prog) (.inl rfl) Tryz.results73 rfl rfl <| ?_
     obtain ⟨_, hc⟩ : True ∧ runT t H = none := (by rcases hc with ⟨h, _⟩ | ⟨_, h, _⟩; cases h; exact ⟨trivial, h⟩)
     exact fun w' h => ⟨[], none, 0, [], _, rfl, Vec.nil 19, h.sub (List.sublist_append_of_sublist_right (.cons _ (.cons _ (.refl _)))), by unfold RunIs; rw [if_neg h13, if_neg (by rw [hok]; decide), hc]; exact ⟨rfl, rfl⟩⟩
    ·
     refine WL.v (v_assign rfl rfl) rfl <| WL.v (v_assign rfl rfl) rfl <| WL.nt <| WC.seq <| WC.seq <| WC.region <| WL.v (v_move rfl rfl) rfl <| WL.v (v_not rfl rfl rfl) rfl <| WL.nt <| WC.cond_f rfl <| WC.skip <| WE.then_n <| WC.seq <| WC.region <| ?_
     refine WL.v (v_move rfl rfl) rfl <| WL.call rfl rfl ck_77 (.none rfl) rfl rfl <| ?_
     intro w1 hS
     obtain ⟨_, hc⟩ : True ∧ runT t H = some Rs := (by rcases hc with ⟨_, h⟩ | ⟨h, _⟩; exact ⟨trivial, h⟩; cases h)
     have hgood := runT_good t false H Rs (walkT_ok _ _ _ _ (Classical.not_not.1 h13)) hI hH hc
     refine (sort_c p hp w0 w1 hG (.row g3 (hdL H) :: .row g2 (ndL t) :: L) E ad c Rs hgood.all hV hS (by have := hgood.len; omega)).mono ?_
     rintro e w' ⟨rfl, Ss, E', hperm, hasc, hV', hS'⟩
     refine ⟨_, _, rfl, hS', ?_⟩
     refine WL.nt <| WC.seq <| WC.region <| WL.v (v_move rfl rfl) rfl <| WL.v (v_assign rfl rfl) rfl <| WL.v (v_assign rfl rfl) rfl <| WL.nt <| WC.ret <| WE.ret2 (P := Tryz.prog) (.inl rfl) Tryz.results73 rfl rfl <| ?_
     exact fun w' h => ⟨Ss, ad, c, E', _, by rw [hperm.length_eq], by rw [hperm.length_eq]; exact hV', h.sub (List.Sublist.append_left (.cons _ (.cons _ (.refl _))) _), by unfold RunIs; rw [if_neg h13, if_neg (by rw [hok]; decide), hc]; exact ⟨rfl, hperm, hasc⟩⟩
/-- The node that sends to a port. -/
def fwdN (v : Int) : Nd := .mk 14 0 v 0 none 0 []
theorem Fwd_c (w : World) (port : Int) :
    Calls Tryz.prog 36 #[.int .i64 port] w fun e w' => e = .returned (ndV (fwdN (port % 256))) ∧ Frm (fun _ => False) w w' := by
  refine enter Tryz.func36 rfl Tryz.ntmps36 rfl (St.start (fun _ => False) w) ?_
  refine WC.seq <| WC.region <| WL.alloc rfl zero_26 (.none rfl) rfl rfl <| ?_
  intro g2 hg2
  refine WL.nt <| WC.seq <| WC.region <| WL.v (v_move rfl rfl) rfl <| WL.v (v_conv rfl rfl Tryz.underlying23 Tryz.underlying3 (w_u64m _)) rfl <| ?_
  refine WL.v (v_and rfl rfl rfl (mask_u64 (i := 8) (m := 256) (by decide) (by decide) (by decide) (by omega) (by omega))) rfl ?_
  refine WL.v (v_build rfl rfl zero_26 plc_26 rfl) rfl <| WL.storeW rfl rfl rfl rfl many_26 rfl rfl (.none rfl) rfl <| WL.nt <| WC.ret <| WE.ret1 (P := Tryz.prog) (.inl rfl) Tryz.results36 (resRow rfl many_26 rfl) <| ?_
  exact fun w' h => ⟨by rw [show port % 18446744073709551616 % 256 = port % 256 by omega]; rfl, h.frm⟩
end Go.Proofs.YtkeonnnhogaggaaGreatDoor
/- policy: the document's example of layer 16. -/
namespace Go.Proofs.YtkeonnnhogaggaaGreatDoor
open Go.RowKit

theorem Nd.In_mk {k f v m : Int} {a : Option Addr} {c : Nat} {kids : List Nd} (hk : -9223372036854775808 ≤ k ∧ k ≤ 9223372036854775807) (hf : -9223372036854775808 ≤ f ∧ f ≤ 9223372036854775807) (hv : 0 ≤ v ∧ v ≤ 18446744073709551615) (hm : 0 ≤ m ∧ m ≤ 18446744073709551615) (hl : kids.length ≤ 9223372036854775807) (hI : KidsIn kids) : (Nd.mk k f v m a c kids).In := by
  unfold Nd.In; exact ⟨hk, hf, hv, hm, hl, hI⟩
theorem KidsIn.nil : KidsIn [] := by unfold KidsIn; trivial
theorem KidsIn.cons {t : Nd} {ts : List Nd} (h : t.In) (hs : KidsIn ts) : KidsIn (t :: ts) := by unfold KidsIn; exact ⟨h, hs⟩
theorem fwdN_in {v : Int} (hv : 0 ≤ v ∧ v ≤ 18446744073709551615) : (fwdN v).In := Nd.In_mk (by omega) (by omega) hv (by omega) (by show 0 ≤ _; omega) KidsIn.nil
theorem Nd.At_leaf {w : World} {k f v m : Int} {a : Option Addr} {c : Nat} : (Nd.mk k f v m a c []).At w := by unfold Nd.At KidsAt; trivial
theorem Nd.At_one {w : World} {k f v m : Int} {g c : Nat} {t : Nd} (h : w.rangeAt g 0 (ndL t)) (ht : t.At w) : (Nd.mk k f v m (some ⟨g, 0, none⟩) c [t]).At w := by
  unfold Nd.At KidsAt KidsAt
  exact ⟨⟨g, 0, rfl, h⟩, ht, trivial⟩
theorem Nd.At_two {w : World} {k f v m : Int} {g c : Nat} {t u : Nd} (h : w.rangeAt g 0 (ndL t ++ ndL u)) (ht : t.At w) (hu : u.At w) : (Nd.mk k f v m (some ⟨g, 0, none⟩) c [t, u]).At w := by
  have h1 : w.rangeAt g 0 (ndL t) := fun j x hj => h j x (by rw [List.getElem?_append_left (List.getElem?_eq_some_iff.1 hj).1]; exact hj)
  have h2 : w.rangeAt g (0 + 1 * 5) (ndL u) := fun j x hj => by
    have := h (5 + j) x (by rw [List.getElem?_append_right (by show 5 ≤ 5 + j; omega)]; rw [show 5 + j - (ndL t).length = j by show 5 + j - 5 = j; omega]; exact hj)
    rwa [show 0 + 1 * 5 + j = 0 + (5 + j) by omega]
  unfold Nd.At KidsAt KidsAt KidsAt
  exact ⟨⟨g, 0, rfl, h1⟩, ht, ⟨g, 0, rfl, h2⟩, hu, trivial⟩
end Go.Proofs.YtkeonnnhogaggaaGreatDoor
/- policy: what a policy makes of a header, as a relation between the numbers of headers. -/
namespace Go.Proofs.YtkeonnnhogaggaaGreatDoor
open Go.RowKit

abbrev Ky := Nat → Int
mutual
def holdsG (h : Ky) : Nd → Bool
  | .mk k f v m _ _ kids => if k = 1 then true else if k = 3 then decide (andN (xorN (h f.toNat) v) m = 0) else if k = 4 then !(holdsGs h kids).getD 0 false else if k = 5 then (holdsGs h kids).all id else if k = 6 then (holdsGs h kids).any id else false
def holdsGs (h : Ky) : List Nd → List Bool
  | [] => []
  | t :: ts => holdsG h t :: holdsGs h ts
end
def updK (k : Nat) (v : Int) (h : Ky) : Ky := fun j => if j = k then v else h j
mutual
/-- g is among what a policy makes of h. -/
def OutT : Nd → Ky → Ky → Prop
  | .mk k f v _ _ _ kids, h, g =>
    if k = 12 then g = h
    else if k = 13 then (holdsGs h kids).getD 0 false = true ∧ g = h
    else if k = 14 then g = updK f.toNat v h
    else if k = 15 then OutPar kids h g
    else if k = 16 then OutSeq kids h g
    else if k = 17 then (if (holdsGs h kids).getD 0 false then OutNth kids 1 h g else OutNth kids 2 h g)
    else False
def OutPar : List Nd → Ky → Ky → Prop
  | [], _, _ => False
  | t :: ts, h, g => OutT t h g ∨ OutPar ts h g
def OutSeq : List Nd → Ky → Ky → Prop
  | [], h, g => g = h
  | t :: ts, h, g => ∃ m, OutT t h m ∧ OutSeq ts m g
def OutNth : List Nd → Nat → Ky → Ky → Prop
  | [], _, _, _ => False
  | t :: _, 0, h, g => OutT t h g
  | _ :: ts, i + 1, h, g => OutNth ts i h g
end
/-! ### Headers that are right -/
structure Hd.Rt (H : Hd) : Prop where
  isIn : H.In
  ok : H.okB = true
/-! ### Lists of headers -/
/-- A number list stands among headers. -/
def inK (Rs : List Hd) (g : Ky) : Prop := ∃ x ∈ Rs, getF x = g
/-- Right headers, each once. -/
structure Once (Rs : List Hd) : Prop where
  all : ∀ x ∈ Rs, x.Rt
  nd : (Rs.map getF).Nodup
/-! ### Sorted lists -/
def ltK (f g : Ky) : Prop := lexK f g 9 < 0
end Go.Proofs.YtkeonnnhogaggaaGreatDoor
