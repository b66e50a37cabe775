/- Texts joined: engine, contracts and laws, in the order in which they build. -/
import Derived.Shelf.SlSortCmp.InsertionK
import Derived.Shelf.SlLaysF0
import Derived.Shelf.SlSortCmp.WholeK
import Derived.Lib.MakeNoZero
import Derived.Shelf.SlSortCmp.NoneTotal
import Derived.Test.YtkeonnnhogaggaaGreatDoorBaFabricPuts
/- The engine: a region that draws its order, where one allocation may come up at any place among what only reads. -/
namespace Go.Proofs.YtkeonnnhogaggaaGreatDoor
open Go.RowKit

section
variable {P : Program} {ops : Array Oper} {md : Region.Mode} {I : World → Prop} {R : World → World → Prop}

/-- One value in every world of the class; R: the world got and the world handed back. -/
def YieldsR (P : Program) (ops : Array Oper) (I : World → Prop) (R : World → World → Prop) (o : Oper) (v : Value) (a : Act) : Prop :=
  (Region.wanted o (yielded ops a.tmps) = true ∧ ∀ w, I w → o.quietAt P a (R w) w v) ∨ (Region.wanted o (yielded ops a.tmps) = false ∧ v = undef)
theorem YieldsR.of_same {o : Oper} {v : Value} {a a' : Act} (hy : YieldsR P ops I R o v a) (he : execOp a'.eval o = execOp a.eval o)
    (hw : Region.wanted o (yielded ops a'.tmps) = Region.wanted o (yielded ops a.tmps)) : YieldsR P ops I R o v a' := by
  unfold YieldsR Oper.quietAt at *
  rw [he, hw]
  exact hy
def Yv (P : Program) (ops : Array Oper) (I : World → Prop) (R : World → World → Prop) (ps : List Nat) (i : Nat) (o : Oper) (v : Value) (a : Act) : Prop :=
  if i ∈ ps then Yields P ops o v a else YieldsR P ops I R o v a
theorem Yv.put {ps : List Nat} {i : Nat} {o : Oper} {v u : Value} {a : Act} {dst : Option Tmp} (hs : ∀ cs b, o.op ≠ .select cs b) (hd : ∀ d, dst = some d → d ∉ o.looksAt ops) :
    Yv P ops I R ps i o v (a.put dst u) ↔ Yv P ops I R ps i o v a := by
  have e1 := execOp_put o hs a dst u hd
  have e2 := wanted_put (ops := ops) o a dst u hd
  unfold Yv
  split
  · exact ⟨fun h => h.of_same e1.symm e2.symm, fun h => h.of_same e1 e2⟩
  · exact ⟨fun h => h.of_same e1.symm e2.symm, fun h => h.of_same e1 e2⟩
theorem wpOp_of_Yv {ps : List Nat} {i : Nat} {o : Oper} {v : Value} {a : Act} {w : World} {K : Act → World → Prop} {Q : Exit → Act → World → Prop} (ho : ops[i]? = some o) (hy : Yv P ops I R ps i o v a) (hI : I w)
    (hK : ∀ w', w' = w ∨ R w w' → K (a.put o.dst v) w') : wpOp P ops Q i K a w := by
  unfold Yv at hy
  split at hy
  · exact hy.wpOp ho (hK w (.inl rfl))
  · unfold wpOp
    simp only [ho]
    rcases hy with ⟨hw, hv⟩ | ⟨hw, rfl⟩
    · simp only [hw, if_true]
      refine .inl ?_
      have h3 := hv w hI
      unfold Oper.quietAt at h3
      unfold Oper.wp
      generalize (execOp a.eval o).run P w = r at *
      cases r with
      | ok n w' =>
        cases n <;> simp only [Oper.quietUpon] at h3 <;> simp only [Oper.upon]
        case value u =>
          obtain ⟨e1, e2⟩ := h3
          rw [e1, e2]
          exact hK _ (.inl rfl)
        case skip =>
          obtain ⟨e1, e2⟩ := h3
          rw [e1, ← e2]
          exact hK _ (.inl rfl)
        case enter f args =>
          obtain ⟨e1, hc⟩ := h3
          rw [e1]
          exact hc.mono fun e w'' ⟨he, hw''⟩ => by subst he; exact hK _ (.inr hw'')
      | halt x w' => simp only [Oper.quietUpon] at h3
    · simp only [hw, Bool.false_eq_true, if_false]; exact hK w (.inl rfl)

def HeadM (P : Program) (md : Region.Mode) (ops : Array Oper) (I : World → Prop) (R : World → World → Prop) (hs ps : List Nat) (Lq : Array Bool → Act → Prop) : Nat → Array Bool → Act → Prop
  | 0, listed, a => Lq listed a
  | f + 1, listed, a => (∃ i ∈ Region.ready md ops listed, i ∈ hs) ∧ ∀ i ∈ Region.ready md ops listed, i ∈ hs → ∃ o v, ops[i]? = some o ∧ Yv P ops I R ps i o v a ∧ HeadM P md ops I R hs ps Lq f (listed.setIfInBounds i true) (a.put o.dst v)
theorem HeadM_first {hs ps : List Nat} {i : Nat} {oi : Oper} {v : Value} {Lq : Array Bool → Act → Prop} (hi : ops[i]? = some oi) (hsel : ∀ (j : Nat) (o : Oper) cs b, ops[j]? = some o → o.op ≠ .select cs b)
    (hh : i ∈ hs) (hdone : ∀ listed a, Lq listed a → ∀ j ∈ hs, listed.getD j false = true) :
    ∀ (f : Nat) (listed : Array Bool) (a : Act),
      (∀ j oj, ops[j]? = some oj → j ≠ i → listed.getD j true = false → (∀ e ∈ oj.after, Region.binds md e = true → e.on ≠ i) → oi.apart ops oj = true) →
      i ∈ Region.ready md ops listed → Yv P ops I R ps i oi v a →
      HeadM P md ops I R hs ps Lq f (listed.setIfInBounds i true) (a.put oi.dst v) → HeadM P md ops I R hs ps Lq (f + 1) listed a := by
  intro f
  induction f with
  | zero =>
    intro listed a _ hr hy H
    refine ⟨⟨i, hr, hh⟩, fun j hj hjh => ?_⟩
    by_cases hji : j = i
    · subst hji; exact ⟨oi, v, hi, hy, H⟩
    · have h1 := hdone _ _ H j hjh
      rw [getD_set_ne false (Ne.symm hji)] at h1
      have := getD_both (mem_ready.1 hj).1
      rw [h1] at this; cases this
  | succ f ih =>
    intro listed a hfree hr hy H
    have hun := getD_both (mem_ready.1 hr).1
    refine ⟨⟨i, hr, hh⟩, fun j hj hjh => ?_⟩
    by_cases hji : j = i
    · subst hji; exact ⟨oi, v, hi, hy, H⟩
    · obtain ⟨oj', u, hoj', hyj, Hj⟩ := H.2 j (ready_mono hj hji) hjh
      obtain ⟨hjun, oj, hoj, hall⟩ := mem_ready.1 hj
      obtain rfl : oj' = oj := Option.some.inj (hoj'.symm.trans hoj)
      have hnot : ∀ e ∈ oj'.after, Region.binds md e = true → e.on ≠ i := fun e he hb heq => by
        have h1 := hall e he hb
        rw [heq, hun] at h1
        cases h1
      obtain ⟨h1, h2, h3⟩ := Oper.apart_spec (hfree j oj' hoj hji hjun hnot)
      have hfree' : ∀ k ok, ops[k]? = some ok → k ≠ i → (listed.setIfInBounds j true).getD k true = false →
          (∀ e ∈ ok.after, Region.binds md e = true → e.on ≠ i) → oi.apart ops ok = true := fun k ok hk hki hun hno => by
        refine hfree k ok hk hki ?_ hno
        by_cases hjk : j = k
        · subst hjk; exact hjun
        · rw [getD_set_ne true hjk] at hun; exact hun
      refine ⟨oj', u, hoj, (Yv.put (fun cs b => hsel j oj' cs b hoj) h1).1 hyj, ih _ _ hfree' (ready_mono hr (Ne.symm hji)) ((Yv.put (fun cs b => hsel i oi cs b hi) h3).2 hy) ?_⟩
      rw [Array.setIfInBounds_comm _ _ hji, ← Act.put_comm a v u h2]
      exact Hj
theorem HeadM_over {hs ps : List Nat} {k d : Nat} {u : Value} {Lq Lq' : Array Bool → Act → Prop} (hsel : ∀ (j : Nat) (o : Oper) cs b, ops[j]? = some o → o.op ≠ .select cs b) (hk : k ∉ hs)
    (hno : ∀ i ∈ hs, ∀ o, ops[i]? = some o → d ∉ o.looksAt ops ∧ o.dst ≠ some d ∧ ∀ e ∈ o.after, Region.binds md e = true → e.on ≠ k)
    (hL : ∀ listed a, Lq listed a → Lq' (listed.setIfInBounds k true) (a.put (some d) u)) :
    ∀ (f : Nat) (listed : Array Bool) (a : Act), HeadM P md ops I R hs ps Lq f listed a → HeadM P md ops I R hs ps Lq' f (listed.setIfInBounds k true) (a.put (some d) u)
  | 0, listed, a, H => hL _ _ H
  | f + 1, listed, a, ⟨⟨i, hr, hh⟩, H⟩ => by
    refine ⟨⟨i, ready_mono hr (fun e => hk (e ▸ hh)), hh⟩, fun j hj hjh => ?_⟩
    have hjk : k ≠ j := fun e => hk (e ▸ hjh)
    have hj' : j ∈ Region.ready md ops listed := by
      obtain ⟨h1, o, ho, hall⟩ := mem_ready.1 hj
      refine mem_ready.2 ⟨by rw [getD_set_ne true hjk] at h1; exact h1, o, ho, fun e he hb => ?_⟩
      have := hall e he hb
      rw [getD_set_ne false (Ne.symm ((hno j hjh o ho).2.2 e he hb))] at this
      exact this
    obtain ⟨o, v, ho, hy, hn⟩ := H j hj' hjh
    obtain ⟨n1, n2, _⟩ := hno j hjh o ho
    refine ⟨o, v, ho, (Yv.put (fun cs b => hsel j o cs b ho) (fun d' e => by cases e; exact n1)).2 hy, ?_⟩
    have := HeadM_over hsel hk hno hL f _ _ hn
    rw [Array.setIfInBounds_comm _ _ hjk, Act.put_comm a (x := some d) (y := o.dst) u v (fun d' e => by cases e; exact n2)]
    exact this

theorem Has.put_nil {n : Nat} {a : Act} (h : Has n a []) (dst : Option Nat) (v : Value) : Has n (a.put dst v) [] := by
  cases dst with
  | none => exact h
  | some d => exact ⟨by simp [Act.put, h.size], h.defers, fun t v hv => by cases hv⟩

/-! ### The checks -/
def sinkOne (md : Region.Mode) (ops : Array Oper) (hs : List Nat) (k : Nat) (listed : Array Bool) : Bool :=
  (List.range ops.size).all fun t => listed.getD t false || hs.contains t || t == k || waitsB md ops k ops.size t
def sinkHead (md : Region.Mode) (ops : Array Oper) (hs hs1 : List Nat) (listed : Array Bool) : Bool :=
  (List.range ops.size).all fun t => listed.getD t false || hs.contains t || hs1.all fun h => waitsB md ops h ops.size t
def overB (md : Region.Mode) (ops : Array Oper) (hs : List Nat) (k d : Nat) : Bool :=
  hs.all fun i => i != k && match ops[i]? with
    | some o => !(o.looksAt ops).contains d && o.dst != some d && o.after.all fun e => !Region.binds md e || e.on != k
    | none => true
theorem overB_spec {hs : List Nat} {k d : Nat} (h : overB md ops hs k d = true) : k ∉ hs ∧ ∀ i ∈ hs, ∀ o, ops[i]? = some o → d ∉ o.looksAt ops ∧ o.dst ≠ some d ∧ ∀ e ∈ o.after, Region.binds md e = true → e.on ≠ k := by
  have h1 := List.all_eq_true.1 h
  refine ⟨fun hk => ?_, fun i hi o ho => ?_⟩
  · have := h1 k hk
    simp at this
  · have := h1 i hi
    simp only [ho, Bool.and_eq_true, Bool.not_eq_true', bne_iff_ne, ne_eq] at this
    refine ⟨by simpa using this.2.1.1, this.2.1.2, fun e he hb => ?_⟩
    have h2 := Array.all_eq_true'.1 this.2.2 e he
    rw [hb] at h2
    simpa using h2
/-- What is pure may be taken ahead of all but what waits for it, when these are done. -/
def freeB (md : Region.Mode) (ops : Array Oper) (hs1 ps : List Nat) (listed : Array Bool) : Bool :=
  ps.all fun i => match ops[i]? with
    | some oi => (List.range ops.size).all fun j => j == i || listed.getD j false || hs1.contains j || match ops[j]? with
      | some oj => (oj.after.any fun e => Region.binds md e && e.on == i) || oi.apart ops oj
      | none => true
    | none => true

/-! ### The allocation is done -/
theorem any_of_B {hs1 ps : List Nat} {listed1 : Array Bool} {D : World → Prop} {g : Nat} {Q : Exit → Act → World → Prop} {Lq : Array Bool → Act → Prop} (hsel : Region.noSelect ops = true) (hDI : ∀ w, D w → I w) (hDR : ∀ w w', D w → R w w' → D w')
    (hsk : sinkHead md ops (hs1 ++ ps) hs1 listed1 = true) (hfr : freeB md ops hs1 ps listed1 = true)
    (hfin : ∀ listed a w, Inv md ops (hs1 ++ ps) listed1 listed → (∀ j, listed1.getD j false = true → listed.getD j false = true) → Lq listed a → D w → wpAny P md ops (NP Q) g listed a w) :
    ∀ (f : Nat) (listed : Array Bool) (a : Act) (w : World), Inv md ops (hs1 ++ ps) listed1 listed → (∀ j, listed1.getD j false = true → listed.getD j false = true) → D w → HeadM P md ops I R (hs1 ++ ps) ps Lq f listed a → wpAny P md ops (NP Q) (f + g) listed a w
  | 0, listed, a, w, inv, hm, hD, H => by rw [Nat.zero_add]; exact hfin _ _ _ inv hm H hD
  | f + 1, listed, a, w, inv, hm, hD, ⟨⟨i0, hr0, hh0⟩, H⟩ => by
    rw [show f + 1 + g = (f + g) + 1 by omega]
    by_cases hun : ∃ h ∈ hs1, listed.getD h false = false
    · obtain ⟨h, hh1, hun⟩ := hun
      refine ⟨fun h0 => (by rw [h0] at hr0; cases hr0), fun i hi => ?_⟩
      have hih : i ∈ hs1 ++ ps := by
        obtain ⟨hju, oj, hoj, _⟩ := mem_ready.1 hi
        have hlt := (Array.getElem?_eq_some_iff.1 hoj).1
        have h1 := List.all_eq_true.1 hsk i (List.mem_range.2 hlt)
        simp only [Bool.or_eq_true] at h1
        rcases h1 with (h1 | h1) | h1
        · have := hm i h1
          rw [getD_both hju] at this; cases this
        · simpa using h1
        · exact absurd hi (waits_spec inv.closed hun _ _ (List.all_eq_true.1 h1 h hh1)).2
      obtain ⟨o, v, ho, hy, hn⟩ := H i hi hih
      refine wpOp_of_Yv ho hy (hDI w hD) fun w' hw' => any_of_B hsel hDI hDR hsk hfr hfin f _ _ w' (inv.set hi hih) (fun j hj => getD_set_true (hm j hj)) ?_ hn
      rcases hw' with rfl | hw'
      · exact hD
      · exact hDR _ _ hD hw'
    · have hall : ∀ h ∈ hs1, listed.getD h false = true := fun h hh => by
        cases e : listed.getD h false with
        | true => rfl
        | false => exact absurd ⟨h, hh, e⟩ hun
      have hu0 := getD_both (mem_ready.1 hr0).1
      have hp : i0 ∈ ps := by
        rcases List.mem_append.1 hh0 with h | h
        · rw [hall i0 h] at hu0; cases hu0
        · exact h
      obtain ⟨o, v, ho, hy, hn⟩ := H i0 hr0 hh0
      unfold Yv at hy
      rw [if_pos hp] at hy
      refine wpAny_first ho (Region.noSelect_spec hsel) (fun c a w hh => hh) (f + g) listed a w ?_ hr0 hy (any_of_B hsel hDI hDR hsk hfr hfin f _ _ w (inv.set hr0 hh0) (fun j hj => getD_set_true (hm j hj)) hD hn)
      intro j oj hoj hji hju hno
      have hlt := (Array.getElem?_eq_some_iff.1 hoj).1
      have h1 := List.all_eq_true.1 hfr i0 hp
      simp only [ho] at h1
      have h2 := List.all_eq_true.1 h1 j (List.mem_range.2 hlt)
      simp only [hoj, Bool.or_eq_true, beq_iff_eq] at h2
      rcases h2 with ((h2 | h2) | h2) | h2
      · exact absurd h2 hji
      · have := hm j h2
        rw [getD_both hju] at this; cases this
      · have := hall j (by simpa using h2)
        rw [getD_both hju] at this; cases this
      · rcases h2 with h2 | h2
        · obtain ⟨e, he, hb⟩ := Array.any_eq_true'.1 h2
          simp only [Bool.and_eq_true, beq_iff_eq] at hb
          exact absurd hb.2 (hno e he hb.1)
        · exact h2
/-! ### The allocation is still to come -/
theorem any_of_A {hs1 ps : List Nat} {k d n : Nat} {ok : Oper} {listed0 : Array Bool} {D : Nat → World → Prop} {g : Nat} {Q : Exit → Act → World → Prop} {Lq : Array Bool → Act → Prop} {Lq' : Nat → Array Bool → Act → Prop}
    (hsel : Region.noSelect ops = true) (hsz0 : listed0.size = ops.size) (hI : ∀ w w', I w → R w w' → I w') (hDI : ∀ x w, D x w → I w) (hDR : ∀ x w w', D x w → R w w' → D x w')
    (hok : ops[k]? = some ok) (hov : overB md ops (hs1 ++ ps) k d = true) (hsa : sinkOne md ops (hs1 ++ ps) k listed0 = true)
    (hsk : sinkHead md ops (hs1 ++ ps) hs1 (listed0.setIfInBounds k true) = true) (hfr : freeB md ops hs1 ps (listed0.setIfInBounds k true) = true)
    (hal : ∀ (a : Act) (w : World) (K : Act → World → Prop), Has n a [] → I w → (∀ x w1, D x w1 → K (a.put (some d) (.pointer (some ⟨x, 0, none⟩))) w1) → wpOp P ops (NP Q) k K a w)
    (hdone : ∀ listed a, Lq listed a → ∀ j ∈ hs1 ++ ps, listed.getD j false = true)
    (hL : ∀ x listed a, Lq listed a → Lq' x (listed.setIfInBounds k true) (a.put (some d) (.pointer (some ⟨x, 0, none⟩))))
    (hfin : ∀ x listed a w, Inv md ops (hs1 ++ ps) (listed0.setIfInBounds k true) listed → (∀ j, (listed0.setIfInBounds k true).getD j false = true → listed.getD j false = true) → Lq' x listed a → D x w → wpAny P md ops (NP Q) g listed a w) :
    ∀ (f : Nat) (listed : Array Bool) (a : Act) (w : World), Inv md ops (hs1 ++ ps) listed0 listed → (∀ j, listed0.getD j false = true → listed.getD j false = true) → k ∈ Region.ready md ops listed → Has n a [] → I w → HeadM P md ops I R (hs1 ++ ps) ps Lq f listed a → wpAny P md ops (NP Q) (f + 1 + g) listed a w := by
  obtain ⟨hk, hno⟩ := overB_spec hov
  have only : ∀ listed : Array Bool, Inv md ops (hs1 ++ ps) listed0 listed → (∀ j, listed0.getD j false = true → listed.getD j false = true) → k ∈ Region.ready md ops listed → ∀ i ∈ Region.ready md ops listed, i ∈ hs1 ++ ps ∨ i = k := fun listed inv hm hkr i hi => by
    obtain ⟨hju, oj, hoj, _⟩ := mem_ready.1 hi
    have hlt := (Array.getElem?_eq_some_iff.1 hoj).1
    have h1 := List.all_eq_true.1 hsa i (List.mem_range.2 hlt)
    simp only [Bool.or_eq_true, beq_iff_eq] at h1
    rcases h1 with ((h1 | h1) | h1) | h1
    · have := hm i h1
      rw [getD_both hju] at this; cases this
    · exact .inl (by simpa using h1)
    · exact .inr h1
    · exact absurd hi (waits_spec inv.closed (getD_both (mem_ready.1 hkr).1) _ _ h1).2
  have inv1 : ∀ listed : Array Bool, Inv md ops (hs1 ++ ps) listed0 listed → k ∈ Region.ready md ops listed → (∀ j, listed0.getD j false = true → listed.getD j false = true) → Inv md ops (hs1 ++ ps) (listed0.setIfInBounds k true) (listed.setIfInBounds k true) ∧ (∀ j, (listed0.setIfInBounds k true).getD j false = true → (listed.setIfInBounds k true).getD j false = true) := fun listed inv hkr hm => by
    have hlt : k < listed.size := by
      have := (mem_ready.1 hkr).1
      rcases Nat.lt_or_ge k listed.size with h' | h'
      · exact h'
      · simp [Array.getElem?_eq_none h'] at this
    have hlt0 : k < listed0.size := by rw [hsz0, ← inv.size]; exact hlt
    have hset : ∀ j, (listed0.setIfInBounds k true).getD j false = true → (listed.setIfInBounds k true).getD j false = true := fun j hj => by
      by_cases hjk : k = j
      · subst hjk; simp [hlt]
      · rw [getD_set_ne false hjk] at hj ⊢; exact hm j hj
    refine ⟨⟨inv.closed.set hkr, fun j hj => ?_, by simp [inv.size]⟩, hset⟩
    by_cases hjk : k = j
    · subst hjk; exact .inl (by simp [hlt0])
    · rw [getD_set_ne false hjk] at hj
      rcases inv.only j hj with h2 | h2
      · exact .inl (getD_set_true h2)
      · exact .inr h2
  intro f
  induction f with
  | zero =>
    intro listed a w inv hm hkr ha hI' H
    rw [show 0 + 1 + g = g + 1 by omega]
    refine ⟨fun h0 => (by rw [h0] at hkr; cases hkr), fun i hi => ?_⟩
    rcases only listed inv hm hkr i hi with h | rfl
    · have h1 := hdone _ _ H i h
      have := getD_both (mem_ready.1 hi).1
      rw [h1] at this; cases this
    · exact hal a w _ ha hI' fun x w1 hD => hfin x _ _ _ (inv1 listed inv hkr hm).1 (inv1 listed inv hkr hm).2 (hL x _ _ H) hD
  | succ f ih =>
    intro listed a w inv hm hkr ha hI' H
    rw [show f + 1 + 1 + g = (f + 1 + g) + 1 by omega]
    refine ⟨fun h0 => (by rw [h0] at hkr; cases hkr), fun i hi => ?_⟩
    rcases only listed inv hm hkr i hi with h | rfl
    · obtain ⟨o, v, ho, hy, hn⟩ := H.2 i hi h
      refine wpOp_of_Yv ho hy hI' fun w' hw' => ih _ _ w' (inv.set hi h) (fun j hj => getD_set_true (hm j hj)) (ready_mono hkr (fun e => hk (e ▸ h))) (ha.put_nil _ _) ?_ hn
      rcases hw' with rfl | hw'
      · exact hI'
      · exact hI _ _ hI' hw'
    · refine hal a w _ ha hI' fun x w1 hD => ?_
      exact any_of_B hsel (hDI x) (hDR x) hsk hfr (hfin x) (f + 1) _ _ w1 (inv1 listed inv hkr hm).1 (inv1 listed inv hkr hm).2 hD (HeadM_over (Region.noSelect_spec hsel) hk hno (fun l a h => hL x l a h) (f + 1) _ _ H)

/-! ### From a list, and the steps -/
def mixL (P : Program) (I : World → Prop) (R : World → World → Prop) (ps : List Nat) (os : List Oper) (K : Act → Prop) : List Nat → Act → Prop
  | [], a => K a
  | i :: is, a => ∃ v, Yv P os.toArray I R ps i (at_ os i) v a ∧ mixL P I R ps os K is (a.put (at_ os i).dst v)
theorem mixL_append {ps : List Nat} {os : List Oper} {K : Act → Prop} {js2 : List Nat} : ∀ (js1 : List Nat) (a : Act), mixL P I R ps os (mixL P I R ps os K js2) js1 a → mixL P I R ps os K (js1 ++ js2) a
  | [], _, h => h
  | _ :: is, _, ⟨v, hy, h⟩ => ⟨v, hy, mixL_append is _ h⟩
theorem HeadM_list {os : List Oper} {hs ps : List Nat} {K : Act → Prop} (hsel : Region.noSelect os.toArray = true) :
    ∀ (js : List Nat) (listed : Array Bool) (a : Act), (∀ j ∈ js, j ∈ hs) → (∀ j ∈ hs, j ∈ js ∨ listed.getD j false = true) → takesB .any os.toArray js listed = true → mixL P I R ps os K js a →
    HeadM P .any os.toArray I R hs ps (fun listed' a' => (∀ j ∈ hs, listed'.getD j false = true) ∧ K a') js.length listed a
  | [], listed, a, _, hd, _, h => ⟨fun j hj => (hd j hj).resolve_left (by simp), h⟩
  | i :: is, listed, a, hj, hd, hB, h => by
    simp only [takesB, Bool.and_eq_true] at hB
    obtain ⟨⟨hr, hf⟩, hB'⟩ := hB
    have hr' : i ∈ Region.ready .any os.toArray listed := by simpa using hr
    have h0 := at_some hr'
    obtain ⟨v, hy, hK⟩ := h
    refine HeadM_first h0 (Region.noSelect_spec hsel) (hj i (by simp)) (fun _ _ h j hj => h.1 j hj) is.length listed a (Region.free_spec h0 hf) hr' hy ?_
    exact HeadM_list hsel is _ _ (fun j h => hj j (by simp [h])) (fun j h => by
      rcases hd j h with h1 | h1
      · rcases List.mem_cons.1 h1 with rfl | h1
        · right
          have hlt : j < listed.size := by
            have := (mem_ready.1 hr').1
            rcases Nat.lt_or_ge j listed.size with h' | h'
            · exact h'
            · simp [Array.getElem?_eq_none h'] at this
          simp [hlt]
        · exact .inl h1
      · exact .inr (getD_set_true h1)) hB' hK
def rqList (P : Program) (ops : Array Oper) (I : World → Prop) (R : World → World → Prop) (K : Act → Prop) : List Oper → Act → Prop
  | [], a => K a
  | o :: rest, a => ∃ v, YieldsR P ops I R o v a ∧ rqList P ops I R K rest (a.put o.dst v)
theorem mixL_reads {ps : List Nat} {os : List Oper} {K : Act → Prop} : ∀ (js : List Nat) (a : Act), (js.all fun j => !ps.contains j) = true → rqList P os.toArray I R K (js.map (at_ os)) a → mixL P I R ps os K js a
  | [], _, _, h => h
  | i :: is, a, hn, ⟨v, hy, h⟩ => by
    simp only [List.all_cons, Bool.and_eq_true, Bool.not_eq_true'] at hn
    have hi : i ∉ ps := by simpa using hn.1
    exact ⟨v, by unfold Yv; rw [if_neg hi]; exact hy, mixL_reads is _ hn.2 h⟩
theorem mixL_pure {ps : List Nat} {os : List Oper} {K : Act → Prop} : ∀ (js : List Nat) (a : Act), (∀ j ∈ js, j ∈ ps) → wpPure P os.toArray K (js.map (at_ os)) a → mixL P I R ps os K js a
  | [], _, _, h => h
  | i :: is, a, hn, ⟨v, hy, h⟩ => ⟨v, by unfold Yv; rw [if_pos (hn i (by simp))]; exact hy, mixL_pure is _ (fun j hj => hn j (by simp [hj])) h⟩
theorem mixL_mono {ps : List Nat} {os : List Oper} {K K' : Act → Prop} (hK : ∀ a, K a → K' a) : ∀ (js : List Nat) (a : Act), mixL P I R ps os K js a → mixL P I R ps os K' js a
  | [], _, h => hK _ h
  | _ :: is, _, ⟨v, hy, h⟩ => ⟨v, hy, mixL_mono hK is _ h⟩

variable {Q : Exit → Act → World → Prop} {n : Nat} {p : Nat → Prop} {w0 : World} {o : Oper} {rest os : List Oper} {l : Kn} {L : List Ent} {K : Act → Prop}
/-- The reads of such a region. -/
def WM (P : Program) (ops : Array Oper) (K : Act → Prop) (n : Nat) (p : Nat → Prop) (w0 : World) (rest : List Oper) (l : Kn) (L : List Ent) : Prop :=
  ∀ a, Has n a l → rqList P ops (fun w => St p w0 w L) (Frm (fun _ => False)) K rest a
theorem WM.val {d : Nat} {v : Value} (hv : Val P (fun w => St p w0 w L) n l o v) (hg : On ops o l) (hd : o.dst = some d) (hn : Nat.blt d n = true)
    (h : WM P ops K n p w0 rest ((d, v) :: l) L) : WM P ops K n p w0 (o :: rest) l L := fun a ha =>
  ⟨v, .inl ⟨hg.ok ha, fun w hS => by unfold Oper.quietAt; rw [hv a w ha hS]; exact ⟨rfl, rfl⟩⟩, h _ (ha.put_any hd hn v)⟩
theorem WM.callV {f : FuncId} {x : Operand} {xs : List Operand} {ts : Array TypeId} {vs : List Value} {fi cap : Array Value} {d : Nat} (v : Value) (ho : o.op = .call { callee := .value x, args := xs.toArray, argTypes := ts })
    (hfv : ev l x = some (.func (.func f) fi cap)) (hx : evs l xs = some vs) (hf : callOk P f) (hg : On ops o l) (hd : o.dst = some d) (hn : Nat.blt d n = true)
    (hc : ∀ w, St p w0 w L → Calls P f (fi ++ vs.toArray ++ cap) w fun e w' => e = .returned v ∧ Frm (fun _ => False) w w') (h : WM P ops K n p w0 rest ((d, v) :: l) L) : WM P ops K n p w0 (o :: rest) l L := fun a ha =>
  ⟨v, .inl ⟨hg.ok ha, fun w hS => by unfold Oper.quietAt; rw [run_call ho hfv hx hf ha]; exact ⟨rfl, hc w hS⟩⟩, h _ (ha.put_any hd hn v)⟩
theorem WM.call {f : FuncId} {xs : List Operand} {ts : Array TypeId} {vs : List Value} {d : Nat} (v : Value) (ho : o.op = .call { callee := .value (.func f), args := xs.toArray, argTypes := ts })
    (hx : evs l xs = some vs) (hf : callOk P f) (hg : On ops o l) (hd : o.dst = some d) (hn : Nat.blt d n = true)
    (hc : ∀ w, St p w0 w L → Calls P f vs.toArray w fun e w' => e = .returned v ∧ Frm (fun _ => False) w w') (h : WM P ops K n p w0 rest ((d, v) :: l) L) : WM P ops K n p w0 (o :: rest) l L :=
  WM.callV (l := l) v ho rfl hx hf hg hd hn (fun w hS => by simpa using hc w hS) h
theorem WM.nil {K' : Act → World → Prop} (h : WP P ops K' n p w0 rest l L) : WM P ops (wpPure P ops (fun a' => ∀ w, St p w0 w L → K' a' w) rest) n p w0 [] l L := h
/-- What is known when all that is done, the allocation apart. -/
def KM (P : Program) (os : List Oper) (Q : Exit → Act → World → Prop) (n : Nat) (p : Nat → Prop) (w0 : World) (g d : Nat) (zs : List Value) (listed : Array Bool) (L : List Ent) (a : Act) : Prop :=
  ∃ l', Has n a l' ∧ ∀ x, w0.heap.size ≤ x → WR P os Q n p w0 g listed ((d, .pointer (some ⟨x, 0, none⟩)) :: l') (.row x zs :: L)
theorem WP.nilM {g d : Nat} {zs : List Value} {listed : Array Bool} (h : ∀ x, w0.heap.size ≤ x → WR P os Q n p w0 g listed ((d, .pointer (some ⟨x, 0, none⟩)) :: l) (.row x zs :: L)) :
    WP P os.toArray (fun a _ => KM P os Q n p w0 g d zs listed L a) n p w0 [] l L := fun _ ha _ _ => ⟨l, ha, h⟩
def mixB (os : List Oper) (k d : Nat) (js ps : List Nat) (listed : Array Bool) : Bool :=
  Region.noSelect os.toArray && closedB .any os.toArray listed && takesB .any os.toArray (js ++ ps) listed && (Region.ready .any os.toArray listed).contains k && overB .any os.toArray (js ++ ps) k d &&
  sinkOne .any os.toArray (js ++ ps) k listed && sinkHead .any os.toArray (js ++ ps) js (listed.setIfInBounds k true) && freeB .any os.toArray js ps (listed.setIfInBounds k true) && js.all fun j => !ps.contains j
theorem WR.mix {ty d g : Nat} {zs : List Value} {listed : Array Bool} (k : Nat) (js ps : List Nat) (ho : (at_ os k).op = .alloc ty) (hz : Zero P ty zs) (hg : (at_ os k).guard = none) (hd : (at_ os k).dst = some d) (hn : Nat.blt d n = true)
    (hsz : listed.size = os.length) (hB : mixB os k d js ps listed = true)
    (h : WM P os.toArray (wpPure P os.toArray (fun a' => ∀ w, St p w0 w L → KM P os Q n p w0 g d zs (marks (listed.setIfInBounds k true) (js ++ ps)) L a') (ps.map (at_ os))) n p w0 (js.map (at_ os)) l L) :
    WR P os Q n p w0 ((js ++ ps).length + 1 + g) listed l L := fun a w ha hS => by
  simp only [mixB, Bool.and_eq_true] at hB
  obtain ⟨⟨⟨⟨⟨⟨⟨⟨hsel, hcl⟩, htk⟩, hkr⟩, hov⟩, hsa⟩, hsk⟩, hfr⟩, hps⟩ := hB
  have hsz' : listed.size = os.toArray.size := by simpa using hsz
  have hkr' : k ∈ Region.ready .any os.toArray listed := by simpa using hkr
  have hko := at_some hkr'
  have H0 : mixL P (fun w => St p w0 w L) (Frm (fun _ => False)) ps os (fun a' => KM P os Q n p w0 g d zs (marks (listed.setIfInBounds k true) (js ++ ps)) L a') (js ++ ps) a := by
    refine mixL_append js a (mixL_reads js a hps ?_)
    have h1 := h a ha
    have mono : ∀ (K1 K2 : Act → Prop) (hK : ∀ a, K1 a → K2 a) (r : List Oper) (a : Act), rqList P os.toArray (fun w => St p w0 w L) (Frm (fun _ => False)) K1 r a → rqList P os.toArray (fun w => St p w0 w L) (Frm (fun _ => False)) K2 r a := by
      intro K1 K2 hK r
      induction r with
      | nil => exact fun a h => hK a h
      | cons o r ih => exact fun a ⟨v, hy, h⟩ => ⟨v, hy, ih _ h⟩
    exact mono _ _ (fun a h => mixL_mono (fun a h => h w hS) ps a (mixL_pure ps a (fun _ h => h) h)) _ _ h1
  have H := HeadM_list (P := P) hsel (js ++ ps) listed a (fun _ h => h) (fun _ h => .inl h) htk H0
  refine any_of_A (D := fun x w => St p w0 w (.row x zs :: L) ∧ w0.heap.size ≤ x) (Lq' := fun x listed' a' => (∀ j ∈ js ++ ps, listed'.getD j false = true) ∧ ∃ l', Has n a' ((d, .pointer (some ⟨x, 0, none⟩)) :: l') ∧ ∀ x, w0.heap.size ≤ x → WR P os Q n p w0 g (marks (listed.setIfInBounds k true) (js ++ ps)) ((d, .pointer (some ⟨x, 0, none⟩)) :: l') (.row x zs :: L))
    hsel hsz' (fun w w' h1 h2 => h1.ext h2) (fun x w h => h.1.tail) (fun x w w' h1 h2 => ⟨h1.1.ext h2, h1.2⟩) hko hov hsa hsk hfr ?_ (fun _ _ h => h.1) ?_ ?_ (js ++ ps).length listed a w ⟨closedB_spec hcl, fun _ h => .inl h, hsz'⟩ (fun _ h => h) hkr' (ha.sub Sub.nil) hS H
  · intro a w K ha hS hK
    unfold wpOp
    simp only [hko]
    rw [if_pos (by simp [Region.wanted, hg])]
    refine .inl ?_
    have hz' := hz
    obtain ⟨z, hz, rfl⟩ := hz
    unfold Oper.wp
    have e : (execOp a.eval (at_ os k)).run P w = .ok (.value (.pointer (some ⟨w.heap.size, 0, none⟩))) (w.alloc (.cells z.cells.toList.toArray ty)) := by
      unfold execOp
      simp [ho, Instr.alloc, run_zeroValue hz, newVar, newRow, newObj, Sem.run]
    rw [e]
    simp only [Oper.upon, hd]
    exact hK _ _ ⟨St.new (T := ty) hS, hS.frm.size⟩
  · rintro x listed' a' ⟨h1, l', hl', h2⟩
    exact ⟨fun j hj => getD_set_true (h1 j hj), l', hl'.put hn _, h2⟩
  · rintro x listed' a' w' inv hm ⟨h1, l', hl', h2⟩ ⟨hS', hx⟩
    have e : listed' = marks (listed.setIfInBounds k true) (js ++ ps) := marks_eq (fun j => by
      constructor
      · intro hj
        rcases inv.only j hj with h2 | h2
        · exact .inl h2
        · refine .inr ⟨h2, ?_⟩
          rcases Nat.lt_or_ge j listed'.size with h' | h'
          · rw [inv.size, ← hsz'] at h'; simpa using h'
          · simp [Array.getElem?_eq_none h'] at hj
      · rintro (h2 | ⟨h2, _⟩)
        · exact hm j h2
        · exact h1 j h2) (by rw [inv.size, ← hsz']; simp)
    rw [e]
    exact h2 x hx a' w' hl' hS'
/-- Whatever comes up next, each alone. -/
def AllOf (K : Nat → Prop) : List Nat → Prop
  | [] => True
  | [i] => K i
  | i :: j :: is => K i ∧ AllOf K (j :: is)
theorem AllOf.get {K : Nat → Prop} : ∀ {rs : List Nat}, AllOf K rs → ∀ i ∈ rs, K i
  | [], _, i, h => by cases h
  | [j], h, i, hi => by rw [List.mem_singleton.1 hi]; exact h
  | j :: k :: is, h, i, hi => by
    rcases List.mem_cons.1 hi with rfl | hi
    · exact h.1
    · exact AllOf.get h.2 i hi
end
end Go.Proofs.YtkeonnnhogaggaaGreatDoor
/- rules: acts. -/
namespace Go.Proofs.YtkeonnnhogaggaaGreatDoor
open Go.RowKit

structure Ac where
  set : Int
  val : Nat → Int
/-- u64 cells. -/
def ucs (f : Nat → Int) (n : Nat) : List Value := (List.range n).map fun i => .int .u64 (f i)
theorem ucs_len (f : Nat → Int) (n : Nat) : (ucs f n).length = n := by simp [ucs]
theorem ucs_get (f : Nat → Int) {n i : Nat} (h : i < n) : (ucs f n)[i]? = some (.int .u64 (f i)) := by simp [ucs, h]
theorem ucs_set {f : Nat → Int} {n j : Nat} {x : Int} (h : j < n) : (ucs f n).set j (.int .u64 x) = ucs (fun i => if i = j then x else f i) n := by
  apply List.ext_getElem?
  intro i
  rw [List.getElem?_set, ucs_len]
  by_cases h1 : j = i
  · subst h1; rw [if_pos rfl, if_pos h, ucs_get _ h, if_pos rfl]
  · rw [if_neg h1]
    by_cases hi : i < n
    · rw [ucs_get _ hi, ucs_get _ hi, if_neg (by omega)]
    · rw [List.getElem?_eq_none (by rw [ucs_len]; omega), List.getElem?_eq_none (by rw [ucs_len]; omega)]
theorem ucs_congr {f g : Nat → Int} {n : Nat} (h : ∀ i, i < n → f i = g i) : ucs f n = ucs g n := by
  unfold ucs
  apply List.map_congr_left
  intro i hi
  rw [h i (List.mem_range.1 hi)]
def acL (a : Ac) : List Value := .int .i64 a.set :: ucs a.val 9
def acV (a : Ac) : Value := .agg (acL a).toArray
theorem acL_get (a : Ac) {k : Nat} (h : k < 9) : (acL a)[1 + k * 1]? = some (.int .u64 (a.val k)) := by
  rw [show 1 + k * 1 = k + 1 by omega]; exact ucs_get _ h
structure Ac.In (a : Ac) : Prop where
  set : -9223372036854775808 ≤ a.set ∧ a.set ≤ 9223372036854775807
  val : ∀ k, 0 ≤ a.val k ∧ a.val k ≤ 18446744073709551615
/-- The act sets the field. -/
def Ac.sets (a : Ac) (k : Nat) : Prop := a.set / 2 ^ k % 2 = 1
instance (a : Ac) (k : Nat) : Decidable (a.sets k) := by unfold Ac.sets; infer_instance
/-- The act is in its form. -/
def Ac.Ok (a : Ac) : Prop := (0 ≤ a.set ∧ a.set ≤ 511) ∧ ∀ k, k < 9 → a.val k ≤ fullI k ∧ (a.val k ≠ 0 → a.sets k)
instance (a : Ac) : Decidable a.Ok := by unfold Ac.Ok; infer_instance
theorem sets_c (w : World) (a : Ac) (k : Nat) (hk : k < 9) :
    Calls Tryz.prog 125 #[acV a, .int .i64 k] w fun e w' => e = .returned (.bool (decide (a.sets k))) ∧ Frm (fun _ => False) w w' := by
  refine enter Tryz.func125 rfl Tryz.ntmps125 rfl (St.start (fun _ => False) w) ?_
  refine WC.seq <| WC.region <| WL.box rfl rfl rfl (.none rfl) rfl rfl <| ?_
  intro g2 hg2
  refine WL.v (v_assign rfl rfl) rfl <| WL.nt <| WC.seq <| WC.region <| WL.v (v_fieldAddr0 rfl rfl fld_110_0) rfl <| WL.v (v_load1 rfl rfl one_3 (cellAt rfl)) rfl <| WL.v (v_move rfl rfl) rfl <| ?_
  refine WL.v (v_shr (m := k) (c := (2 : Int) ^ k) rfl rfl rfl rfl (by show k ≤ 64; omega) rfl) rfl ?_
  refine WL.v (v_and rfl rfl rfl (mask_i64' (i := 1) (m := 2) (by decide) (by decide) (by decide))) rfl ?_
  refine WL.v (v_eql rfl rfl rfl) rfl <| WL.v (v_assign rfl rfl) rfl <| WL.nt <| WC.ret <| WE.ret1 (P := Tryz.prog) (.inl rfl) Tryz.results125 rfl <| ?_
  exact fun w' h => ⟨rfl, h.frm⟩
theorem ACheck_c (w : World) (a : Ac) (hG : GW w) :
    Calls Tryz.prog 141 #[acV a] w fun e w' => e = .returned (.int .i64 (if a.Ok then 0 else 1)) ∧ Frm (fun _ => False) w w' := by
  refine enter Tryz.func141 rfl Tryz.ntmps141 rfl (St.start (fun _ => False) w) ?_
  refine WC.seq <| WC.region <| WL.box rfl rfl rfl (.none rfl) rfl rfl <| ?_
  intro g1 hg1
  refine WL.v (v_assign rfl rfl) rfl <| WL.nt <| WC.seq <| WC.seq <| WC.region <| WL.v (v_fieldAddr0 rfl rfl fld_110_0) rfl <| WL.v (v_load1 rfl rfl one_3 (cellAt rfl)) rfl <| ?_
  refine WL.test (v_lss rfl rfl rfl) (.none rfl) rfl rfl (fun h6 => ?_) (fun h6 => ?_)
  ·
   refine WL.v (v_move rfl rfl) rfl ?_
   iterate 3 refine WL.sk rfl ?_
   refine WL.v (v_pick_t rfl rfl rfl) rfl <| WL.nt <| WC.cond_t rfl <| WC.seq <| WC.region <| WL.v (v_assign rfl rfl) rfl <| WL.nt <| WC.ret <| WE.then_ret <| WE.ret1 (P := Tryz.prog) (.inl rfl) Tryz.results141 rfl <| ?_
   exact fun w' h => ⟨by rw [if_neg (fun k => by have := k.1; omega)], h.frm⟩
  ·
   refine WL.v (v_move rfl rfl) rfl <| WL.val (v_fieldAddr0 rfl rfl fld_110_0) (.some rfl rfl rfl) rfl rfl <| WL.val (v_load1 rfl rfl one_3 (cellAt rfl)) (.some rfl rfl rfl) rfl rfl <| ?_
   refine WL.test (v_geq rfl rfl rfl) (.some rfl rfl rfl) rfl rfl (fun h10 => ?_) (fun h10 => ?_)
   ·
    refine WL.v (v_pick_f rfl rfl rfl) rfl <| WL.nt <| WC.cond_t rfl <| WC.seq <| WC.region <| WL.v (v_assign rfl rfl) rfl <| WL.nt <| WC.ret <| WE.then_ret <| WE.ret1 (P := Tryz.prog) (.inl rfl) Tryz.results141 rfl <| ?_
    exact fun w' h => ⟨by rw [if_neg (fun k => by have := k.1; omega)], h.frm⟩
   ·
    refine WL.v (v_pick_f rfl rfl rfl) rfl <| WL.nt <| WC.cond_f rfl <| WC.skip <| WE.then_n <| WC.seq <| WC.seq <| WC.region <| WL.v (v_move rfl rfl) rfl <| WL.nt <| WC.block <| ?_
    refine WC.loop (fun k : Nat => [(12, .int .i64 k), (1, .pointer (some ⟨g1, 0, none⟩))]) (fun _ => [.row g1 (acL a)]) (fun k => k ≤ 9 ∧ ∀ j, j < k → a.val j ≤ fullI j ∧ (a.val j ≠ 0 → a.sets j)) (fun k => 9 - k) 0 ⟨Nat.zero_le _, fun j h => absurd h (by omega)⟩ (.cons rfl (.cons rfl .nil)) (.refl _) ?_
    rintro k ⟨hk, hok⟩
    refine WC.seq <| WC.region <| ?_
    refine WL.test (v_lss rfl rfl rfl) (.none rfl) rfl rfl (fun h13 => ?_) (fun h13 => ?_)
    ·
     refine WL.nt <| WC.seq <| WC.cond_t rfl <| WC.skip <| WE.then_n <| WC.seq <| WC.block <| WC.seq <| WC.region <| WL.v (v_move rfl rfl) rfl <| WL.v (v_assign rfl rfl) rfl <| WL.nt <| WC.seq <| ?_
     refine WC.quiet mixed (by kernel_rfl) ?_
     refine WQ.val (v_move rfl rfl) (.none rfl) rfl rfl <| WQ.val (v_fieldAddr0 rfl rfl fld_110_1) (.none rfl) rfl rfl <| ?_
     refine WQ.val (v_indexAddrA (lo := k) rfl rfl rfl Tryz.underlying108 sz_23 (by omega) (by omega)) (.none rfl) rfl rfl ?_
     refine WQ.val (v_load1 rfl rfl one_23 (cellAt (acL_get a (by omega)))) (.none rfl) rfl rfl ?_
     refine WQ.val (v_move rfl rfl) (.none rfl) rfl rfl ?_
     refine WQ.call _ rfl rfl ck_98 (.none rfl) rfl rfl (fun w hS => Calls.still (Full_n w k (by omega) (hG.keep (fun h => h) hS)) hS) ?_
     refine WQ.test (v_gtr rfl rfl rfl) (.none rfl) rfl rfl (fun h21 => ?_) (fun h21 => ?_)
     ·
      refine WQ.val (v_move rfl rfl) (.none rfl) rfl rfl ?_
      iterate 11 refine WQ.skip rfl rfl rfl rfl rfl rfl ?_
      refine WQ.val (v_pick_t rfl rfl rfl) (.none rfl) rfl rfl <| WQ.nil <| WE.then_n <| WC.cond_t rfl <| WC.seq <| WC.region <| WL.v (v_assign rfl rfl) rfl <| WL.nt <| WC.ret <| WE.block_ret <| WE.then_ret <| WE.then_ret <| WE.block_ret <| WE.then_ret <| ?_
      refine WE.ret1 (P := Tryz.prog) (.inl rfl) Tryz.results141 rfl ?_
      exact fun w' h => ⟨by rw [if_neg (fun q => by have := (q.2 k (by omega)).1; omega)], h.frm⟩
     ·
      refine WQ.val (v_move rfl rfl) (.none rfl) rfl rfl <| WQ.val (v_move rfl rfl) (.some rfl rfl rfl) rfl rfl <| WQ.val (v_fieldAddr0 rfl rfl fld_110_1) (.some rfl rfl rfl) rfl rfl <| ?_
      refine WQ.val (v_indexAddrA (lo := k) rfl rfl rfl Tryz.underlying108 sz_23 (by omega) (by omega)) (.some rfl rfl rfl) rfl rfl ?_
      refine WQ.val (v_load1 rfl rfl one_23 (cellAt (acL_get a (by omega)))) (.some rfl rfl rfl) rfl rfl ?_
      refine WQ.test (v_neq rfl rfl rfl) (.some rfl rfl rfl) rfl rfl (fun h27 => ?_) (fun h27 => ?_)
      ·
       refine WQ.val (v_move rfl rfl) (.some rfl rfl rfl) rfl rfl <| WQ.val (v_loadN rfl rfl many_110 rfl allAt) (.some rfl rfl rfl) rfl rfl <| WQ.val (v_move rfl rfl) (.some rfl rfl rfl) rfl rfl <| ?_
       refine WQ.call _ rfl rfl ck_125 (.some rfl rfl rfl) rfl rfl (fun w hS => Calls.still (sets_c w a k (by omega)) hS) ?_
       refine WQ.val (v_notD rfl rfl) (.some rfl rfl rfl) rfl rfl <| WQ.val (v_pick_t rfl rfl rfl) (.some rfl rfl rfl) rfl rfl <| WQ.val (v_pick_f rfl rfl rfl) (.none rfl) rfl rfl <| WQ.nil <| WE.then_n <| ?_
       refine WC.cond_d rfl (fun h34 => ?_) (fun h34 => ?_)
       ·
        refine WC.seq <| WC.region <| WL.v (v_assign rfl rfl) rfl <| WL.nt <| WC.ret <| WE.block_ret <| WE.then_ret <| WE.then_ret <| WE.block_ret <| WE.then_ret <| WE.ret1 (P := Tryz.prog) (.inl rfl) Tryz.results141 rfl <| ?_
        exact fun w' h => ⟨by rw [if_neg (fun q => h34 ((q.2 k (by omega)).2 h27))], h.frm⟩
       ·
        refine WC.skip <| WE.block_n <| WE.then_n <| WC.region <| ?_
        refine WL.v (v_add rfl rfl rfl (w_i64 (by omega) (by omega))) rfl ?_
        refine WL.v (v_move rfl rfl) rfl <| WL.nil <| ?_
        exact WE.next (k + 1) (by omega) ⟨by omega, fun j hj => by
        by_cases e : j = k
        · subst e; exact ⟨by omega, fun _ => Classical.not_not.1 h34⟩
        · exact hok j (by omega)⟩ (.int rfl (by omega) (.cons rfl .nil)) (.refl _)
      ·
       refine WQ.val (v_move rfl rfl) (.some rfl rfl rfl) rfl rfl ?_
       iterate 4 refine WQ.skip rfl rfl rfl rfl rfl rfl ?_
       refine WQ.val (v_pick_f rfl rfl rfl) (.some rfl rfl rfl) rfl rfl <| WQ.val (v_pick_f rfl rfl rfl) (.none rfl) rfl rfl <| WQ.nil <| WE.then_n <| WC.cond_f rfl <| WC.skip <| WE.block_n <| WE.then_n <| WC.region <| ?_
       refine WL.v (v_add rfl rfl rfl (w_i64 (by omega) (by omega))) rfl ?_
       refine WL.v (v_move rfl rfl) rfl <| WL.nil <| ?_
       exact WE.next (k + 1) (by omega) ⟨by omega, fun j hj => by
       by_cases e : j = k
       · subst e; exact ⟨by omega, fun h => absurd h h27⟩
       · exact hok j (by omega)⟩ (.int rfl (by omega) (.cons rfl .nil)) (.refl _)
    ·
     refine WL.nt <| WC.seq <| WC.cond_f rfl <| WC.exit <| WE.then_exit <| WE.then_exit <| WE.block_hit <| WE.then_n <| WC.seq <| WC.region <| WL.v (v_assign rfl rfl) rfl <| WL.nt <| WC.ret <| WE.ret1 (P := Tryz.prog) (.inl rfl) Tryz.results141 rfl <| ?_
     obtain rfl : k = 9 := (by omega)
     exact fun w' h => ⟨by rw [if_pos ⟨by omega, hok⟩], h.frm⟩
/-- What an act's first k make of a header. -/
def appK (a : Ac) (H : Hd) : Nat → Hd | 0 => H | k + 1 => if a.sets k then wthF k (a.val k) (appK a H k) else appK a H k
set_option maxHeartbeats 1000000 in
theorem Apply_c (w : World) (a : Ac) (H : Hd) (hv : a.In) (ha : a.Ok) (hG : GW w) :
    Calls Tryz.prog 82 #[acV a, .agg (hdCells H)] w fun e w' => e = .returned (.agg (hdCells (appK a H 9))) ∧ Frm (fun _ => False) w w' := by
  refine enter Tryz.func82 rfl Tryz.ntmps82 rfl (St.start (fun _ => False) w) ?_
  refine WC.seq <| WC.region <| WL.box rfl rfl rfl (.none rfl) rfl rfl <| ?_
  intro g2 hg2
  refine WL.box rfl rfl rfl (.none rfl) rfl rfl ?_
  intro g3 hg3
  refine WL.alloc rfl zero_59 (.none rfl) rfl rfl ?_
  intro g4 hg4
  refine WL.nt <| WC.seq <| WC.seq <| WC.region <| WL.v (v_move rfl rfl) rfl <| WL.nt <| WC.block <| WC.loop (fun k : Nat => [(8, .int .i64 k), (2, .pointer (some ⟨g2, 0, none⟩)), (3, .pointer (some ⟨g3, 0, none⟩)), (4, .pointer (some ⟨g4, 0, none⟩))]) (fun k => [.row g4 (hdL Hd.zero), .row g3 (hdL (appK a H k)), .row g2 (acL a)]) (fun k => k ≤ 9) (fun k => 9 - k) 0 (Nat.zero_le _) (.cons rfl (.cons rfl (.cons rfl (.cons rfl .nil)))) (.refl _) <| ?_
  intro k hk
  refine WC.seq <| WC.region <| ?_
  refine WL.test (v_lss rfl rfl rfl) (.none rfl) rfl rfl (fun h9 => ?_) (fun h9 => ?_)
  ·
   refine WL.nt <| WC.seq <| WC.cond_t rfl <| WC.skip <| WE.then_n <| WC.seq <| WC.block <| WC.seq <| WC.region <| WL.v (v_move rfl rfl) rfl <| WL.v (v_assign rfl rfl) rfl <| WL.nt <| WC.seq <| WC.seq <| ?_
   refine WC.region <| WL.v (v_loadN rfl rfl many_110 rfl allAt) rfl <| WL.v (v_move rfl rfl) rfl <| WL.call rfl rfl ck_125 (.none rfl) rfl rfl <| ?_
   intro w hS
   refine Calls.then (sets_c w a k (by omega)) hS ?_
   refine WL.v (v_notD rfl rfl) rfl <| WL.nt <| ?_
   refine WC.cond_d rfl (fun h14 => ?_) (fun h14 => ?_)
   ·
    refine WC.exit <| WE.then_exit <| WE.block_hit <| WE.then_n <| WC.region <| ?_
    refine WL.v (v_add rfl rfl rfl (w_i64 (by omega) (by omega))) rfl ?_
    refine WL.v (v_move rfl rfl) rfl <| WL.nil <| ?_
    refine WE.next (k + 1) (by omega) (by omega) (.int rfl (by omega) (.cons rfl (.cons rfl (.cons rfl .nil)))) ?_
    have e : appK a H (k + 1) = appK a H k := (by show (if a.sets k then _ else _) = _; rw [if_neg h14])
    rw [e]
    exact .refl _
   ·
    refine WC.skip <| WE.then_n <| WC.seq <| WC.orders mixed <| ?_
    refine WR.first (g := 9) [1, 2, 3, 4] (by kernel_rfl) (by kernel_rfl) ?_
    refine WP.val (v_move rfl rfl) (.none rfl) rfl rfl <| WP.val (v_move rfl rfl) (.none rfl) rfl rfl <| WP.val (v_fieldAddr0 rfl rfl fld_110_1) (.none rfl) rfl rfl <| ?_
    refine WP.val (v_indexAddrA (lo := k) rfl rfl rfl Tryz.underlying108 sz_23 (by omega) (by omega)) (.none rfl) rfl rfl ?_
    refine WP.nil ?_
    refine WR.mix (g := 2) 10 [0, 5, 6, 7, 8] [9] rfl zero_59 rfl rfl rfl (by kernel_rfl) (by kernel_rfl) ?_
    refine WM.val (v_loadN rfl rfl many_59 rfl allAt) (.none rfl) rfl rfl ?_
    refine WM.val (v_load1 rfl rfl one_23 (cellAt (acL_get a (by omega)))) (.none rfl) rfl rfl ?_
    refine WM.call _ rfl rfl ck_126 (.none rfl) rfl rfl (fun w hS => (With_c w (appK a H k) k (by omega) (a.val k) (hv.val k).1 (ha.2 k (by omega)).1 (hG.keep (fun h => h) hS))) ?_
    refine WM.val (v_move rfl rfl) (.none rfl) rfl rfl <| WM.val (v_extract rfl rfl rfl) (.none rfl) rfl rfl <| WM.nil <| WP.val (v_extract rfl rfl rfl) (.none rfl) rfl rfl <| WP.nilM <| ?_
    intro g6 hg6
    refine WR.ones (g := 1) [11] (by kernel_rfl) ?_
    refine WL.storeW rfl rfl rfl rfl many_59 rfl rfl (.none rfl) rfl <| WL.nilR <| ?_
    refine WR.first (g := 0) [12] (by kernel_rfl) (by kernel_rfl) ?_
    refine WP.val (v_assign rfl rfl) (.none rfl) rfl rfl <| WP.nil <| ?_
    refine WR.done (by kernel_rfl) ?_
    refine WE.then_n <| WC.seq <| WC.region <| WL.v (v_move rfl rfl) rfl <| ?_
    refine WL.v ((v_eql rfl rfl rfl).t (by omega)) rfl ?_
    refine WL.nt <| WC.cond_t rfl <| WC.region <| WL.v (v_loadN rfl rfl many_59 rfl allAt) rfl <| WL.storeW rfl rfl rfl rfl many_59 rfl rfl (.none rfl) rfl <| WL.nil <| WE.block_n <| WE.then_n <| WC.region <| ?_
    refine WL.v (v_add rfl rfl rfl (w_i64 (by omega) (by omega))) rfl ?_
    refine WL.v (v_move rfl rfl) rfl <| WL.nil <| ?_
    refine WE.next (k + 1) (by omega) (by omega) (.int rfl (by omega) (.cons rfl (.cons rfl (.cons rfl .nil)))) ?_
    have e : appK a H (k + 1) = wthF k (a.val k) (appK a H k) := (by show (if a.sets k then _ else _) = _; rw [if_pos (Classical.not_not.1 h14)])
    rw [e]
    exact .cons _ (.refl _)
  ·
   refine WL.nt <| WC.seq <| WC.cond_f rfl <| WC.exit <| WE.then_exit <| WE.then_exit <| WE.block_hit <| WE.then_n <| WC.seq <| WC.region <| WL.v (v_loadN rfl rfl many_59 rfl allAt) rfl <| WL.storeW rfl rfl rfl rfl many_59 rfl rfl (.none rfl) rfl <| WL.nt <| WC.ret <| ?_
   refine WE.ret1 (P := Tryz.prog) (.inl rfl) Tryz.results82 (resRow rfl many_59 rfl) ?_
   obtain rfl : k = 9 := (by omega)
   exact fun w' h => ⟨rfl, h.frm⟩
/-- An act, and another one behind it. -/
def Ac.then (a b : Ac) : Ac := ⟨orN a.set b.set, fun k => if b.sets k then b.val k else a.val k⟩
end Go.Proofs.YtkeonnnhogaggaaGreatDoor
/- rules.Act.Cmp. -/
namespace Go.Proofs.YtkeonnnhogaggaaGreatDoor
open Go.RowKit

theorem isNaNI_c (w : World) (x : Int) : Calls Tryz.prog 146 #[.int .i64 x] w fun e w' => e = .returned (.bool false) ∧ Frm (fun _ => False) w w' := by
  refine enter Tryz.func146 rfl Tryz.ntmps146 rfl (St.start (fun _ => False) w) ?_
  refine WC.seq <| WC.region <| WL.v (v_assign rfl rfl) rfl <| WL.nt <| WC.seq <| WC.region <| WL.v (v_move rfl rfl) rfl <| WL.v (v_move rfl rfl) rfl <| WL.v ((v_neq rfl rfl rfl).f (fun h => h rfl)) rfl <| WL.v (v_assign rfl rfl) rfl <| WL.nt <| WC.ret <| WE.ret1 (P := Tryz.prog) (.inl rfl) Tryz.results146 rfl <| ?_
  exact fun w' h => ⟨rfl, h.frm⟩
theorem CmpI_c (w : World) (x y : Int) : Calls Tryz.prog 106 #[.int .i64 x, .int .i64 y] w fun e w' => e = .returned (.int .i64 (cmpI x y)) ∧ Frm (fun _ => False) w w' := by
  refine enter Tryz.func106 rfl Tryz.ntmps106 rfl (St.start (fun _ => False) w) ?_
  refine WC.seq <| WC.region <| WL.v (v_assign rfl rfl) rfl <| WL.nt <| WC.seq <| WC.region <| WL.v (v_move rfl rfl) rfl <| WL.call rfl rfl ck_146 (.none rfl) rfl rfl <| ?_
  intro w hS
  refine Calls.then (isNaNI_c w x) hS ?_
  refine WL.v (v_assign rfl rfl) rfl <| WL.nt <| WC.seq <| WC.region <| WL.v (v_move rfl rfl) rfl <| WL.call rfl rfl ck_146 (.none rfl) rfl rfl <| ?_
  intro w hS
  refine Calls.then (isNaNI_c w y) hS ?_
  refine WL.v (v_assign rfl rfl) rfl <| WL.nt <| WC.seq <| WC.seq <| WC.region <| WL.v (v_move rfl rfl) rfl <| WL.nt <| WC.cond_f rfl <| WC.skip <| WE.then_n <| WC.seq <| WC.seq <| WC.region <| WL.v (v_move rfl rfl) rfl <| ?_
  refine WL.nt <| WC.cond_f rfl <| WC.skip <| WE.then_n <| WC.seq <| WC.seq <| WC.region <| WL.v (v_move rfl rfl) rfl <| WL.v (v_move rfl rfl) rfl <| ?_
  refine WL.test (v_lss rfl rfl rfl) (.none rfl) rfl rfl (fun h16 => ?_) (fun h16 => ?_)
  ·
   refine WL.nt <| WC.cond_t rfl <| WC.seq <| WC.region <| WL.v (v_assign rfl rfl) rfl <| WL.nt <| WC.ret <| WE.then_ret <| WE.ret1 (P := Tryz.prog) (.inl rfl) Tryz.results106 rfl <| ?_
   exact fun w' h => ⟨by unfold cmpI; rw [if_pos h16], h.frm⟩
  ·
   refine WL.nt <| WC.cond_f rfl <| WC.skip <| WE.then_n <| WC.seq <| WC.seq <| WC.region <| WL.v (v_move rfl rfl) rfl <| WL.v (v_move rfl rfl) rfl <| ?_
   refine WL.test (v_gtr rfl rfl rfl) (.none rfl) rfl rfl (fun h19 => ?_) (fun h19 => ?_)
   ·
    refine WL.nt <| WC.cond_t rfl <| WC.seq <| WC.region <| WL.v (v_assign rfl rfl) rfl <| WL.nt <| WC.ret <| WE.then_ret <| WE.ret1 (P := Tryz.prog) (.inl rfl) Tryz.results106 rfl <| ?_
    exact fun w' h => ⟨by unfold cmpI; rw [if_neg h16, if_pos h19], h.frm⟩
   ·
    refine WL.nt <| WC.cond_f rfl <| WC.skip <| WE.then_n <| WC.seq <| WC.region <| WL.v (v_assign rfl rfl) rfl <| WL.nt <| WC.ret <| WE.ret1 (P := Tryz.prog) (.inl rfl) Tryz.results106 rfl <| ?_
    exact fun w' h => ⟨by unfold cmpI; rw [if_neg h16, if_neg h19], h.frm⟩
/-- The first that is not 0, of so many. -/
def lexK (f g : Nat → Int) : Nat → Int | 0 => 0 | k + 1 => if lexK f g k ≠ 0 then lexK f g k else cmpI (f k) (g k)
theorem lexK_stays {f g : Nat → Int} {k : Nat} (h : lexK f g k ≠ 0) : ∀ j, lexK f g (k + j) = lexK f g k
  | 0 => rfl
  | j + 1 => by
    have := lexK_stays h j
    show (if lexK f g (k + j) ≠ 0 then lexK f g (k + j) else _) = _
    rw [this, if_pos h]
theorem SCmp_c (w : World) (b b' o o' : Nat) (f g : Nat → Int) (hf : ∀ i, i < 9 → w.cell? ⟨b, o + i * 1, none⟩ = some (.int .u64 (f i))) (hg : ∀ i, i < 9 → w.cell? ⟨b', o' + i * 1, none⟩ = some (.int .u64 (g i))) :
    Calls Tryz.prog 143 #[.slice (some ⟨b, o, none⟩) 9 9, .slice (some ⟨b', o', none⟩) 9 9] w fun e w' => e = .returned (.int .i64 (lexK f g 9)) ∧ Frm (fun _ => False) w w' := by
  refine enter Tryz.func143 rfl Tryz.ntmps143 rfl (St.start (fun _ => False) w) ?_
  refine WC.seq <| WC.region <| WL.v (v_assign rfl rfl) rfl <| WL.nt <| WC.seq <| WC.seq <| WC.region <| WL.v (v_move rfl rfl) rfl <| WL.v (v_len_slice rfl rfl Tryz.underlying208) rfl <| WL.v (v_move rfl rfl) rfl <| WL.nt <| WC.block <| WC.loop (fun k : Nat => [(11, .int .i64 k), (10, .int .i64 9), (9, .slice (some ⟨b, o, none⟩) 9 9), (1, .slice (some ⟨b', o', none⟩) 9 9), (0, .slice (some ⟨b, o, none⟩) 9 9)]) (fun _ => []) (fun k => k ≤ 9 ∧ lexK f g k = 0) (fun k => 9 - k) 0 ⟨Nat.zero_le _, rfl⟩ (.cons rfl (.cons rfl (.cons rfl (.cons rfl (.cons rfl .nil))))) (.refl _) <| ?_
  rintro k ⟨hk, h0⟩
  refine WC.seq <| WC.region <| ?_
  refine WL.test (v_lss rfl rfl rfl) (.none rfl) rfl rfl (fun h12 => ?_) (fun h12 => ?_)
  ·
   refine WL.nt <| WC.seq <| WC.cond_t rfl <| WC.skip <| WE.then_n <| WC.seq <| WC.block <| WC.seq <| WC.region <| WL.v (v_move rfl rfl) rfl <| ?_
   refine WL.v (v_indexAddr (lo := k) rfl rfl rfl Tryz.underlying208 sz_23 (by omega) (by omega)) rfl ?_
   refine WL.v (v_load1 rfl rfl one_23 (cellOld (fun h => h) (hf k (by omega)))) rfl ?_
   refine WL.v (v_assign rfl rfl) rfl <| WL.v (v_assign rfl rfl) rfl <| WL.nt <| WC.seq <| WC.seq <| WC.region <| WL.v (v_move rfl rfl) rfl <| WL.v (v_move rfl rfl) rfl <| WL.v (v_len_slice rfl rfl Tryz.underlying208) rfl <| ?_
   refine WL.v ((v_geq rfl rfl rfl).f (by omega)) rfl ?_
   refine WL.nt <| WC.cond_f rfl <| WC.skip <| WE.then_n <| WC.seq <| WC.region <| WL.v (v_move rfl rfl) rfl <| WL.v (v_move rfl rfl) rfl <| ?_
   refine WL.v (v_indexAddr (lo := k) rfl rfl rfl Tryz.underlying208 sz_23 (by omega) (by omega)) rfl ?_
   refine WL.v (v_load1 rfl rfl one_23 (cellOld (fun h => h) (hg k (by omega)))) rfl ?_
   refine WL.v (v_assign rfl rfl) rfl <| WL.nt <| WC.seq <| WC.region <| WL.v (v_move rfl rfl) rfl <| WL.v (v_move rfl rfl) rfl <| WL.call rfl rfl ck_121 (.none rfl) rfl rfl <| ?_
   intro w hS
   refine Calls.then (CmpU_c w (f k) (g k)) hS ?_
   refine WL.v (v_assign rfl rfl) rfl <| WL.nt <| WC.seq <| WC.region <| WL.v (v_move rfl rfl) rfl <| ?_
   refine WL.test (v_neq rfl rfl rfl) (.none rfl) rfl rfl (fun h28 => ?_) (fun h28 => ?_)
   ·
    refine WL.nt <| WC.cond_t rfl <| WC.seq <| WC.region <| WL.v (v_move rfl rfl) rfl <| WL.v (v_assign rfl rfl) rfl <| WL.nt <| WC.ret <| WE.block_ret <| WE.then_ret <| WE.then_ret <| WE.block_ret <| WE.then_ret <| WE.ret1 (P := Tryz.prog) (.inl rfl) Tryz.results143 rfl <| ?_
    have e1 : lexK f g (k + 1) = cmpI (f k) (g k) := (by show (if _ then _ else _) = _; rw [if_neg (by omega)])
    have e2 := lexK_stays (f := f) (g := g) (k := k + 1) (by rw [e1]; exact h28) (8 - k)
    rw [show k + 1 + (8 - k) = 9 by omega] at e2
    exact fun w' h => ⟨by rw [e2, e1], h.frm⟩
   ·
    refine WL.nt <| WC.cond_f rfl <| WC.skip <| WE.block_n <| WE.then_n <| WC.region <| ?_
    refine WL.v (v_add rfl rfl rfl (w_i64 (by omega) (by omega))) rfl ?_
    refine WL.v (v_move rfl rfl) rfl <| WL.nil <| ?_
    exact WE.next (k + 1) (by omega) ⟨by omega, by show (if _ then _ else _) = _; rw [if_neg (by omega)]; exact Classical.not_not.1 h28⟩ (.int rfl (by omega) (.cons rfl (.cons rfl (.cons rfl (.cons rfl .nil))))) (.refl _)
  ·
   refine WL.nt <| WC.seq <| WC.cond_f rfl <| WC.exit <| WE.then_exit <| WE.then_exit <| WE.block_hit <| WE.then_n <| WC.seq <| WC.seq <| WC.region <| WL.v (v_move rfl rfl) rfl <| WL.v (v_len_slice rfl rfl Tryz.underlying208) rfl <| WL.v (v_move rfl rfl) rfl <| ?_
   refine WL.v (v_len_slice rfl rfl Tryz.underlying208) rfl ?_
   refine WL.v ((v_lss rfl rfl rfl).f (by omega)) rfl ?_
   refine WL.nt <| WC.cond_f rfl <| WC.skip <| WE.then_n <| WC.seq <| WC.region <| WL.v (v_assign rfl rfl) rfl <| WL.nt <| WC.ret <| WE.ret1 (P := Tryz.prog) (.inl rfl) Tryz.results143 rfl <| ?_
   obtain rfl : k = 9 := (by omega)
   exact fun w' h => ⟨by rw [h0], h.frm⟩
theorem Or_c (w : World) (b : Nat) (x y : Int) (hx : w.cell? ⟨b, 0, none⟩ = some (.int .i64 x)) (hy : w.cell? ⟨b, 1, none⟩ = some (.int .i64 y)) :
    Calls Tryz.prog 105 #[.slice (some ⟨b, 0, none⟩) 2 2] w fun e w' => e = .returned (.int .i64 (if x ≠ 0 then x else y)) ∧ Frm (fun _ => False) w w' := by
  refine enter Tryz.func105 rfl Tryz.ntmps105 rfl (St.start (fun _ => False) w) ?_
  refine WC.seq <| WC.region <| WL.v (v_assign rfl rfl) rfl <| WL.nt <| WC.seq <| WC.region <| WL.v (v_assign rfl rfl) rfl <| WL.nt <| WC.seq <| WC.seq <| WC.region <| WL.v (v_move rfl rfl) rfl <| WL.v (v_len_slice rfl rfl Tryz.underlying74) rfl <| WL.v (v_move rfl rfl) rfl <| ?_
  refine WL.nt <| WC.block <| ?_
  refine WC.loop (fun k : Nat => [(8, .int .i64 k), (7, .int .i64 2), (6, .slice (some ⟨b, 0, none⟩) 2 2), (3, .int .i64 0)]) (fun _ => []) (fun k => k ≤ 2 ∧ (1 ≤ k → x = 0) ∧ (2 ≤ k → y = 0)) (fun k => 2 - k) 0 ⟨Nat.zero_le _, by omega, by omega⟩ (.cons rfl (.cons rfl (.cons rfl (.cons rfl .nil)))) (.refl _) ?_
  rintro k ⟨hk, h1, h2⟩
  have hz : ∀ j, j < 2 → w.cell? ⟨b, 0 + j * 1, none⟩ = some (.int .i64 (if j = 0 then x else y)) := (by
    intro j hj
    match j, hj with
    | 0, _ => exact hx
    | 1, _ => exact hy)
  refine WC.seq <| WC.region <| ?_
  refine WL.test (v_lss rfl rfl rfl) (.none rfl) rfl rfl (fun h9 => ?_) (fun h9 => ?_)
  ·
   refine WL.nt <| WC.seq <| WC.cond_t rfl <| WC.skip <| WE.then_n <| WC.seq <| WC.block <| WC.seq <| WC.region <| ?_
   refine WL.v (v_indexAddr (lo := k) rfl rfl rfl Tryz.underlying74 sz_3 (by omega) (by omega)) rfl ?_
   refine WL.v (v_load1 rfl rfl one_3 (cellOld (fun h => h) (hz k (by omega)))) rfl ?_
   refine WL.v (v_assign rfl rfl) rfl <| WL.nt <| WC.seq <| WC.region <| WL.v (v_move rfl rfl) rfl <| WL.v (v_move rfl rfl) rfl <| ?_
   refine WL.test (v_neq rfl rfl rfl) (.none rfl) rfl rfl (fun h14 => ?_) (fun h14 => ?_)
   ·
    refine WL.nt <| WC.cond_t rfl <| WC.seq <| WC.region <| WL.v (v_move rfl rfl) rfl <| WL.v (v_assign rfl rfl) rfl <| WL.nt <| WC.ret <| WE.block_ret <| WE.then_ret <| WE.then_ret <| WE.block_ret <| WE.then_ret <| WE.ret1 (P := Tryz.prog) (.inl rfl) Tryz.results105 rfl <| ?_
    have e2 : (if x ≠ 0 then x else y) = (if k = 0 then x else y) := (by
      by_cases e : k = 0
      · rw [if_pos e] at h14 ⊢; rw [if_pos h14]
      · rw [if_neg e, if_neg (fun q => q (h1 (by omega)))])
    exact fun w' h => ⟨by rw [e2], h.frm⟩
   ·
    refine WL.nt <| WC.cond_f rfl <| WC.skip <| WE.block_n <| WE.then_n <| WC.region <| ?_
    refine WL.v (v_add rfl rfl rfl (w_i64 (by omega) (by omega))) rfl ?_
    refine WL.v (v_move rfl rfl) rfl <| WL.nil <| ?_
    exact WE.next (k + 1) (by omega) ⟨by omega, fun _ => by by_cases e : k = 0; (rw [if_pos e] at h14; exact Classical.not_not.1 h14); exact h1 (by omega), fun _ => by rw [if_neg (by omega)] at h14; exact Classical.not_not.1 h14⟩ (.int rfl (by omega) (.cons rfl (.cons rfl (.cons rfl .nil)))) (.refl _)
  ·
   refine WL.nt <| WC.seq <| WC.cond_f rfl <| WC.exit <| WE.then_exit <| WE.then_exit <| WE.block_hit <| WE.then_n <| WC.seq <| WC.region <| WL.v (v_move rfl rfl) rfl <| WL.v (v_assign rfl rfl) rfl <| WL.nt <| WC.ret <| ?_
   refine WE.ret1 (P := Tryz.prog) (.inl rfl) Tryz.results105 rfl ?_
   exact fun w' h => ⟨by rw [h1 (by omega), h2 (by omega)]; rfl, h.frm⟩
def acmp (a b : Ac) : Int := if cmpI a.set b.set ≠ 0 then cmpI a.set b.set else lexK a.val b.val 9
theorem ACmp_c (w : World) (a b : Ac) :
    Calls Tryz.prog 102 #[acV a, acV b] w fun e w' => e = .returned (.int .i64 (acmp a b)) ∧ Frm (fun _ => False) w w' := by
  refine enter Tryz.func102 rfl Tryz.ntmps102 rfl (St.start (fun _ => False) w) ?_
  refine WC.seq <| WC.region <| WL.box rfl rfl rfl (.none rfl) rfl rfl <| ?_
  intro g2 hg2
  refine WL.box rfl rfl rfl (.none rfl) rfl rfl ?_
  intro g3 hg3
  refine WL.v (v_assign rfl rfl) rfl <| WL.nt <| WC.seq <| WC.orders mixed <| ?_
  refine WR.first (g := 7) [0, 2, 5, 6, 7, 8] (by kernel_rfl) (by kernel_rfl) ?_
  refine WP.val (v_fieldAddr0 rfl rfl fld_110_0) (.none rfl) rfl rfl <| WP.val (v_fieldAddr0 rfl rfl fld_110_0) (.none rfl) rfl rfl <| WP.val (v_fieldAddr0 rfl rfl fld_110_1) (.none rfl) rfl rfl <| WP.val (v_slice_arr rfl rfl Tryz.underlying108 sz_23) (.none rfl) rfl rfl <| WP.val (v_fieldAddr0 rfl rfl fld_110_1) (.none rfl) rfl rfl <| WP.val (v_slice_arr rfl rfl Tryz.underlying108 sz_23) (.none rfl) rfl rfl <| WP.nil <| ?_
  refine WR.read (g := 3) [1, 3, 4, 9] (by kernel_rfl) (by kernel_rfl) (by kernel_rfl) (by kernel_rfl) rfl ?_
  refine WQ.val (v_load1 rfl rfl one_3 (cellAt rfl)) (.none rfl) rfl rfl <| WQ.val (v_load1 rfl rfl one_3 (cellAt rfl)) (.none rfl) rfl rfl <| WQ.call _ rfl rfl ck_106 (.none rfl) rfl rfl (fun w hS => Calls.still (CmpI_c w a.set b.set) hS) <| WQ.call _ rfl rfl ck_143 (.none rfl) rfl rfl (fun w hS => Calls.still (SCmp_c w _ _ _ _ a.val b.val (fun i hi => hS.cell (acL_get a hi)) (fun i hi => hS.cell (acL_get b hi))) hS) <| WQ.nilR <| ?_
  refine WR.ones (g := 2) [10] (by kernel_rfl) ?_
  refine WL.buildSlice rfl rfl Tryz.underlying74 sz_3 zero_3 rfl (by decide) rfl (.none rfl) rfl rfl ?_
  intro g15 hg15
  refine WL.nilR ?_
  refine WR.read (g := 0) [11, 12] (by kernel_rfl) (by kernel_rfl) (by kernel_rfl) (by kernel_rfl) rfl ?_
  refine WQ.call _ rfl rfl ck_105 (.none rfl) rfl rfl (fun w hS => Calls.still (Or_c w _ _ _ (hS.cell rfl) (hS.cell rfl)) hS) <| WQ.val (v_assign rfl rfl) (.none rfl) rfl rfl <| WQ.nilR <| ?_
  refine WR.done (by kernel_rfl) ?_
  refine WE.then_n <| WC.ret <| WE.ret1 (P := Tryz.prog) (.inl rfl) Tryz.results102 rfl <| ?_
  exact fun w' h => ⟨rfl, h.frm⟩
end Go.Proofs.YtkeonnnhogaggaaGreatDoor
/- match: a match as two lists of numbers; right, On, Exact, Hits. rules.On; carrefourlaw17.right. -/
namespace Go.Proofs.YtkeonnnhogaggaaGreatDoor
open Go.RowKit

theorem xorN_le {x y : Int} (hx' : x ≤ 18446744073709551615) (hy' : y ≤ 18446744073709551615) : 0 ≤ xorN x y ∧ xorN x y ≤ 18446744073709551615 := by
  unfold xorN
  have h := Nat.xor_lt_two_pow (x := x.toNat) (y := y.toNat) (n := 64) (by omega) (by omega)
  omega
structure Mt where
  val : Nat → Int
  mask : Nat → Int
def mtL (m : Mt) : List Value := ucs m.val 9 ++ ucs m.mask 9
def mtV (m : Mt) : Value := .agg (mtL m).toArray
structure Mt.In (m : Mt) : Prop where
  val : ∀ k, 0 ≤ m.val k ∧ m.val k ≤ 18446744073709551615
  mask : ∀ k, 0 ≤ m.mask k ∧ m.mask k ≤ 18446744073709551615
theorem mtL_val (m : Mt) {k : Nat} (h : k < 9) : (mtL m)[0 + k * 1]? = some (.int .u64 (m.val k)) := by
  unfold mtL
  rw [show 0 + k * 1 = k by omega, List.getElem?_append_left (by rw [ucs_len]; exact h), ucs_get _ h]
theorem mtL_mask (m : Mt) {k : Nat} (h : k < 9) : (mtL m)[9 + k * 1]? = some (.int .u64 (m.mask k)) := by
  unfold mtL
  rw [show 9 + k * 1 = 9 + k by omega, List.getElem?_append_right (by rw [ucs_len]; omega), ucs_len, show 9 + k - 9 = k by omega, ucs_get _ h]
theorem mtL_len (m : Mt) : (mtL m).length = 18 := by simp [mtL, ucs_len]
def mtOk (k : Nat) (val mask : Int) : Prop := andNotN mask (fullI k) = 0 ∧ andNotN val mask = 0
instance (k : Nat) (v m : Int) : Decidable (mtOk k v m) := by unfold mtOk; infer_instance
theorem fullI_u64 (k : Nat) : 0 ≤ fullI k ∧ fullI k ≤ 18446744073709551615 := by have := pow_wd k; unfold fullI; omega
theorem MRight_c (w : World) (k : Nat) (hk : k < 9) (val mask : Int) (hv : 0 ≤ val ∧ val ≤ 18446744073709551615) (hm : 0 ≤ mask ∧ mask ≤ 18446744073709551615) (hG : GW w) :
    Calls Tryz.prog 172 #[.int .i64 k, .int .u64 val, .int .u64 mask] w fun e w' => e = .returned (.bool (decide (mtOk k val mask))) ∧ Frm (fun _ => False) w w' := by
  have hf := fullI_u64 k
  refine enter Tryz.func172 rfl Tryz.ntmps172 rfl (St.start (fun _ => False) w) ?_
  refine WC.seq <| WC.region <| WL.v (v_assign rfl rfl) rfl <| WL.nt <| WC.seq <| WC.region <| WL.v (v_move rfl rfl) rfl <| WL.v (v_move rfl rfl) rfl <| WL.call rfl rfl ck_98 (.none rfl) rfl rfl <| ?_
  intro w hS
  refine Calls.then (Full_n w k hk (hG.keep (fun h => h) hS)) hS ?_
  refine WL.v (v_andNot rfl rfl rfl (bits_andNot_u64 hm.1 hm.2 hf.1 hf.2)) rfl ?_
  refine WL.test (v_eql rfl rfl rfl) (.none rfl) rfl rfl (fun h11 => ?_) (fun h11 => ?_)
  ·
   refine WL.v (v_move rfl rfl) rfl <| WL.val (v_move rfl rfl) (.some rfl rfl rfl) rfl rfl <| WL.val (v_move rfl rfl) (.some rfl rfl rfl) rfl rfl <| WL.val (v_andNot rfl rfl rfl (bits_andNot_u64 hv.1 hv.2 hm.1 hm.2)) (.some rfl rfl rfl) rfl rfl <| ?_
   refine WL.test (v_eql rfl rfl rfl) (.some rfl rfl rfl) rfl rfl (fun h16 => ?_) (fun h16 => ?_)
   ·
    refine WL.v (v_pick_t rfl rfl rfl) rfl <| WL.v (v_assign rfl rfl) rfl <| WL.nt <| WC.ret <| WE.ret1 (P := Tryz.prog) (.inl rfl) Tryz.results172 rfl <| ?_
    exact fun w' h => ⟨by rw [decide_eq_true ⟨h11, h16⟩], h.frm⟩
   ·
    refine WL.v (v_pick_t rfl rfl rfl) rfl <| WL.v (v_assign rfl rfl) rfl <| WL.nt <| WC.ret <| WE.ret1 (P := Tryz.prog) (.inl rfl) Tryz.results172 rfl <| ?_
    exact fun w' h => ⟨by rw [decide_eq_false (fun q => h16 q.2)], h.frm⟩
  ·
   refine WL.v (v_move rfl rfl) rfl ?_
   iterate 4 refine WL.sk rfl ?_
   refine WL.v (v_pick_f rfl rfl rfl) rfl <| WL.v (v_assign rfl rfl) rfl <| WL.nt <| WC.ret <| WE.ret1 (P := Tryz.prog) (.inl rfl) Tryz.results172 rfl <| ?_
   exact fun w' h => ⟨by rw [decide_eq_false (fun q => h11 q.1)], h.frm⟩
def Mt.one (k : Nat) (val mask : Int) : Mt := ⟨fun i => if i = k then val else 0, fun i => if i = k then mask else 0⟩
def Mt.hits (m : Mt) (H : Hd) : Prop := ∀ k, k < 9 → andN (xorN (getF H k) (m.val k)) (m.mask k) = 0
instance (m : Mt) (H : Hd) : Decidable (m.hits H) := by unfold Mt.hits; infer_instance
set_option maxHeartbeats 1000000 in
theorem Hits_c (w : World) (m : Mt) (H : Hd) (hm : m.In) (hH : H.In) (hG : GW w) :
    Calls Tryz.prog 113 #[mtV m, .agg (hdCells H)] w fun e w' => e = .returned (.bool (decide (m.hits H))) ∧ Frm (fun _ => False) w w' := by
  refine enter Tryz.func113 rfl Tryz.ntmps113 rfl (St.start (fun _ => False) w) ?_
  refine WC.seq <| WC.region <| WL.box rfl rfl rfl (.none rfl) rfl rfl <| ?_
  intro g2 hg2
  refine WL.box rfl rfl rfl (.none rfl) rfl rfl ?_
  intro g3 hg3
  refine WL.v (v_assign rfl rfl) rfl <| WL.nt <| WC.seq <| WC.seq <| WC.region <| WL.v (v_move rfl rfl) rfl <| WL.nt <| WC.block <| ?_
  refine WC.loop (fun k : Nat => [(6, .int .i64 k), (3, .pointer (some ⟨g3, 0, none⟩)), (2, .pointer (some ⟨g2, 0, none⟩))]) (fun _ => [.row g3 (hdL H), .row g2 (mtL m)]) (fun k => k ≤ 9 ∧ ∀ j, j < k → andN (xorN (getF H j) (m.val j)) (m.mask j) = 0) (fun k => 9 - k) 0 ⟨Nat.zero_le _, fun j h => absurd h (by omega)⟩ (.cons rfl (.cons rfl (.cons rfl .nil))) (.refl _) ?_
  rintro k ⟨hk, hok⟩
  have hg := getF_le H k
  have hf := fullI_u64 k
  have hv := hm.val k
  have hmk := hm.mask k
  have hx := xorN_le (x := getF H k) (y := m.val k) (by omega) hv.2
  refine WC.seq <| WC.region <| ?_
  refine WL.test (v_lss rfl rfl rfl) (.none rfl) rfl rfl (fun h7 => ?_) (fun h7 => ?_)
  ·
   refine WL.nt <| WC.seq <| WC.cond_t rfl <| WC.skip <| WE.then_n <| WC.seq <| WC.block <| WC.seq <| WC.region <| WL.v (v_move rfl rfl) rfl <| WL.v (v_assign rfl rfl) rfl <| WL.nt <| WC.seq <| ?_
   refine WC.quiet mixed (by kernel_rfl) ?_
   refine WQ.val (v_loadN rfl rfl many_59 rfl allAt) (.none rfl) rfl rfl <| WQ.val (v_move rfl rfl) (.none rfl) rfl rfl <| ?_
   refine WQ.call _ rfl rfl ck_122 (.none rfl) rfl rfl (fun w hS => Calls.still (Get_c w H k (by omega) hH (hG.keep (fun h => h) hS)) hS) ?_
   refine WQ.val (v_move rfl rfl) (.none rfl) rfl rfl <| WQ.val (v_fieldAddr0 rfl rfl fld_115_0) (.none rfl) rfl rfl <| ?_
   refine WQ.val (v_indexAddrA (lo := k) rfl rfl rfl Tryz.underlying108 sz_23 (by omega) (by omega)) (.none rfl) rfl rfl ?_
   refine WQ.val (v_load1 rfl rfl one_23 (cellAt (mtL_val m (by omega)))) (.none rfl) rfl rfl ?_
   refine WQ.val (v_xor rfl rfl rfl (bits_xor_u64 hg.1 (by omega) hv.1 hv.2)) (.none rfl) rfl rfl ?_
   refine WQ.val (v_move rfl rfl) (.none rfl) rfl rfl <| WQ.val (v_fieldAddr0 rfl rfl fld_115_1) (.none rfl) rfl rfl <| ?_
   refine WQ.val (v_indexAddrA (lo := k) rfl rfl rfl Tryz.underlying108 sz_23 (by omega) (by omega)) (.none rfl) rfl rfl ?_
   refine WQ.val (v_load1 rfl rfl one_23 (cellAt (mtL_mask m (by omega)))) (.none rfl) rfl rfl ?_
   refine WQ.val (v_and rfl rfl rfl (bits_and_u64 hx.1 hx.2 hmk.1 hmk.2)) (.none rfl) rfl rfl ?_
   refine WQ.test (v_neq rfl rfl rfl) (.none rfl) rfl rfl (fun h22 => ?_) (fun h22 => ?_)
   ·
    refine WQ.nil <| WE.then_n <| WC.cond_t rfl <| WC.seq <| WC.region <| WL.v (v_assign rfl rfl) rfl <| WL.nt <| WC.ret <| WE.block_ret <| WE.then_ret <| WE.then_ret <| WE.block_ret <| WE.then_ret <| WE.ret1 (P := Tryz.prog) (.inl rfl) Tryz.results113 rfl <| ?_
    exact fun w' h => ⟨by rw [decide_eq_false (fun q => h22 (q k (by omega)))], h.frm⟩
   ·
    refine WQ.nil <| WE.then_n <| WC.cond_f rfl <| WC.skip <| WE.block_n <| WE.then_n <| WC.region <| ?_
    refine WL.v (v_add rfl rfl rfl (w_i64 (by omega) (by omega))) rfl ?_
    refine WL.v (v_move rfl rfl) rfl <| WL.nil <| ?_
    exact WE.next (k + 1) (by omega) ⟨by omega, fun j hj => by
    by_cases e : j = k
    · subst e; exact Classical.not_not.1 h22
    · exact hok j (by omega)⟩ (.int rfl (by omega) (.cons rfl (.cons rfl .nil))) (.refl _)
  ·
   refine WL.nt <| WC.seq <| WC.cond_f rfl <| WC.exit <| WE.then_exit <| WE.then_exit <| WE.block_hit <| WE.then_n <| WC.seq <| WC.region <| WL.v (v_assign rfl rfl) rfl <| WL.nt <| WC.ret <| WE.ret1 (P := Tryz.prog) (.inl rfl) Tryz.results113 rfl <| ?_
   obtain rfl : k = 9 := (by omega)
   exact fun w' h => ⟨by rw [decide_eq_true (p := m.hits H) hok], h.frm⟩
def Ac.one (k : Nat) (val : Int) : Ac := ⟨(2 : Int) ^ k, fun i => if i = k then val else 0⟩
theorem AOn_c (w : World) (k : Nat) (hk : k < 9) (val : Int) (_h0 : 0 ≤ val) (h1 : val ≤ fullI k) (hG : GW w) :
    Calls Tryz.prog 45 #[.int .i64 k, .int .u64 val] w fun e w' => e = .returned (.tuple #[acV (Ac.one k val), .int .i64 0]) ∧ Frm (fun _ => False) w w' := by
  have hp : (1 : Int) ≤ 2 ^ k ∧ (2 : Int) ^ k ≤ 256 := by
    match k, hk with
    | 0, _ | 1, _ | 2, _ | 3, _ | 4, _ | 5, _ | 6, _ | 7, _ | 8, _ => decide
  refine enter Tryz.func45 rfl Tryz.ntmps45 rfl (St.start (fun _ => False) w) ?_
  refine WC.seq <| WC.region <| WL.alloc rfl zero_110 (.none rfl) rfl rfl <| ?_
  intro g4 hg4
  refine WL.v (v_assign rfl rfl) rfl <| WL.nt <| WC.seq <| WC.seq <| WC.region <| WL.v (v_move rfl rfl) rfl <| ?_
  refine WL.v ((v_lss rfl rfl rfl).f (by omega)) rfl ?_
  refine WL.v (v_move rfl rfl) rfl <| WL.val (v_move rfl rfl) (.some rfl rfl rfl) rfl rfl <| ?_
  refine WL.val ((v_geq rfl rfl rfl).f (by omega)) (.some rfl rfl rfl) rfl rfl ?_
  refine WL.v (v_pick_f rfl rfl rfl) rfl <| WL.v (v_move rfl rfl) rfl <| WL.val (v_move rfl rfl) (.some rfl rfl rfl) rfl rfl <| WL.val (v_move rfl rfl) (.some rfl rfl rfl) rfl rfl <| WL.call rfl rfl ck_98 (.some rfl rfl rfl) rfl rfl <| ?_
  intro w hS
  refine Calls.then (Full_n w k hk (hG.keep (fun h => h) hS)) hS ?_
  refine WL.val ((v_gtr rfl rfl rfl).f (by omega)) (.some rfl rfl rfl) rfl rfl ?_
  refine WL.v (v_pick_f rfl rfl rfl) rfl <| WL.nt <| WC.cond_f rfl <| WC.skip <| WE.then_n <| WC.seq <| WC.region <| WL.v (v_move rfl rfl) rfl <| ?_
  refine WL.v (v_shl (m := k) (c := (2 : Int) ^ k) rfl rfl rfl rfl (by show k ≤ 64; omega) rfl ((congrArg _ (Int.one_mul _)).trans (w_i64 (by omega) (by omega)))) rfl ?_
  refine WL.v (v_build rfl rfl zero_110 plc_110 rfl) rfl <| WL.alloc rfl zero_110 (.none rfl) rfl rfl <| ?_
  intro g6 hg6
  refine WL.storeW rfl rfl rfl rfl many_110 rfl rfl (.none rfl) rfl <| WL.as (L' := [.row g6 (acL ⟨(2 : Int) ^ k, fun _ => 0⟩), .row g4 (acL ⟨0, fun _ => 0⟩)]) rfl <| WL.nt <| WC.seq <| WC.region <| WL.v (v_move rfl rfl) rfl <| WL.v (v_move rfl rfl) rfl <| WL.v (v_fieldAddr0 rfl rfl fld_110_1) rfl <| ?_
  refine WL.v (v_indexAddrA (lo := k) rfl rfl rfl Tryz.underlying108 sz_23 (by omega) (by omega)) rfl ?_
  refine WL.store1 rfl rfl rfl rfl one_23 (by show 1 + k * 1 < (acL _).length; unfold acL; rw [List.length_cons, ucs_len]; omega) (.none rfl) rfl ?_
  refine WL.as (L' := [.row g6 (acL (Ac.one k val)), .row g4 (acL ⟨0, fun _ => 0⟩)]) (by
  rw [show 1 + k * 1 = k + 1 by omega]
  unfold acL
  rw [List.set_cons_succ, ucs_set hk]
  rfl) ?_
  refine WL.nt <| WC.seq <| WC.region <| WL.v (v_loadN rfl rfl many_110 rfl allAt) rfl <| WL.storeW rfl rfl rfl rfl many_110 rfl rfl (.none rfl) rfl <| WL.v (v_assign rfl rfl) rfl <| WL.nt <| WC.ret <| WE.ret2 (P := Tryz.prog) (.inl rfl) Tryz.results45 (resRow rfl many_110 rfl) rfl <| ?_
  exact fun w' h => ⟨rfl, h.frm⟩
end Go.Proofs.YtkeonnnhogaggaaGreatDoor
/- policy: a node as a tree, and where its nodes lie. -/
namespace Go.Proofs.YtkeonnnhogaggaaGreatDoor
open Go.RowKit

/-- A node, with where its kids lie. -/
inductive Nd where
  | mk (kind f val mask : Int) (ad : Option Addr) (cap : Nat) (kids : List Nd)
def Nd.kind : Nd → Int | .mk k _ _ _ _ _ _ => k
def Nd.f : Nd → Int | .mk _ f _ _ _ _ _ => f
def Nd.val : Nd → Int | .mk _ _ v _ _ _ _ => v
def Nd.mask : Nd → Int | .mk _ _ _ m _ _ _ => m
def Nd.ad : Nd → Option Addr | .mk _ _ _ _ a _ _ => a
def Nd.cap : Nd → Nat | .mk _ _ _ _ _ c _ => c
def Nd.kids : Nd → List Nd | .mk _ _ _ _ _ _ ks => ks
def ndL (t : Nd) : List Value := [.int .i64 t.kind, .int .i64 t.f, .int .u64 t.val, .int .u64 t.mask, .slice t.ad t.kids.length t.cap]
mutual
/-- The node's kids lie in this world where the tree says, and theirs. -/
def Nd.At (w : World) : Nd → Prop
  | .mk _ _ _ _ ad _ kids => KidsAt w ad 0 kids
def KidsAt (w : World) (ad : Option Addr) : Nat → List Nd → Prop
  | _, [] => True
  | i, t :: ts => (∃ b o, ad = some ⟨b, o, none⟩ ∧ w.rangeAt b (o + i * 5) (ndL t)) ∧ t.At w ∧ KidsAt w ad (i + 1) ts
end
mutual
/-- Its numbers are numbers of their types. -/
def Nd.In : Nd → Prop
  | .mk k f v m _ _ kids => (-9223372036854775808 ≤ k ∧ k ≤ 9223372036854775807) ∧ (-9223372036854775808 ≤ f ∧ f ≤ 9223372036854775807) ∧ (0 ≤ v ∧ v ≤ 18446744073709551615) ∧ (0 ≤ m ∧ m ≤ 18446744073709551615) ∧ kids.length ≤ 9223372036854775807 ∧ KidsIn kids
def KidsIn : List Nd → Prop
  | [] => True
  | t :: ts => t.In ∧ KidsIn ts
end
/-! ### What is wrong with a node by itself -/
def isFld (f : Int) : Prop := 0 ≤ f ∧ f < 9
instance (f : Int) : Decidable (isFld f) := by unfold isFld; infer_instance
def fitsP (k : Int) (pred : Bool) : Bool := if pred then decide (1 ≤ k ∧ k ≤ 6) else decide (11 ≤ k ∧ k ≤ 17)
def argE (t : Nd) : Int :=
  if t.kind = 3 then (if ¬ isFld t.f ∨ andNotN t.mask (fullI t.f.toNat) ≠ 0 ∨ andNotN t.val t.mask ≠ 0 then 1 else 0)
  else if t.kind = 14 then (if ¬ isFld t.f ∨ t.f = 3 ∨ t.f = 6 ∨ t.val > fullI t.f.toNat then 1 else 0) else 0
def leastK (k : Int) : Int := if k = 4 ∨ k = 13 then 1 else if k = 17 then 3 else 0
def mostK (k : Int) : Int := if k = 4 ∨ k = 13 then 1 else if k = 17 then 3 else if k = 5 ∨ k = 6 ∨ k = 15 ∨ k = 16 then 64 else 0
def formE (t : Nd) : Int := if (t.kids.length : Int) < leastK t.kind ∨ mostK t.kind < t.kids.length then 2 else 0
def predK (k : Int) (place : Nat) : Bool := decide (k = 4 ∨ k = 5 ∨ k = 6 ∨ k = 13 ∨ k = 17 ∧ place = 0)
end Go.Proofs.YtkeonnnhogaggaaGreatDoor
/- policy: what is wrong with a node; the walk of a tree. -/
namespace Go.Proofs.YtkeonnnhogaggaaGreatDoor
open Go.RowKit

end Go.Proofs.YtkeonnnhogaggaaGreatDoor
/- policy: the walk of a tree, as the code does it. -/
namespace Go.Proofs.YtkeonnnhogaggaaGreatDoor
open Go.RowKit

mutual
/-- The errno, and how many were counted. -/
def walkT : Nd → Int → Bool → Int → Int × Int
  | .mk k f v m a c kids, deep, pred, n =>
    if 16 < deep ∨ 64 < n + 1 then (34, n + 1)
    else if fitsP k pred = false then (12, n + 1)
    else if argE (.mk k f v m a c kids) ≠ 0 then (argE (.mk k f v m a c kids), n + 1)
    else if formE (.mk k f v m a c kids) ≠ 0 then (formE (.mk k f v m a c kids), n + 1)
    else walkKs k 0 kids (deep + 1) (n + 1)
def walkKs (k : Int) : Nat → List Nd → Int → Int → Int × Int
  | _, [], _, n => (0, n)
  | i, t :: ts, deep, n => if (walkT t deep (predK k i) n).1 ≠ 0 then walkT t deep (predK k i) n else walkKs k (i + 1) ts deep (walkT t deep (predK k i) n).2
end
end Go.Proofs.YtkeonnnhogaggaaGreatDoor
/- policy: Check, CheckPred; holds. -/
namespace Go.Proofs.YtkeonnnhogaggaaGreatDoor
open Go.RowKit

end Go.Proofs.YtkeonnnhogaggaaGreatDoor
/- rules.List: Find; Run where one act at most is to be done; the document's example of layer 17. -/
namespace Go.Proofs.YtkeonnnhogaggaaGreatDoor
open Go.RowKit

theorem rangeIn {p : Nat → Prop} {w0 : World} {L : List Ent} {b off : Nat} {cs : List Value} (hp : ¬ p b) (h : w0.rangeAt b off cs) : ∀ w, St p w0 w L → w.rangeAt b off cs := fun _ hS j v hj => hS.old hp (h j v hj)
structure Ru where
  m : Mt
  ad : Option Addr
  n : Nat
  c : Nat
def ruL (r : Ru) : List Value := mtL r.m ++ [.slice r.ad r.n r.c]
theorem ruL_acts (r : Ru) : (ruL r)[18]? = some (.slice r.ad r.n r.c) := by
  unfold ruL
  rw [List.getElem?_append_right (by rw [mtL_len]; omega), mtL_len]; rfl
theorem ruL_match (r : Ru) : seg (ruL r) 0 18 = mtL r.m := by
  unfold seg ruL
  rw [List.drop_zero, List.take_left' (mtL_len _)]
theorem ruL_len (r : Ru) : (ruL r).length = 19 := by simp [ruL, mtL_len]
/-- The first of so many, or -1. -/
def findI (t : Nat → Bool) (n : Nat) : Int := match (List.range n).find? t with | some k => (k : Int) | none => -1
theorem findI_some {t : Nat → Bool} {n k : Nat} (hk : k < n) (h : t k = true) (hb : ∀ j, j < k → t j = false) : findI t n = (k : Int) := by
  unfold findI
  rw [List.find?_range_eq_some.2 ⟨h, List.mem_range.2 hk, fun j hj => by rw [hb j hj]; rfl⟩]
theorem findI_none {t : Nat → Bool} {n : Nat} (hb : ∀ j, j < n → t j = false) : findI t n = -1 := by
  unfold findI
  rw [List.find?_eq_none.2 (fun x hx => by rw [hb x (List.mem_range.1 hx)]; decide)]
theorem Hit1_c (w : World) (gh : Nat) (r : Ru) (H : Hd) (hm : r.m.In) (hH : H.In) (hG : GW w) (hh : w.rangeAt gh 0 (hdL H)) :
    Calls Tryz.prog 124 #[.agg (ruL r).toArray, .pointer (some ⟨gh, 0, none⟩)] w fun e w' => e = .returned (.bool (decide (r.m.hits H))) ∧ Frm (fun _ => False) w w' := by
  refine enter Tryz.func124 rfl Tryz.ntmps124 rfl (St.start (fun _ => False) w) ?_
  refine WC.seq <| WC.region <| WL.box rfl rfl rfl (.none rfl) rfl rfl <| ?_
  intro g2 hg2
  refine WL.v (v_assign rfl rfl) rfl <| WL.nt <| WC.seq <| WC.region <| WL.v (v_fieldAddr0 rfl rfl fld_117_0) rfl <| WL.v (v_loadN rfl rfl many_115 rfl (segAt (m := 18) (ruL_match r))) rfl <| WL.v (v_loadN (cs := hdL H) rfl rfl many_59 rfl (rangeIn (fun h => h) hh)) rfl <| WL.call rfl rfl ck_113 (.none rfl) rfl rfl <| ?_
  intro w hS
  refine Calls.then (Hits_c w r.m H hm hH (hG.keep (fun h => h) hS)) hS ?_
  refine WL.v (v_assign rfl rfl) rfl <| WL.nt <| WC.ret <| WE.ret1 (P := Tryz.prog) (.inl rfl) Tryz.results124 rfl <| ?_
  exact fun w' h => ⟨rfl, h.frm⟩
theorem Idx_c (w : World) (b o n c gh : Nat) (R : Nat → Ru) (H : Hd) (hm : ∀ i, i < n → (R i).m.In) (hH : H.In) (hG : GW w) (hh : w.rangeAt gh 0 (hdL H)) (hn : n ≤ 1000000) (hl : ∀ i, i < n → w.rangeAt b (o + i * 19) (ruL (R i))) :
    Calls Tryz.prog 123 #[.slice (some ⟨b, o, none⟩) n c, .func (.func 124) #[] #[.pointer (some ⟨gh, 0, none⟩)]] w
      fun e w' => e = .returned (.int .i64 (findI (fun i => decide ((R i).m.hits H)) n)) ∧ Frm (fun _ => False) w w' := by
  refine enter Tryz.func123 rfl Tryz.ntmps123 rfl (St.start (fun _ => False) w) ?_
  refine WC.seq <| WC.region <| WL.v (v_assign rfl rfl) rfl <| WL.nt <| WC.seq <| WC.seq <| WC.region <| WL.v (v_move rfl rfl) rfl <| WL.v (v_len_slice rfl rfl Tryz.underlying34) rfl <| WL.v (v_move rfl rfl) rfl <| WL.nt <| WC.block <| ?_
  refine WC.loop (fun k : Nat => [(8, .int .i64 k), (7, .int .i64 n), (6, .slice (some ⟨b, o, none⟩) n c), (0, .slice (some ⟨b, o, none⟩) n c), (1, .func (.func 124) #[] #[.pointer (some ⟨gh, 0, none⟩)])]) (fun _ => []) (fun k => k ≤ n ∧ ∀ j, j < k → decide ((R j).m.hits H) = false) (fun k => n - k) 0 ⟨Nat.zero_le _, fun j h => absurd h (by omega)⟩ (.cons rfl (.cons rfl (.cons rfl (.cons rfl (.cons rfl .nil))))) (.refl _) ?_
  rintro k ⟨hk, hno⟩
  refine WC.seq <| WC.region <| ?_
  refine WL.test (v_lss rfl rfl rfl) (.none rfl) rfl rfl (fun h9 => ?_) (fun h9 => ?_)
  ·
   refine WL.nt <| WC.seq <| WC.cond_t rfl <| WC.skip <| WE.then_n <| WC.seq <| WC.block <| WC.seq <| WC.region <| WL.v (v_move rfl rfl) rfl <| WL.v (v_assign rfl rfl) rfl <| WL.nt <| WC.seq <| WC.region <| ?_
   refine WL.v (v_move rfl rfl) rfl <| WL.v (v_move rfl rfl) rfl <| WL.v (v_move rfl rfl) rfl <| ?_
   refine WL.v (v_indexAddr (lo := k) rfl rfl rfl Tryz.underlying34 sz_117 (by omega) (by omega)) rfl ?_
   refine WL.v (v_loadN (cs := ruL (R k)) rfl rfl many_117 (ruL_len _) (rangeIn (fun h => h) (hl k (by omega)))) rfl ?_
   refine WL.callV rfl rfl rfl ck_124 (.none rfl) rfl rfl ?_
   intro w hS
   refine Calls.then (Hit1_c w gh (R k) H (hm k (by omega)) hH (hG.keep (fun h => h) hS) (rangeIn (fun h => h) hh w hS)) hS ?_
   refine WL.nt ?_
   refine WC.cond_d rfl (fun h16 => ?_) (fun h16 => ?_)
   ·
    refine WC.seq <| WC.region <| WL.v (v_move rfl rfl) rfl <| WL.v (v_assign rfl rfl) rfl <| WL.nt <| WC.ret <| WE.block_ret <| WE.then_ret <| WE.then_ret <| WE.block_ret <| WE.then_ret <| WE.ret1 (P := Tryz.prog) (.inl rfl) Tryz.results123 rfl <| ?_
    exact fun w' h => ⟨by rw [findI_some (by omega) (decide_eq_true h16) hno], h.frm⟩
   ·
    refine WC.skip <| WE.block_n <| WE.then_n <| WC.region <| ?_
    refine WL.v (v_add rfl rfl rfl (w_i64 (by omega) (by omega))) rfl ?_
    refine WL.v (v_move rfl rfl) rfl <| WL.nil <| ?_
    exact WE.next (k + 1) (by omega) ⟨by omega, fun j hj => by
    by_cases e : j = k
    · subst e; exact decide_eq_false h16
    · exact hno j (by omega)⟩ (.int rfl (by omega) (.cons rfl (.cons rfl (.cons rfl (.cons rfl .nil))))) (.refl _)
  ·
   refine WL.nt <| WC.seq <| WC.cond_f rfl <| WC.exit <| WE.then_exit <| WE.then_exit <| WE.block_hit <| WE.then_n <| WC.seq <| WC.region <| WL.v (v_assign rfl rfl) rfl <| WL.nt <| WC.ret <| WE.ret1 (P := Tryz.prog) (.inl rfl) Tryz.results123 rfl <| ?_
   obtain rfl : k = n := (by omega)
   exact fun w' h => ⟨by rw [findI_none hno], h.frm⟩
theorem Find_c (w : World) (b o n c : Nat) (R : Nat → Ru) (H : Hd) (hm : ∀ i, i < n → (R i).m.In) (hH : H.In) (hG : GW w) (hn : n ≤ 1000000) (hl : ∀ i, i < n → w.rangeAt b (o + i * 19) (ruL (R i))) :
    Calls Tryz.prog 81 #[.slice (some ⟨b, o, none⟩) n c, .agg (hdCells H)] w
      fun e w' => e = .returned (.int .i64 (findI (fun i => decide ((R i).m.hits H)) n)) ∧ Frm (fun _ => False) w w' := by
  refine enter Tryz.func81 rfl Tryz.ntmps81 rfl (St.start (fun _ => False) w) ?_
  refine WC.seq <| WC.region <| WL.box rfl rfl rfl (.none rfl) rfl rfl <| ?_
  intro g3 hg3
  refine WL.v (v_assign rfl rfl) rfl <| WL.nt <| WC.seq <| WC.region <| WL.v (v_move rfl rfl) rfl <| WL.v (v_makeFunc rfl rfl rfl) rfl <| WL.call rfl rfl ck_123 (.none rfl) rfl rfl <| ?_
  intro w hS
  refine Calls.then (Idx_c w b o n c g3 R H hm hH (hG.keep (fun h => h) hS) (allAt (g := g3) w hS) hn (fun i hi => rangeIn (fun h => h) (hl i hi) w hS)) hS ?_
  refine WL.v (v_assign rfl rfl) rfl <| WL.nt <| WC.ret <| WE.ret1 (P := Tryz.prog) (.inl rfl) Tryz.results81 rfl <| ?_
  exact fun w' h => ⟨rfl, h.frm⟩
/-! ### A sort of one at most, and what stands beside it -/
end Go.Proofs.YtkeonnnhogaggaaGreatDoor
/- policy: holds. -/
namespace Go.Proofs.YtkeonnnhogaggaaGreatDoor
open Go.RowKit

mutual
/-- All is right with a tree (as a predicate, or as a policy). -/
def okT : Bool → Nd → Prop
  | pred, .mk k f v m a c kids => fitsP k pred = true ∧ argE (.mk k f v m a c kids) = 0 ∧ formE (.mk k f v m a c kids) = 0 ∧ okKs k 0 kids
def okKs (k : Int) : Nat → List Nd → Prop
  | _, [] => True
  | i, t :: ts => okT (predK k i) t ∧ okKs k (i + 1) ts
end
mutual
/-- Whether a predicate holds of a header. -/
def holdsT (H : Hd) : Nd → Bool
  | .mk k f v m _ _ kids => if k = 1 then true else if k = 3 then decide (andN (xorN (getF H f.toNat) v) m = 0) else if k = 4 then !(holdsKs H kids).getD 0 false else if k = 5 then (holdsKs H kids).all id else if k = 6 then (holdsKs H kids).any id else false
def holdsKs (H : Hd) : List Nd → List Bool
  | [] => []
  | t :: ts => holdsT H t :: holdsKs H ts
end
end Go.Proofs.YtkeonnnhogaggaaGreatDoor
/- policy: holds, Holds. -/
namespace Go.Proofs.YtkeonnnhogaggaaGreatDoor
open Go.RowKit

end Go.Proofs.YtkeonnnhogaggaaGreatDoor
/- rules.List: Run where one act at most is to be done; the document's example of layer 17. -/
namespace Go.Proofs.YtkeonnnhogaggaaGreatDoor
open Go.RowKit

def hdsL (Hs : List Hd) : List Value := Hs.flatMap hdL
def outs (a : Nat → Ac) (H : Hd) (k : Nat) : List Hd := (List.range k).map fun i => appK (a i) H 9
def mt0 : Mt := ⟨fun _ => 0, fun _ => 0⟩
theorem Hd.zero_in : Hd.zero.In := by constructor <;> (try intro k) <;> first | decide | exact ⟨Int.le_refl _, (by decide : (0 : Int) ≤ 255)⟩
end Go.Proofs.YtkeonnnhogaggaaGreatDoor
/- policy: headers that are the same; Index, Contains, gather. -/
namespace Go.Proofs.YtkeonnnhogaggaaGreatDoor
open Go.RowKit

def Hd.same (A B : Hd) : Prop := A.port = B.port ∧ (∀ i, i < 6 → A.src i = B.src i) ∧ (∀ i, i < 6 → A.dst i = B.dst i) ∧ A.ty = B.ty ∧ A.sip = B.sip ∧ A.dip = B.dip ∧ A.proto = B.proto ∧ A.sp = B.sp ∧ A.dp = B.dp
instance (A B : Hd) : Decidable (A.same B) := by unfold Hd.same; infer_instance
theorem hdL_same {A B : Hd} : hdL A = hdL B ↔ A.same B := by
  constructor
  · intro h
    unfold hdL at h
    simp only [List.cons.injEq, Value.int.injEq, true_and, and_true] at h
    obtain ⟨h0, h1, h2, h3, h4, h5, h6, h7, h8, h9, h10, h11, h12, h13, h14, h15, h16, h17, h18⟩ := h
    exact ⟨h0, fun i hi => by match i, hi with | 0, _ => exact h1 | 1, _ => exact h2 | 2, _ => exact h3 | 3, _ => exact h4 | 4, _ => exact h5 | 5, _ => exact h6,
      fun i hi => by match i, hi with | 0, _ => exact h7 | 1, _ => exact h8 | 2, _ => exact h9 | 3, _ => exact h10 | 4, _ => exact h11 | 5, _ => exact h12, h13, h14, h15, h16, h17, h18⟩
  · rintro ⟨h0, h1, h2, h3, h4, h5, h6, h7, h8⟩
    unfold hdL
    rw [h0, h1 0 (by omega), h1 1 (by omega), h1 2 (by omega), h1 3 (by omega), h1 4 (by omega), h1 5 (by omega), h2 0 (by omega), h2 1 (by omega), h2 2 (by omega), h2 3 (by omega), h2 4 (by omega), h2 5 (by omega), h3, h4, h5, h6, h7, h8]
theorem hdL_len (H : Hd) : (hdL H).length = 19 := rfl
/-- Headers lie there, one behind the other. -/
def HdsAt (w : World) (ad : Option Addr) (Hs : List Hd) : Prop := ∀ (i : Nat) (H : Hd), Hs[i]? = some H → ∃ b o, ad = some ⟨b, o, none⟩ ∧ w.rangeAt b (o + i * 19) (hdL H)
def inHs (Hs : List Hd) (H : Hd) : Bool := Hs.any fun x => decide (H.same x)
/-- What gather makes of two lists. -/
def gatherT (all : List Hd) : List Hd → Option (List Hd)
  | [] => some all
  | h :: more => if inHs all h then gatherT all more else if all.length = 64 then none else gatherT (all ++ [h]) more
end Go.Proofs.YtkeonnnhogaggaaGreatDoor
/- policy: gather. -/
namespace Go.Proofs.YtkeonnnhogaggaaGreatDoor
open Go.RowKit

/-- A list of headers, and whether there is one. -/
def HdsPost (p : Nat → Prop) (w0 : World) (L : List Ent) (o : Option (List Hd)) (e : Ending) (w' : World) : Prop :=
  ∃ Rs ad c E b, e = .returned (.tuple #[.slice ad (List.length Rs) c, .bool b]) ∧ Vec 19 ad (List.length Rs) c (hdsL Rs) E ∧ St p w0 w' (E ++ L) ∧ ((b = true ∧ o = some Rs) ∨ (b = false ∧ o = none ∧ Rs = [] ∧ ad = none ∧ c = 0))
end Go.Proofs.YtkeonnnhogaggaaGreatDoor
/- Acts: the plain law. -/
namespace Go.Proofs.YtkeonnnhogaggaaGreatDoor
open Go.RowKit

theorem wthF_in {k : Nat} {n : Int} {H : Hd} (hH : H.In) (h0 : 0 ≤ n) (h1 : n ≤ fullI k) : (wthF k n H).In := by
  match k with
  | 0 => have e : fullI 0 = 255 := (by decide); exact { hH with port := (by show _ ∧ n ≤ _; refine ⟨?_, by omega⟩; show _ ≤ n; omega) }
  | 1 => exact { hH with src := ofB_byt n }
  | 2 => exact { hH with dst := ofB_byt n }
  | 3 => have e : fullI 3 = 65535 := (by decide); exact { hH with ty := (by show _ ∧ n ≤ _; refine ⟨?_, by omega⟩; show _ ≤ n; omega) }
  | 4 => have e : fullI 4 = 4294967295 := (by decide); exact { hH with sip := (by show 0 ≤ n ∧ n ≤ _; omega) }
  | 5 => have e : fullI 5 = 4294967295 := (by decide); exact { hH with dip := (by show 0 ≤ n ∧ n ≤ _; omega) }
  | 6 => have e : fullI 6 = 255 := (by decide); exact { hH with proto := (by show _ ∧ n ≤ _; refine ⟨?_, by omega⟩; show _ ≤ n; omega) }
  | 7 => have e : fullI 7 = 65535 := (by decide); exact { hH with sp := (by show _ ∧ n ≤ _; refine ⟨?_, by omega⟩; show _ ≤ n; omega) }
  | 8 => have e : fullI 8 = 65535 := (by decide); exact { hH with dp := (by show _ ∧ n ≤ _; refine ⟨?_, by omega⟩; show _ ≤ n; omega) }
  | _ + 9 => exact hH
/-! ### Two acts as one -/
/-! ### The order of acts -/
end Go.Proofs.YtkeonnnhogaggaaGreatDoor
/- policy: run, par, seq. -/
namespace Go.Proofs.YtkeonnnhogaggaaGreatDoor
open Go.RowKit

/-- One stage of a sequence: what each header gives, gathered. -/
def seqStep (f : Hd → Option (List Hd)) : List Hd → List Hd → Option (List Hd)
  | [], nx => some nx
  | g :: gs, nx => (f g).bind fun out => (gatherT nx out).bind fun nx' => seqStep f gs nx'
mutual
/-- What a policy makes of a header, in the order in which it comes. -/
def runT : Nd → Hd → Option (List Hd)
  | .mk k f v _ _ _ kids, H =>
    if k = 12 then some [H]
    else if k = 13 then (if (holdsKs H kids).getD 0 false then some [H] else some [])
    else if k = 14 then some [wthF f.toNat v H]
    else if k = 15 then parKs kids H []
    else if k = 16 then seqKs kids [H]
    else if k = 17 then (if (holdsKs H kids).getD 0 false then nthKs kids 1 H else nthKs kids 2 H)
    else some []
def parKs : List Nd → Hd → List Hd → Option (List Hd)
  | [], _, all => some all
  | t :: ts, H, all => (runT t H).bind fun out => (gatherT all out).bind fun all' => parKs ts H all'
def seqKs : List Nd → List Hd → Option (List Hd)
  | [], all => some all
  | t :: ts, all => (seqStep (fun g => runT t g) all []).bind fun next => seqKs ts next
def nthKs : List Nd → Nat → Hd → Option (List Hd)
  | [], _, _ => none
  | t :: _, 0, H => runT t H
  | _ :: ts, i + 1, H => nthKs ts i H
end
/-- A list that may be carried on. -/
structure Good (Rs : List Hd) : Prop where
  len : Rs.length ≤ 64
  all : ∀ x ∈ Rs, x.In
end Go.Proofs.YtkeonnnhogaggaaGreatDoor
/- policy: par and seq, walked. -/
namespace Go.Proofs.YtkeonnnhogaggaaGreatDoor
open Go.RowKit

end Go.Proofs.YtkeonnnhogaggaaGreatDoor
/- policy: run, Run. -/
namespace Go.Proofs.YtkeonnnhogaggaaGreatDoor
open Go.RowKit

end Go.Proofs.YtkeonnnhogaggaaGreatDoor
/- The sort of headers: its order; its worlds as mine. -/
namespace Go.Proofs.YtkeonnnhogaggaaGreatDoor
open Go.RowKit Go.Sort

/-! ### The order -/
theorem hcmp_lex (A B : Hd) : ∀ k, hcmpK A B k = lexK (getF A) (getF B) k
  | 0 => rfl
  | k + 1 => by
    show (if hcmpK A B k ≠ 0 then hcmpK A B k else cmpI _ _) = (if lexK (getF A) (getF B) k ≠ 0 then lexK (getF A) (getF B) k else cmpI _ _)
    rw [hcmp_lex A B k]
abbrev HdI := { H : Hd // H.In }
instance : Inhabited HdI := ⟨⟨Hd.zero, Hd.zero_in⟩⟩
/-! ### Worlds -/
end Go.Proofs.YtkeonnnhogaggaaGreatDoor
/- The kit's laying SlLaysF0.n6 at this seat's functions. Printed by wip/tools/lays.py. -/
namespace Go.Proofs.YtkeonnnhogaggaaGreatDoor
open Go.RowKit Go.Shelf

def ren77 : Ren := ⟨fun n => match n with | 6 => 77 | 14 => 120 | 15 => 109 | 20 => 160 | 21 => 161 | 22 => 162 | 23 => 163 | 24 => 164 | 25 => 165 | 26 => 166 | 27 => 167 | 28 => 155 | 29 => 156 | 46 => 193 | 47 => 185 | 48 => 186 | 49 => 194 | 50 => 195 | 57 => 205 | n => n, fun n => match n with | 0 => 0 | 3 => 3 | 4 => 4 | 5 => 5 | 9 => 9 | 22 => 64 | 24 => 59 | 25 => 150 | 39 => 172 | 45 => 212 | 46 => 213 | 50 => 217 | 53 => 56 | 55 => 23 | 66 => 242 | 70 => 246 | 76 => 256 | 77 => 37 | n => n, fun n => n⟩
set_option maxRecDepth 100000 in
theorem lays77 : SlLaysF0.n6 Tryz.prog ren77 where
  mixed := mixed
  f6 := ⟨Tryz.f77.name, by decide, Tryz.func77.trans (congrArg some (by kernel_rfl))⟩
  f14 := ⟨Tryz.f120.name, by decide, Tryz.func120.trans (congrArg some (by kernel_rfl))⟩
  f15 := Tryz.func109.trans (congrArg some (by kernel_rfl))
  f20 := ⟨Tryz.f160.name, by decide, Tryz.func160.trans (congrArg some (by kernel_rfl))⟩
  f21 := ⟨Tryz.f161.name, by decide, Tryz.func161.trans (congrArg some (by kernel_rfl))⟩
  f22 := ⟨Tryz.f162.name, by decide, Tryz.func162.trans (congrArg some (by kernel_rfl))⟩
  f23 := ⟨Tryz.f163.name, by decide, Tryz.func163.trans (congrArg some (by kernel_rfl))⟩
  f24 := ⟨Tryz.f164.name, by decide, Tryz.func164.trans (congrArg some (by kernel_rfl))⟩
  f25 := ⟨Tryz.f165.name, by decide, Tryz.func165.trans (congrArg some (by kernel_rfl))⟩
  f26 := ⟨Tryz.f166.name, by decide, Tryz.func166.trans (congrArg some (by kernel_rfl))⟩
  f27 := ⟨Tryz.f167.name, by decide, Tryz.func167.trans (congrArg some (by kernel_rfl))⟩
  f28 := Tryz.func155.trans (congrArg some (by kernel_rfl))
  f29 := Tryz.func156.trans (congrArg some (by kernel_rfl))
  f46 := ⟨Tryz.f193.name, by decide, Tryz.func193.trans (congrArg some (by kernel_rfl))⟩
  f47 := Tryz.func185.trans (congrArg some (by kernel_rfl))
  f48 := Tryz.func186.trans (congrArg some (by kernel_rfl))
  f49 := ⟨Tryz.f194.name, by decide, Tryz.func194.trans (congrArg some (by kernel_rfl))⟩
  f50 := ⟨Tryz.f195.name, by decide, Tryz.func195.trans (congrArg some (by kernel_rfl))⟩
  f57 := ⟨Tryz.f205.name, by decide, Tryz.func205.trans (congrArg some (by kernel_rfl))⟩
  t0 := Tryz.underlying0
  a0 := Tryz.isAgg0
  z0 := Tryz.sizeOf0
  v0 := Tryz.zeroValue0
  t3 := Tryz.underlying3
  a3 := Tryz.isAgg3
  z3 := Tryz.sizeOf3
  v3 := Tryz.zeroValue3
  t4 := Tryz.underlying4
  a4 := Tryz.isAgg4
  z4 := Tryz.sizeOf4
  v4 := Tryz.zeroValue4
  t5 := Tryz.underlying5
  a5 := Tryz.isAgg5
  z5 := Tryz.sizeOf5
  v5 := Tryz.zeroValue5
  t9 := Tryz.underlying9
  a9 := Tryz.isAgg9
  z9 := Tryz.sizeOf9
  v9 := Tryz.zeroValue9
  t22 := Tryz.underlying64
  a22 := Tryz.isAgg64
  z22 := Tryz.sizeOf64
  v22 := Tryz.zeroValue64
  t25 := Tryz.underlying150
  a25 := Tryz.isAgg150
  z25 := Tryz.sizeOf150
  v25 := Tryz.zeroValue150
  t39 := Tryz.underlying172
  a39 := Tryz.isAgg172
  z39 := Tryz.sizeOf172
  v39 := Tryz.zeroValue172
  t45 := Tryz.underlying212
  a45 := Tryz.isAgg212
  z45 := Tryz.sizeOf212
  v45 := Tryz.zeroValue212
  t46 := Tryz.underlying213
  a46 := Tryz.isAgg213
  z46 := Tryz.sizeOf213
  v46 := Tryz.zeroValue213
  t50 := Tryz.underlying217
  a50 := Tryz.isAgg217
  z50 := Tryz.sizeOf217
  v50 := Tryz.zeroValue217
  t53 := Tryz.underlying56
  a53 := Tryz.isAgg56
  z53 := Tryz.sizeOf56
  v53 := Tryz.zeroValue56
  t55 := Tryz.underlying23
  a55 := Tryz.isAgg23
  z55 := Tryz.sizeOf23
  v55 := Tryz.zeroValue23
  t66 := Tryz.underlying242
  a66 := Tryz.isAgg242
  z66 := Tryz.sizeOf242
  v66 := Tryz.zeroValue242
  t70 := Tryz.underlying246
  a70 := Tryz.isAgg246
  z70 := Tryz.sizeOf246
  v70 := Tryz.zeroValue246
  t76 := Tryz.underlying256
  a76 := Tryz.isAgg256
  z76 := Tryz.sizeOf256
  v76 := Tryz.zeroValue256
  t77 := Tryz.underlying37
  a77 := Tryz.isAgg37
  z77 := Tryz.sizeOf37
  v77 := Tryz.zeroValue37
end Go.Proofs.YtkeonnnhogaggaaGreatDoor
/- slices.SortFunc of headers, whatever their number. -/
namespace Go.Proofs.YtkeonnnhogaggaaGreatDoor
open Go.RowKit Go.Sort

theorem GW.frm {q : Nat → Prop} {w w' : World} (hF : Frm q w w') (hq : ¬ q 1) (h : GW w) : GW w' :=
  h.keep (L := []) hq ⟨hF, (fun _ h => by cases h), (by simp), (fun _ h => by cases h)⟩
theorem GW.lt {w : World} (h : GW w) : 1 < w.heap.size := by
  have h0 := h 0 (by omega)
  unfold World.cell? at h0
  rcases Nat.lt_or_ge 1 w.heap.size with h' | h'
  · exact h'
  · rw [Array.getElem?_eq_none h'] at h0; cases h0
/-- Ascending: no later one is less than an earlier one. -/
def Asc (Rs : List Hd) : Prop := ∀ (i j : Nat) (A B : Hd), Rs[i]? = some A → Rs[j]? = some B → i < j → ¬ hcmpK B A 9 < 0
end Go.Proofs.YtkeonnnhogaggaaGreatDoor
/- policy: Run; Fwd; the law's own par, seq, filter. -/
namespace Go.Proofs.YtkeonnnhogaggaaGreatDoor
open Go.RowKit

/-- What Run hands back. -/
def RunIs (t : Nd) (H : Hd) (Rs : List Hd) (er : Int) : Prop :=
  if (walkT t 1 false 0).1 ≠ 0 then er = (walkT t 1 false 0).1 ∧ Rs = []
  else if H.okB = false then er = 1 ∧ Rs = []
  else match runT t H with
    | none => er = 34 ∧ Rs = []
    | some Qs => er = 0 ∧ Rs.Perm Qs ∧ Asc Rs
end Go.Proofs.YtkeonnnhogaggaaGreatDoor
/- policy: the document's example of layer 16. -/
namespace Go.Proofs.YtkeonnnhogaggaaGreatDoor
open Go.RowKit

end Go.Proofs.YtkeonnnhogaggaaGreatDoor
/- policy: what a policy makes of a header, as a relation between the numbers of headers. -/
namespace Go.Proofs.YtkeonnnhogaggaaGreatDoor
open Go.RowKit

abbrev Ky := Nat → Int
mutual
def holdsG (h : Ky) : Nd → Bool
  | .mk k f v m _ _ kids => if k = 1 then true else if k = 3 then decide (andN (xorN (h f.toNat) v) m = 0) else if k = 4 then !(holdsGs h kids).getD 0 false else if k = 5 then (holdsGs h kids).all id else if k = 6 then (holdsGs h kids).any id else false
def holdsGs (h : Ky) : List Nd → List Bool
  | [] => []
  | t :: ts => holdsG h t :: holdsGs h ts
end
def updK (k : Nat) (v : Int) (h : Ky) : Ky := fun j => if j = k then v else h j
theorem getF_big (H : Hd) (j : Nat) : getF H (j + 9) = 0 := by
  show rawF H (j + 9) % _ = 0
  rw [show rawF H (j + 9) = 0 from rfl, Int.zero_emod]
theorem getF_ge (H : Hd) {j : Nat} (h : 9 ≤ j) : getF H j = 0 := by
  have := getF_big H (j - 9)
  rwa [show j - 9 + 9 = j by omega] at this
theorem getF_ext {A B : Hd} (h : ∀ i, i < 9 → getF A i = getF B i) : getF A = getF B := by
  funext j
  by_cases h9 : j < 9
  · exact h j h9
  · rw [getF_ge _ (by omega), getF_ge _ (by omega)]
mutual
/-- g is among what a policy makes of h. -/
def OutT : Nd → Ky → Ky → Prop
  | .mk k f v _ _ _ kids, h, g =>
    if k = 12 then g = h
    else if k = 13 then (holdsGs h kids).getD 0 false = true ∧ g = h
    else if k = 14 then g = updK f.toNat v h
    else if k = 15 then OutPar kids h g
    else if k = 16 then OutSeq kids h g
    else if k = 17 then (if (holdsGs h kids).getD 0 false then OutNth kids 1 h g else OutNth kids 2 h g)
    else False
def OutPar : List Nd → Ky → Ky → Prop
  | [], _, _ => False
  | t :: ts, h, g => OutT t h g ∨ OutPar ts h g
def OutSeq : List Nd → Ky → Ky → Prop
  | [], h, g => g = h
  | t :: ts, h, g => ∃ m, OutT t h m ∧ OutSeq ts m g
def OutNth : List Nd → Nat → Ky → Ky → Prop
  | [], _, _, _ => False
  | t :: _, 0, h, g => OutT t h g
  | _ :: ts, i + 1, h, g => OutNth ts i h g
end
/-! ### Headers that are right -/
structure Hd.Rt (H : Hd) : Prop where
  isIn : H.In
  ok : H.okB = true
theorem Hd.Rt.nums {H : Hd} (h : H.Rt) : (0 ≤ H.port ∧ H.port ≤ 255) ∧ (0 ≤ H.ty ∧ H.ty ≤ 65535) ∧ (0 ≤ H.proto ∧ H.proto ≤ 255) ∧ (0 ≤ H.sp ∧ H.sp ≤ 65535) ∧ (0 ≤ H.dp ∧ H.dp ≤ 65535) := by
  have h1 := h.ok
  unfold Hd.okB at h1
  simp only [Bool.and_eq_true] at h1
  obtain ⟨⟨⟨⟨a, b⟩, c⟩, d⟩, e⟩ := h1
  have a := of_decide_eq_true a
  have b := of_decide_eq_true b
  have c := of_decide_eq_true c
  have d := of_decide_eq_true d
  have e := of_decide_eq_true e
  rw [show fullI 0 = 255 by decide] at a
  rw [show fullI 3 = 65535 by decide] at b
  rw [show fullI 6 = 255 by decide] at c
  rw [show fullI 7 = 65535 by decide] at d
  rw [show fullI 8 = 65535 by decide] at e
  exact ⟨a, b, c, d, e⟩
theorem numK_inj {f g : Nat → Int} (hf : Byt f) (hg : Byt g) (h : numK f 6 = numK g 6) : ∀ i, i < 6 → f i = g i := by
  have a0 := hf 0; have a1 := hf 1; have a2 := hf 2; have a3 := hf 3; have a4 := hf 4; have a5 := hf 5
  have b0 := hg 0; have b1 := hg 1; have b2 := hg 2; have b3 := hg 3; have b4 := hg 4; have b5 := hg 5
  simp only [numK] at h
  intro i hi
  match i, hi with
  | 0, _ | 1, _ | 2, _ | 3, _ | 4, _ | 5, _ => omega
theorem numK_congr {f g : Nat → Int} (h : ∀ i, i < 6 → f i = g i) : numK f 6 = numK g 6 := by
  simp only [numK]
  rw [h 0 (by omega), h 1 (by omega), h 2 (by omega), h 3 (by omega), h 4 (by omega), h 5 (by omega)]
theorem same_getF {A B : Hd} (hA : A.Rt) (hB : B.Rt) : A.same B ↔ getF A = getF B := by
  constructor
  · rintro ⟨h0, h1, h2, h3, h4, h5, h6, h7, h8⟩
    refine getF_ext fun i hi => ?_
    unfold getF
    have e : rawF A i = rawF B i := by
      match i, hi with
      | 0, _ => show A.port % _ = B.port % _; rw [h0]
      | 1, _ => exact numK_congr h1
      | 2, _ => exact numK_congr h2
      | 3, _ => show A.ty % _ = B.ty % _; rw [h3]
      | 4, _ => exact h4
      | 5, _ => exact h5
      | 6, _ => show A.proto % _ = B.proto % _; rw [h6]
      | 7, _ => show A.sp % _ = B.sp % _; rw [h7]
      | 8, _ => show A.dp % _ = B.dp % _; rw [h8]
    rw [e]
  · intro h
    have hh : ∀ i, getF A i = getF B i := fun i => congrFun h i
    obtain ⟨a0, a3, a6, a7, a8⟩ := hA.nums
    obtain ⟨b0, b3, b6, b7, b8⟩ := hB.nums
    have n1 := numK_le hA.isIn.src (Nat.le_refl 6); have n2 := numK_le hA.isIn.dst (Nat.le_refl 6)
    have m1 := numK_le hB.isIn.src (Nat.le_refl 6); have m2 := numK_le hB.isIn.dst (Nat.le_refl 6)
    have s1 := hA.isIn.sip; have s2 := hA.isIn.dip; have t1 := hB.isIn.sip; have t2 := hB.isIn.dip
    have g0 : A.port % 18446744073709551616 % 256 = B.port % 18446744073709551616 % 256 := hh 0
    have g1 : numK A.src 6 % 281474976710656 = numK B.src 6 % 281474976710656 := hh 1
    have g2 : numK A.dst 6 % 281474976710656 = numK B.dst 6 % 281474976710656 := hh 2
    have g3 : A.ty % 18446744073709551616 % 65536 = B.ty % 18446744073709551616 % 65536 := hh 3
    have g4 : A.sip % 4294967296 = B.sip % 4294967296 := hh 4
    have g5 : A.dip % 4294967296 = B.dip % 4294967296 := hh 5
    have g6 : A.proto % 18446744073709551616 % 256 = B.proto % 18446744073709551616 % 256 := hh 6
    have g7 : A.sp % 18446744073709551616 % 65536 = B.sp % 18446744073709551616 % 65536 := hh 7
    have g8 : A.dp % 18446744073709551616 % 65536 = B.dp % 18446744073709551616 % 65536 := hh 8
    exact ⟨by omega, numK_inj hA.isIn.src hB.isIn.src (by omega), numK_inj hA.isIn.dst hB.isIn.dst (by omega), by omega, by omega, by omega, by omega, by omega, by omega⟩
theorem okB_with {k : Nat} (hk : k < 9) {n : Int} (h0 : 0 ≤ n) (h1 : n ≤ fullI k) {H : Hd} (h : H.okB = true) : (wthF k n H).okB = true := by
  unfold Hd.okB at h ⊢
  simp only [Bool.and_eq_true] at h ⊢
  have hf : ∀ j, j = k → fitsB j n = true := fun j e => by subst e; exact decide_eq_true ⟨h0, h1⟩
  obtain ⟨⟨⟨⟨a, b⟩, c⟩, d⟩, e⟩ := h
  match k, hk with
  | 0, _ => exact ⟨⟨⟨⟨hf 0 rfl, b⟩, c⟩, d⟩, e⟩
  | 1, _ => exact ⟨⟨⟨⟨a, b⟩, c⟩, d⟩, e⟩
  | 2, _ => exact ⟨⟨⟨⟨a, b⟩, c⟩, d⟩, e⟩
  | 3, _ => exact ⟨⟨⟨⟨a, hf 3 rfl⟩, c⟩, d⟩, e⟩
  | 4, _ => exact ⟨⟨⟨⟨a, b⟩, c⟩, d⟩, e⟩
  | 5, _ => exact ⟨⟨⟨⟨a, b⟩, c⟩, d⟩, e⟩
  | 6, _ => exact ⟨⟨⟨⟨a, b⟩, hf 6 rfl⟩, d⟩, e⟩
  | 7, _ => exact ⟨⟨⟨⟨a, b⟩, c⟩, hf 7 rfl⟩, e⟩
  | 8, _ => exact ⟨⟨⟨⟨a, b⟩, c⟩, d⟩, hf 8 rfl⟩
theorem Rt_with {k : Nat} (hk : k < 9) {n : Int} (h0 : 0 ≤ n) (h1 : n ≤ fullI k) {H : Hd} (h : H.Rt) : (wthF k n H).Rt := ⟨wthF_in h.isIn h0 h1, okB_with hk h0 h1 h.ok⟩
/-! ### Lists of headers -/
/-- A number list stands among headers. -/
def inK (Rs : List Hd) (g : Ky) : Prop := ∃ x ∈ Rs, getF x = g
/-- Right headers, each once. -/
structure Once (Rs : List Hd) : Prop where
  all : ∀ x ∈ Rs, x.Rt
  nd : (Rs.map getF).Nodup
/-! ### Sorted lists -/
def ltK (f g : Ky) : Prop := lexK f g 9 < 0
end Go.Proofs.YtkeonnnhogaggaaGreatDoor
/- Comparisons in three ways; lists in strict order are told by what is in them. -/
namespace Go.Proofs.YtkeonnnhogaggaaGreatDoor
open Go.RowKit

/-- A comparison: below 0, 0, above 0. -/
structure Cm {α : Type} (c : α → α → Int) : Prop where
  refl : ∀ a, c a a = 0
  sgn : ∀ a b, 0 < c a b ↔ c b a < 0
  tr : ∀ a b d, c a b ≤ 0 → c b d ≤ 0 → c a d ≤ 0
section
variable {α β : Type} {c d : α → α → Int}
theorem Cm.zero (h : Cm c) {a b : α} (e : c a b = 0) : c b a = 0 := by have := h.sgn a b; have := h.sgn b a; omega
theorem Cm.lt_le (h : Cm c) {a b e : α} (h1 : c a b < 0) (h2 : c b e ≤ 0) : c a e < 0 := by
  have := h.tr a b e (by omega) h2
  have := h.sgn b a; have := h.sgn e a; have := h.sgn a e
  have : c e a ≤ 0 → c b a ≤ 0 := h.tr b e a h2
  omega
theorem Cm.le_lt (h : Cm c) {a b e : α} (h1 : c a b ≤ 0) (h2 : c b e < 0) : c a e < 0 := by
  have := h.tr a b e h1 (by omega)
  have := h.sgn e b; have := h.sgn e a; have := h.sgn a e
  have : c e a ≤ 0 → c e b ≤ 0 := fun k => h.tr e a b k h1
  omega
theorem Cm.lex (hc : Cm c) (hd : Cm d) : Cm (fun a b => if c a b ≠ 0 then c a b else d a b) := by
  refine ⟨fun a => by rw [if_neg (by rw [hc.refl]; omega), hd.refl], fun a b => ?_, fun a b e h1 h2 => ?_⟩
  · have k1 := hc.sgn a b; have k2 := hc.sgn b a; have k3 := hd.sgn a b
    by_cases h : c a b = 0
    · rw [if_neg (by omega), if_neg (by omega)]; exact k3
    · rw [if_pos h, if_pos (by omega)]; exact k1
  · have l1 : c a b ≤ 0 := by split at h1 <;> omega
    have l2 : c b e ≤ 0 := by split at h2 <;> omega
    by_cases z1 : c a b = 0
    · by_cases z2 : c b e = 0
      · rw [if_neg (by omega)] at h1 h2
        have e1 := hc.tr a b e l1 l2
        have e2 := hc.tr e b a (by have := hc.zero z2; omega) (by have := hc.zero z1; omega)
        have e3 := hc.sgn a e; have e4 := hc.sgn e a
        rw [if_neg (by omega)]
        exact hd.tr a b e h1 h2
      · have := hc.le_lt l1 (show c b e < 0 by omega)
        rw [if_pos (by omega)]; omega
    · have := hc.lt_le (show c a b < 0 by omega) l2
      rw [if_pos (by omega)]; omega
theorem Cm.on (f : β → α) (h : Cm c) : Cm (fun a b => c (f a) (f b)) := ⟨fun _ => h.refl _, fun _ _ => h.sgn _ _, fun _ _ _ => h.tr _ _ _⟩
theorem Cm.flip (h : Cm c) : Cm (fun a b => c b a) := ⟨fun _ => h.refl _, fun _ _ => h.sgn _ _, fun _ _ _ h1 h2 => h.tr _ _ _ h2 h1⟩
theorem Cm.triv : Cm (fun (_ _ : α) => 0) := ⟨fun _ => rfl, fun _ _ => by omega, fun _ _ _ _ _ => by omega⟩
/-- Two lists in strict order with the same in them are one. -/
theorem strict_only (h : Cm c) : ∀ (l m : List α), l.Pairwise (fun a b => c a b < 0) → m.Pairwise (fun a b => c a b < 0) → (∀ x, x ∈ l ↔ x ∈ m) → l = m
  | [], [], _, _, _ => rfl
  | [], y :: m, _, _, hm => absurd ((hm y).2 (List.mem_cons_self ..)) (by simp)
  | x :: l, [], _, _, hm => absurd ((hm x).1 (List.mem_cons_self ..)) (by simp)
  | x :: l, y :: m, h1, h2, hm => by
    rw [List.pairwise_cons] at h1 h2
    have irr : ∀ z, ¬ c z z < 0 := fun z => by have := h.refl z; omega
    have e : x = y := by
      rcases List.mem_cons.1 ((hm x).1 (List.mem_cons_self ..)) with e | hx
      · exact e
      · rcases List.mem_cons.1 ((hm y).2 (List.mem_cons_self ..)) with e | hy
        · exact e.symm
        · have a1 := h2.1 x hx; have a2 := h1.1 y hy; have := h.sgn x y; omega
    subst e
    refine congrArg (x :: ·) (strict_only h l m h1.2 h2.2 fun z => ⟨fun hz => ?_, fun hz => ?_⟩)
    · rcases List.mem_cons.1 ((hm z).1 (List.mem_cons_of_mem _ hz)) with e | hz'
      · subst e; exact absurd (h1.1 z hz) (irr z)
      · exact hz'
    · rcases List.mem_cons.1 ((hm z).2 (List.mem_cons_of_mem _ hz)) with e | hz'
      · subst e; exact absurd (h2.1 z hz) (irr z)
      · exact hz'
end
/-- What follows p, each that is as its neighbour ahead left out. -/
def uq {α : Type} (eq : α → α → Bool) : α → List α → List α
  | _, [] => []
  | p, x :: l => if eq x p then uq eq x l else x :: uq eq x l
def uniq {α : Type} (eq : α → α → Bool) : List α → List α
  | [] => []
  | x :: l => x :: uq eq x l
section
variable {α : Type} {eq : α → α → Bool}
theorem uq_snoc (b : α) : ∀ (l : List α) (p : α), uq eq p (l ++ [b]) = uq eq p l ++ if eq b ((p :: l).getLast (List.cons_ne_nil _ _)) then [] else [b]
  | [], p => by
    show (if eq b p then [] else [b]) = [] ++ _
    rw [List.nil_append]; rfl
  | x :: l, p => by
    show (if eq x p then uq eq x (l ++ [b]) else x :: uq eq x (l ++ [b])) = (if eq x p then uq eq x l else x :: uq eq x l) ++ _
    rw [uq_snoc b l x]
    have e : (p :: x :: l).getLast (List.cons_ne_nil _ _) = (x :: l).getLast (List.cons_ne_nil _ _) := rfl
    rw [e]
    split <;> rfl
theorem uq_len : ∀ (l : List α) (p : α), (uq eq p l).length ≤ l.length
  | [], _ => Nat.le_refl _
  | x :: l, p => by
    show (if eq x p then uq eq x l else x :: uq eq x l).length ≤ l.length + 1
    have := uq_len l x
    split
    · omega
    · rw [List.length_cons]; omega
theorem uniq_len (l : List α) : (uniq eq l).length ≤ l.length := by
  cases l with
  | nil => exact Nat.le_refl _
  | cons x l => show (uq eq x l).length + 1 ≤ l.length + 1; have := uq_len (eq := eq) l x; omega
theorem uq_sub : ∀ (l : List α) (p : α), (uq eq p l).Sublist l
  | [], _ => .refl _
  | x :: l, p => by
    show (if eq x p then uq eq x l else x :: uq eq x l).Sublist (x :: l)
    split
    · exact .cons _ (uq_sub l x)
    · exact (uq_sub l x).cons_cons _
theorem uniq_sub (l : List α) : (uniq eq l).Sublist l := by
  cases l with
  | nil => exact .refl _
  | cons x l => exact (uq_sub l x).cons_cons _
/-- One more: it stays out if it is as the last one. -/
theorem uniq_take {l : List α} {m : Nat} {a b : α} (ha : l[m]? = some a) (hb : l[m + 1]? = some b) : uniq eq (l.take (m + 2)) = uniq eq (l.take (m + 1)) ++ if eq b a then [] else [b] := by
  have lb := (List.getElem?_eq_some_iff.1 hb).1
  have e1 : l.take (m + 2) = l.take (m + 1) ++ [b] := by
    rw [List.take_succ_eq_append_getElem lb]
    congr 2
    exact Option.some.inj ((List.getElem?_eq_getElem lb).symm.trans hb)
  have e2 : l.take (m + 1) = l.take m ++ [a] := by
    have la := (List.getElem?_eq_some_iff.1 ha).1
    rw [List.take_succ_eq_append_getElem la]
    congr 2
    exact Option.some.inj ((List.getElem?_eq_getElem la).symm.trans ha)
  rw [e1]
  cases hq : l.take (m + 1) with
  | nil => rw [e2] at hq; simp at hq
  | cons x r =>
    show x :: uq eq x (r ++ [b]) = x :: uq eq x r ++ _
    rw [uq_snoc b r x]
    have e3 : (x :: r).getLast (List.cons_ne_nil _ _) = a := by
      have : ∀ (q : List α) (hq : q ≠ []), q = l.take m ++ [a] → q.getLast hq = a := fun q hn e => by subst e; simp
      exact this _ _ (hq ▸ e2)
    rw [e3]
    rfl
theorem uq_strict {c : α → α → Int} (hc : Cm c) : ∀ (l : List α) (p : α), (p :: l).Pairwise (fun a b => c a b ≤ 0) → (∀ x ∈ l, ∀ y ∈ p :: l, eq x y = false → c y x ≠ 0) → (∀ y ∈ uq eq p l, c p y < 0) ∧ (uq eq p l).Pairwise fun a b => c a b < 0
  | [], _, _, _ => ⟨fun y h => (by cases h), List.Pairwise.nil⟩
  | x :: l, p, h, hn => by
    rw [List.pairwise_cons] at h
    have ih := uq_strict hc l x h.2 (fun z hz y hy => hn z (List.mem_cons_of_mem _ hz) y (List.mem_cons_of_mem _ hy))
    have hpx := h.1 x (List.mem_cons_self ..)
    show (∀ y ∈ (if eq x p then uq eq x l else x :: uq eq x l), c p y < 0) ∧ (if eq x p then uq eq x l else x :: uq eq x l).Pairwise _
    split
    · exact ⟨fun y hy => hc.le_lt hpx (ih.1 y hy), ih.2⟩
    · rename_i he
      have h0 := hn x (List.mem_cons_self ..) p (List.mem_cons_self ..) (by simpa using he)
      refine ⟨fun y hy => ?_, List.pairwise_cons.2 ⟨ih.1, ih.2⟩⟩
      rcases List.mem_cons.1 hy with rfl | hy
      · omega
      · exact hc.le_lt hpx (ih.1 y hy)
/-- In order, what is left is in strict order. -/
theorem uniq_strict {c : α → α → Int} (hc : Cm c) {l : List α} (h : l.Pairwise fun a b => c a b ≤ 0) (hn : ∀ x ∈ l, ∀ y ∈ l, eq x y = false → c y x ≠ 0) : (uniq eq l).Pairwise fun a b => c a b < 0 := by
  cases l with
  | nil => exact List.Pairwise.nil
  | cons x l =>
    have := uq_strict hc l x h (fun z hz y hy => hn z (List.mem_cons_of_mem _ hz) y hy)
    exact List.pairwise_cons.2 this
theorem uq_mem : ∀ (l : List α) (p : α), (∀ x ∈ l, ∀ y ∈ p :: l, eq x y = true → x = y) → ∀ x ∈ l, x ∈ p :: uq eq p l
  | [], _, _, x, h => by cases h
  | z :: l, p, he, x, hx => by
    have ih := uq_mem l z fun x hx y hy => he x (List.mem_cons_of_mem _ hx) y (List.mem_cons_of_mem _ hy)
    have hz : x ∈ z :: uq eq z l := by
      rcases List.mem_cons.1 hx with rfl | hx
      · exact List.mem_cons_self ..
      · exact ih x hx
    show x ∈ p :: (if eq z p then uq eq z l else z :: uq eq z l)
    split
    · rename_i e
      have := he z (List.mem_cons_self ..) p (List.mem_cons_self ..) e
      subst this; exact hz
    · exact List.mem_cons_of_mem _ hz
theorem uniq_mem {l : List α} (he : ∀ x ∈ l, ∀ y ∈ l, eq x y = true → x = y) (x : α) : x ∈ uniq eq l ↔ x ∈ l := by
  refine ⟨fun h => (uniq_sub l).subset h, fun h => ?_⟩
  cases l with
  | nil => cases h
  | cons z l =>
    rcases List.mem_cons.1 h with rfl | h
    · exact List.mem_cons_self ..
    · exact uq_mem l z (fun x hx y hy => he x (List.mem_cons_of_mem _ hx) y hy) x h
end
end Go.Proofs.YtkeonnnhogaggaaGreatDoor
/- The engine: a region that draws its order, of which every operation only makes new things: each operation's value is said by itself, and the order does not matter. -/
namespace Go.Proofs.YtkeonnnhogaggaaGreatDoor
open Go.RowKit

/-- What is said of a value; it stays true where only new blocks come. -/
structure SpT where
  S : Value → World → Prop
  st : ∀ v w w', S v w → Frm (fun _ => False) w w' → S v w'
def spec (Ss : List SpT) (i : Nat) (v : Value) (w : World) : Prop := match Ss[i]? with | some s => s.S v w | none => True
def Given (Ss : List SpT) (w1 : World) (G : Kn → Prop) : List (Nat × Nat) → Kn → Prop
  | [], l => G l
  | x :: js, l => ∀ v, spec Ss x.1 v w1 → Given Ss w1 G js ((x.2, v) :: l)
abbrev FreeX := Nat × Nat × List (Nat × Nat)
section
variable {P : Program} {os : List Oper} {Q : Exit → Act → World → Prop} {n : Nat} {p : Nat → Prop} {w0 : World} {l : Kn} {L : List Ent}
/-- What an operation must hand on. -/
def FreeK (Ss : List SpT) (i d : Nat) (w1 : World) (n : Nat) (l' : Kn) : Act → World → Prop := fun a' w' => Frm (fun _ => False) w1 w' ∧ ∃ v, spec Ss i v w' ∧ Has n a' ((d, v) :: l')
def FreeStep (P : Program) (os : List Oper) (Q : Exit → Act → World → Prop) (n : Nat) (p : Nat → Prop) (w0 : World) (Ss : List SpT) (l : Kn) (L : List Ent) (x : FreeX) : Prop :=
  ∀ w1, St p w0 w1 L → ∀ lx : Kn, Given Ss w1 (fun l' => WL P os.toArray (RQ (FreeK Ss x.1 x.2.1 w1 n l') (NP Q)) n (fun _ => False) w1 [at_ os x.1] l' []) x.2.2 (l ++ lx)
/-! ### The checks -/
def boundTo (o : Oper) (j : Nat) : Bool := o.after.toList.any fun e => Region.binds .any e && Nat.beq e.on j
def slotIs (os : List Oper) (j d : Nat) : Bool := match os[j]? with | some o => (match o.dst with | some e => Nat.beq e d | none => false) | none => false
def frB1 (os : List Oper) (ks : List Nat) (n : Nat) (k : Nat) (x : FreeX) : Bool :=
  Nat.beq x.1 k && slotIs os k x.2.1 && Nat.blt x.2.1 n && !(ks.contains x.2.1) &&
  (match os[k]? with
   | some o => o.after.toList.all (fun e => Nat.blt e.on k) && x.2.2.all (fun y => boundTo o y.1 && slotIs os y.1 y.2)
   | none => false)
def frB (os : List Oper) (ks : List Nat) (n : Nat) : Nat → List FreeX → List Nat → Bool
  | k, [], _ => Nat.beq k os.length
  | k, x :: X, used => frB1 os ks n k x && !(used.contains x.2.1) && frB os ks n (k + 1) X (x.2.1 :: used)
structure FreeOk (os : List Oper) (ks : List Nat) (n : Nat) (X : List FreeX) : Prop where
  len : X.length = os.length
  one : ∀ (k : Nat) (x : FreeX), X[k]? = some x → frB1 os ks n k x = true
  dif : ∀ (j k : Nat) (x y : FreeX), X[j]? = some x → X[k]? = some y → j ≠ k → x.2.1 ≠ y.2.1
/-- All that is listed, as the frame says. -/
def seen (os : List Oper) (listed : Array Bool) (a : Act) : Nat → Kn
  | 0 => []
  | k + 1 => match os[k]? with
    | some o => (match o.dst with | some d => if listed.getD k false = true then (d, a.tmps.getD d undef) :: seen os listed a k else seen os listed a k | none => seen os listed a k)
    | none => seen os listed a k
/-- What holds on the way. -/
structure FreeInv (os : List Oper) (n : Nat) (p : Nat → Prop) (w0 : World) (Ss : List SpT) (l : Kn) (L : List Ent) (listed : Array Bool) (a : Act) (w : World) : Prop where
  size : listed.size = os.length
  has : Has n a l
  st : St p w0 w L
  sp : ∀ j o d, os[j]? = some o → o.dst = some d → listed.getD j false = true → spec Ss j (a.tmps.getD d undef) w
def left (os : List Oper) (listed : Array Bool) : Nat := ((List.range os.length).filter fun j => !listed.getD j false).length
def outsB (os : List Oper) (outs : List (Nat × Nat)) : Bool := outs.all fun y => slotIs os y.1 y.2
end
end Go.Proofs.YtkeonnnhogaggaaGreatDoor
/- The engine: functions of the runtime's own (externs), append to a full slice whose cells are known, x[:hi:max]. -/
namespace Go.Proofs.YtkeonnnhogaggaaGreatDoor
open Go.RowKit

/-- What a call has made beside what was there. -/
theorem St.join {p : Nat → Prop} {w0 w1 w' : World} {L M : List Ent} (hS : St p w0 w1 L) (h : St (fun _ => False) w1 w' M) : St p w0 w' (M ++ L) := by
  refine ⟨hS.frm.trans (h.frm.mono (fun _ h => h.elim)), ?_, ?_, ?_⟩
  · intro e he
    rcases List.mem_append.1 he with he | he
    · exact h.holds e he
    · exact Ent.keep (hS.holds e he) (h.frm.block _ (Ent.lt (hS.holds e he)) (fun h => h))
  · rw [List.map_append, List.nodup_append]
    refine ⟨h.dist, hS.dist, ?_⟩
    rintro a ha b hb rfl
    obtain ⟨e, he, e1⟩ := List.mem_map.1 ha
    obtain ⟨e', he', e2⟩ := List.mem_map.1 hb
    have h1 := (h.mine e he).resolve_left (fun h => h)
    have h2 := Ent.lt (hS.holds e' he')
    omega
  · intro e he
    rcases List.mem_append.1 he with he | he
    · exact .inr (Nat.le_trans hS.frm.size ((h.mine e he).resolve_left (fun h => h)))
    · exact hS.mine e he
theorem rgIn {p : Nat → Prop} {w0 : World} {L : List Ent} {b off : Nat} {cs : List Value} (hp : ¬ p b) (h : w0.rangeAt b off cs) : ∀ w, St p w0 w L → w.rangeAt b off cs := fun _ hS j v hj => hS.old hp (h j v hj)
section
variable {P : Program} {C : World → Prop} {ops : Array Oper} {Q : Exit → Act → World → Prop} {n : Nat} {p : Nat → Prop} {w0 : World} {o : Oper} {rest : List Oper} {l : Kn} {L : List Ent}
/-- A call that is over at once. -/
theorem WL.extern {f : FuncId} {xs : List Operand} {ts : Array TypeId} {vs : List Value} {d : Nat} (ho : o.op = .call { callee := .value (.func f), args := xs.toArray, argTypes := ts })
    (hx : evs l xs = some vs) (hg : On ops o l) (hd : o.dst = some d) (hn : Nat.blt d n = true)
    (h : ∀ w, St p w0 w L → ∃ v w' L', (callFunc f vs.toArray).run P w = .ok (.value v) w' ∧ St p w0 w' L' ∧ WL P ops Q n p w0 rest ((d, v) :: l) L') : WL P ops Q n p w0 (o :: rest) l L := by
  refine WL.op hg hd hn fun a w ha hS => ?_
  obtain ⟨v, w', L', hr, hS', hK⟩ := h w hS
  refine ⟨v, w', L', ?_, hS', hK⟩
  have h2 := ha.evs hx
  unfold execOp
  simp [ho, resolve, Act.eval, Deferred.ofValue, Go.invoke, h2, hr]
section
variable {t tx e s by_ k d m : Nat} {ad : Option Addr} {xs new zs : List Value} {x y : Operand}
end
end
end Go.Proofs.YtkeonnnhogaggaaGreatDoor
/- slices.SortFunc at any element of k cells, whatever their number: the kit's sort as my worlds. -/
namespace Go.Proofs.YtkeonnnhogaggaaGreatDoor
open Go.RowKit Go.Sort Go.Shelf

theorem gs_ext : ∀ a b : World, a.heap = b.heap → a.tape = b.tape → a.drawn = b.drawn → a.os = b.os → a.output = b.output → a = b := by
  rintro ⟨⟩ ⟨⟩ h1 h2 h3 h4 h5
  dsimp only at h1 h2 h3 h4 h5
  subst h1 h2 h3 h4 h5
  rfl
theorem Frm.grows {w w' : World} (h : Frm (fun _ => False) w w') : ∃ q os', w' = Go.Sort.grow (w.drewN q) os' := by
  refine ⟨w'.drawn - w.drawn, (w'.heap.toList.drop w.heap.size).toArray, ?_⟩
  have h1 := h.drawn
  have hh : w'.heap = w.heap ++ (w'.heap.toList.drop w.heap.size).toArray := by
    apply Array.ext_getElem?
    intro k
    rw [Array.getElem?_append]
    split
    · rename_i hk; exact h.block k hk (fun h => h)
    · rename_i hk
      simp only [List.getElem?_toArray, List.getElem?_drop, Array.getElem?_toList]
      rw [show w.heap.size + (k - w.heap.size) = k by omega]
  exact gs_ext _ _ hh h.tape (by show w'.drawn = w.drawn + (w'.drawn - w.drawn); omega) h.os h.output
/-- Elements as cells. -/
def encL {α : Type} (enc : α → List Value) : List α → List Value
  | [] => []
  | x :: xs => enc x ++ encL enc xs
theorem encL_len {α : Type} {enc : α → List Value} {k : Nat} (hk : ∀ x, (enc x).length = k) : ∀ xs : List α, (encL enc xs).length = xs.length * k
  | [] => by simp [encL]
  | x :: xs => by
    show (enc x ++ encL enc xs).length = _
    rw [List.length_append, encL_len hk xs, hk, List.length_cons, Nat.add_mul, Nat.one_mul]; omega
theorem encL_seg {α : Type} {enc : α → List Value} {k : Nat} (hk : ∀ x, (enc x).length = k) : ∀ (xs : List α) (i : Nat) (x : α), xs[i]? = some x → ((encL enc xs).drop (i * k)).take k = enc x
  | [], _, _, h => by simp at h
  | y :: xs, 0, x, h => by
    simp only [List.getElem?_cons_zero, Option.some.injEq] at h
    subst h
    show ((enc y ++ encL enc xs).drop (0 * k)).take k = _
    rw [Nat.zero_mul, List.drop_zero, List.take_left' (hk y)]
  | y :: xs, i + 1, x, h => by
    rw [List.getElem?_cons_succ] at h
    show ((enc y ++ encL enc xs).drop ((i + 1) * k)).take k = _
    rw [Nat.add_mul, Nat.one_mul, Nat.add_comm, ← List.drop_drop, List.drop_left' (hk y)]
    exact encL_seg hk xs i x h
section
variable {α : Type} [Inhabited α] {enc : α → List Value} {k : Nat}
theorem gsW_frm (w : World) (blk off m : Nat) (d : Array α) (os : Array Obj) : Frm (fun b => b = blk) w (sortWorldK enc k w blk off m d os) := by
  have hsz : (putRowK enc k (Go.Sort.ahead w m) blk off d).heap.size = w.heap.size := by unfold putRowK; rw [Go.Sort.size_putRow]; rfl
  refine ⟨rfl, rfl, rfl, ?_, ?_, Nat.le_add_right _ _⟩
  · show w.heap.size ≤ ((putRowK enc k (Go.Sort.ahead w m) blk off d).heap ++ os).size
    rw [Array.size_append, hsz]; omega
  · intro j hj hn
    show ((putRowK enc k (Go.Sort.ahead w m) blk off d).heap ++ os)[j]? = _
    rw [Array.getElem?_append_left (by rw [hsz]; exact hj)]
    show (w.heap.modify blk _)[j]? = _
    rw [Array.getElem?_modify, if_neg (fun e => hn e.symm)]
def gsL (enc : α → List Value) (k : Nat) (d : Array α) (cs : List Value) : List Value := (Go.Sort.putCells id 0 (flatK enc k d) cs.toArray).toList
theorem gsL_len (d : Array α) (cs : List Value) : (gsL enc k d cs).length = cs.length := by simp [gsL, Go.Sort.putCells]
theorem encL_get (hk : ∀ x, (enc x).length = k) (hk0 : 0 < k) (d : Array α) {t : Nat} (ht : t < d.size * k) : (encL enc d.toList)[t]? = some ((enc d[t / k]!)[t % k]!) := by
  have hq : t / k < d.size := (Nat.div_lt_iff_lt_mul hk0).2 ht
  have hr : t % k < k := Nat.mod_lt _ hk0
  have e2 : d.toList[t / k]? = some d[t / k]! := by
    rw [Array.getElem?_toList, Array.getElem?_eq_getElem hq, getElem!_pos d (t / k) hq]
  have e3 := encL_seg hk _ _ _ e2
  have e4 : (enc d[t / k]!)[t % k]? = (encL enc d.toList)[t]? := by
    rw [← e3, List.getElem?_take, if_pos hr, List.getElem?_drop]
    congr 1
    exact Nat.div_add_mod' t k
  rw [← e4, getElem!_pos (enc d[t / k]!) (t % k) (by rw [hk]; exact hr)]
  exact List.getElem?_eq_getElem _
theorem gsL_take (hk : ∀ x, (enc x).length = k) (hk0 : 0 < k) (d : Array α) (cs : List Value) (h : d.size * k ≤ cs.length) : (gsL enc k d cs).take (d.size * k) = encL enc d.toList := by
  have hl : (encL enc d.toList).length = d.size * k := by rw [encL_len hk, Array.length_toList]
  apply List.ext_getElem?
  intro t
  by_cases ht : t < d.size * k
  · rw [List.getElem?_take, if_pos ht]
    have e1 : (gsL enc k d cs)[t]? = some ((enc d[t / k]!)[t % k]!) := by
      unfold gsL Go.Sort.putCells
      rw [Array.getElem?_toList, Array.getElem?_mapIdx]
      rw [show cs.toArray[t]? = some (cs[t]'(by omega)) by rw [List.getElem?_toArray]; exact List.getElem?_eq_getElem _]
      simp only [Option.map_some, size_flatK]
      rw [if_pos (by omega), Nat.sub_zero, get_flatK _ _ _ _ ht]
      rfl
    rw [e1, encL_get hk hk0 d ht]
  · rw [List.getElem?_eq_none (by rw [List.length_take]; omega), List.getElem?_eq_none (by rw [hl]; omega)]
theorem gsW_row {w : World} {blk m : Nat} {cs : List Value} {d : Array α} {os : Array Obj} (h : Row w blk cs) : Row (sortWorldK enc k w blk 0 m d os) blk (gsL enc k d cs) := by
  have hlt := h.lt
  obtain ⟨T, lo, hi, hb, hf⟩ := h
  refine ⟨T, lo, hi, ?_, by rw [gsL_len]; exact hf⟩
  have hsz : (putRowK enc k (Go.Sort.ahead w m) blk 0 d).heap.size = w.heap.size := by unfold putRowK; rw [Go.Sort.size_putRow]; rfl
  show ((putRowK enc k (Go.Sort.ahead w m) blk 0 d).heap ++ os)[blk]? = _
  rw [Array.getElem?_append_left (by rw [hsz]; exact hlt)]
  show (w.heap.modify blk _)[blk]? = _
  rw [Array.getElem?_modify, if_pos rfl, hb]
  rfl
theorem gsW_st {p : Nat → Prop} {w0 w : World} {blk m : Nat} {cs : List Value} {d : Array α} {os : Array Obj} {L : List Ent} (hS : St p w0 w (.row blk cs :: L)) : St p w0 (sortWorldK enc k w blk 0 m d os) (.row blk (gsL enc k d cs) :: L) := by
  have hF := gsW_frm (enc := enc) (k := k) w blk 0 m d os
  have hR : Row w blk cs := hS.holds (.row blk cs) (by simp)
  have hm := hS.mine (.row blk cs) (by simp)
  refine ⟨⟨hF.os.trans hS.frm.os, hF.tape.trans hS.frm.tape, hF.output.trans hS.frm.output, Nat.le_trans hS.frm.size hF.size, fun j hj hn => ?_, Nat.le_trans hS.frm.drawn hF.drawn⟩, ?_, hS.dist, ?_⟩
  · have hne : ¬ j = blk := fun e => by
      subst e
      rcases hm with h | h
      · exact hn h
      · exact absurd hj (by show ¬ j < w0.heap.size; have : w0.heap.size ≤ j := h; omega)
    exact (hF.block j (Nat.lt_of_lt_of_le hj hS.frm.size) hne).trans (hS.frm.block j hj hn)
  · intro e he
    rcases List.mem_cons.1 he with rfl | he
    · exact gsW_row hR
    · have hh := hS.holds e (List.mem_cons_of_mem _ he)
      refine Ent.keep hh (hF.block _ (Ent.lt hh) fun e' => ?_)
      have hd := hS.dist
      simp only [List.map_cons, List.nodup_cons] at hd
      exact hd.1 (List.mem_map.2 ⟨e, he, e'⟩)
  · intro e he
    rcases List.mem_cons.1 he with rfl | he
    · exact hm
    · exact hS.mine e (List.mem_cons_of_mem _ he)
/-- Ascending by an order: no later one is less than an earlier one. -/
def AscBy (cf : α → α → Int) (ys : List α) : Prop := ∀ (i j : Nat) (x y : α), ys[i]? = some x → ys[j]? = some y → i < j → ¬ cf y x < 0
theorem gsort_c {P : Program} {ρ : Go.Shelf.Ren} (Ly : SlLaysF0.n6 P ρ) (hk0 : 0 < k) (aE : ∀ w, (isAgg (ρ.t 24)).run P w = .ok true w) (zE : ∀ w, (Go.sizeOf (ρ.t 24)).run P w = .ok k w) (hk : ∀ x, (enc x).length = k) (h1 : ∀ x, ∀ v ∈ enc x, v.oneCell' = true)
    (cf : α → α → Int) (hO : SWO (ltOf cf)) (g : Nat) (cb : Array Value) (eg : ∀ args w, (callFunc g args).run P w = .ok (.enter g args) w) (p : Nat → Prop) (w0 w : World) (L E : List Ent) (ad : Option Addr) (c : Nat) (xs : List α)
    (hcmp : ∀ gb cs, St p w0 w (.row gb cs :: L) → ∀ w', Frm (fun b => b = gb) w w' → ∀ x y, Calls P g (#[.agg (enc x).toArray, .agg (enc y).toArray] ++ cb) w' fun e w'' => e = .returned (.int .i64 (cf x y)) ∧ Frm (fun _ => False) w' w'')
    (hV : Vec k ad xs.length c (encL enc xs) E) (hS : St p w0 w (E ++ L)) (hlen : xs.length < 4611686018427387904) :
    Calls P (ρ.f 6) #[.slice ad xs.length c, .func (.func g) #[] cb] w fun e w' =>
      e = .returned (.tuple #[]) ∧ ∃ ys E', ys.Perm xs ∧ AscBy cf ys ∧ Vec k ad xs.length c (encL enc ys) E' ∧ St p w0 w' (E' ++ L) := by
  rcases hV with ⟨ha, hn, hc, hx, hE⟩ | ⟨gb, cs, rfl, rfl, hx, hcl, hkc⟩
  · have e0 : xs = [] := List.length_eq_zero_iff.1 hn
    subst e0
    refine (Go.Proofs.AnyF.slices_SortFunc_none Ly ad c _ w).mono fun e w' h => ⟨h.1, [], E, .refl _, fun i j A B h => by simp at h, .inl ⟨ha, hn, hc, hx, hE⟩, by rw [h.2]; exact hS⟩
  · have hS' : St p w0 w (.row gb cs :: L) := hS
    have hR : Row w gb cs := hS'.holds (.row gb cs) (by simp)
    have hcs : xs.length * k ≤ cs.length := by rw [hcl]; exact Nat.mul_le_mul_right k hkc
    have hsz : xs.toArray.size = xs.length := by simp
    have hcm : CmpLays P g cb enc k cf gb 0 xs.toArray.size w := fun m os dk hs x y =>
      (hcmp gb cs hS' _ (gsW_frm w gb 0 m dk os) x y).mono fun e w' ⟨he, hF⟩ => ⟨he, hF.grows⟩
    have hH : HoldsK enc k w gb 0 xs.toArray := fun t ht => by
      rw [size_flatK] at ht
      have ht2 : t < cs.length := by rw [hsz] at ht; omega
      rw [Nat.zero_add]
      refine ⟨hR.cell ?_, hR.frozen ht2⟩
      show cs[t]? = some ((flatK enc k xs.toArray)[t]!)
      rw [get_flatK _ _ _ _ ht, ← encL_get hk hk0 _ ht]
      show cs[t]? = (encL enc xs)[t]?
      rw [← hx, List.getElem?_take, if_pos (by rw [← hsz]; exact ht)]
    have key := Go.Proofs.AnyQ.slices_SortFunc Ly k aE zE enc hk h1 cf hO g cb gb 0 c xs.toArray w eg hcm hH hR.lt (by rw [hsz]; exact hlen)
    rw [hsz] at key
    refine key.mono ?_
    rintro e w' ⟨he, d', n, os, ⟨hs1, _, hperm⟩, hsort, rfl⟩
    have hd' : d'.size = xs.length := by rw [hs1, hsz]
    have f1 : d'.extract 0 xs.length = d' := by rw [← hd']; simp
    have f2 : xs.toArray.extract 0 xs.length = xs.toArray := by rw [← hsz]; exact Array.extract_size
    rw [f1, f2] at hperm
    have hrow := gsL_take hk hk0 d' cs (by rw [hd']; exact hcs)
    refine ⟨he, d'.toList, [.row gb (gsL enc k d' cs)], ?_, ?_, ?_, gsW_st hS'⟩
    · exact hperm
    · intro i j A B hi hj hij
      have li := (List.getElem?_eq_some_iff.1 hi).1
      have lj := (List.getElem?_eq_some_iff.1 hj).1
      rw [Array.length_toList] at li lj
      have h := hsort i j (Nat.zero_le _) hij (by rw [← hd']; exact lj)
      rw [Array.getElem?_toList, Array.getElem?_eq_getElem li] at hi
      rw [Array.getElem?_toList, Array.getElem?_eq_getElem lj] at hj
      rw [getElem!_pos d' i li, getElem!_pos d' j lj] at h
      have ea := Option.some.inj hi
      have eb := Option.some.inj hj
      subst ea eb
      exact of_decide_eq_false h
    · exact .inr ⟨gb, gsL enc k d' cs, rfl, rfl, by rw [← hd', hrow], by rw [gsL_len]; exact hcl, hkc⟩
end
end Go.Proofs.YtkeonnnhogaggaaGreatDoor
/- make of elements of s cells; clear of a slice; elements laid over others in a block. -/
namespace Go.Proofs.YtkeonnnhogaggaaGreatDoor
open Go.RowKit

/-- The same blocks in another order, by counting. -/
theorem St.permX {p : Nat → Prop} {w0 w : World} {L L' : List Ent} (hS : St p w0 w L) (h : ∀ (c : Ent → List Ent → Nat) (k : Ent → Ent → Nat), (∀ e a l, c e (a :: l) = c e l + k e a) → (∀ e l r, c e (l ++ r) = c e l + c e r) → (∀ e, c e [] = 0) → ∀ e, c e L = c e L' := by intro c k h1 h2 h3 e; simp only [h1, h2, h3] <;> omega) : St p w0 w L' := hS.perm (by
  classical
  exact List.perm_iff_count.2 fun e => (h (fun e l => l.count e) (fun e a => if a == e then 1 else 0) (fun _ _ _ => List.count_cons) (fun _ _ _ => List.count_append) (fun _ => List.count_nil) e).symm)
/-- Some of the blocks, in whatever order; Z: the others. -/
theorem St.dropX {p : Nat → Prop} {w0 w : World} {L L' : List Ent} (Z : List Ent) (hS : St p w0 w L) (h : ∀ (c : Ent → List Ent → Nat) (k : Ent → Ent → Nat), (∀ e a l, c e (a :: l) = c e l + k e a) → (∀ e l r, c e (l ++ r) = c e l + c e r) → (∀ e, c e [] = 0) → ∀ e, c e L = c e (L' ++ Z) := by intro c k h1 h2 h3 e; simp only [h1, h2, h3] <;> omega) : St p w0 w L' :=
  (hS.permX (L' := L' ++ Z) h).sub (List.sublist_append_left _ _)
section
variable {P : Program} {ops : Array Oper} {Q : Exit → Act → World → Prop} {n : Nat} {p : Nat → Prop} {w0 : World} {o : Oper} {rest : List Oper} {l : Kn} {L : List Ent}
/-- make([]T, m, c), an element s cells. -/
theorem WL.makeN {t e d m c by_ s : Nat} {x y : Operand} {k k' : IntKind} {A B : Int} {zs : List Value} (ho : o.op = .makeSlice t x y) (hx : ev l x = some (.int k A)) (hy : ev l y = some (.int k' B)) (hA : A = (m : Int)) (hB : B = (c : Int)) (hmc : m ≤ c)
    (hu : P.underlying t = some (.slice e)) (hb : (P.info? e).map (·.bytes) = some by_) (hbig : by_ * c ≤ 281474976710656) (hc63 : c < 2 ^ 62) (hs : (P.info? e).map (·.size) = some s) (hz : Zero P e zs) (hzl : zs.length = s) (hg : On ops o l) (hd : o.dst = some d) (hn : Nat.blt d n = true)
    (h : ∀ g, w0.heap.size ≤ g → WL P ops Q n p w0 rest ((d, .slice (some ⟨g, 0, none⟩) m c) :: l) (.row g (List.replicate c zs).flatten :: L)) : WL P ops Q n p w0 (o :: rest) l L := by
  refine WL.op hg hd hn fun a w ha hS => ?_
  have h1 := ha.ev hx
  have h2 := ha.ev hy
  subst hA hB
  obtain ⟨zz, hz, hzz⟩ := hz
  refine ⟨_, _, _, ?_, St.new (cs := (List.replicate c zs).flatten) (T := e) hS, h _ hS.frm.size⟩
  have hzc : zz.cells = zs.toArray := by rw [← hzz]
  have hwm : IntKind.i64.wrap (m : Int) = m := w_i64 (by omega) (by omega)
  have hwc : IntKind.i64.wrap (c : Int) = c := w_i64 (by omega) (by omega)
  have hsz := run_sizeOf (P := P) hs
  have hq : ∃ i, P.info? e = some i ∧ i.bytes = by_ := by
    cases hq : P.info? e with
    | none => simp [hq] at hb
    | some i => exact ⟨i, rfl, by simpa [hq] using hb⟩
  obtain ⟨i, hi, hib⟩ := hq
  have hnc : ¬ ((by_ : Int) * (c : Int) > 2 ^ 48) := by
    have h := Int.ofNat_le.2 hbig
    rw [Int.natCast_mul] at h
    omega
  have hask : ∀ (k : Nat) (w : World), (askRoom k).run P w = .ok () w := fun k w => by
    unfold askRoom
    by_cases h : k > roomBytes
    · rw [if_pos h]; rfl
    · rw [if_neg h]; rfl
  have hrow := zero_row hzl c
  unfold execOp
  simp only [ho, h1, h2, Instr.makeSlice, Sem.run_bind, run_underlying hu, Result.andThen, asInt, asIntOf, Sem.run_pure, typeInfo, program, Sem.run, hi, hib, hwm, hwc]
  have ht1 : (decide ((c : Int) < 0) || decide ((by_ : Int) * (c : Int) > 2 ^ 48) || decide ((m : Int) < 0) || decide ((m : Int) > (c : Int))) = false := by
    simp only [Bool.or_eq_false_iff, decide_eq_false_iff_not]
    exact ⟨⟨⟨by omega, hnc⟩, by omega⟩, by omega⟩
  simp only [ht1, Bool.false_eq_true, if_false, Int.toNat_natCast]
  by_cases h0 : c * s = 0
  · have hnil : (List.replicate c zs).flatten = [] := List.length_eq_zero_iff.1 (by rw [flat_len hzl]; exact h0)
    have h0' : ∀ f : Nat → Value, Array.map f (Array.range 0) = #[] := fun f => Array.ext (by simp) (fun i h => by simp at h)
    rw [hnil]
    simp [hask, hsz, newRow, newObj, Sem.run, h0, h0']
  · have hr2 : Array.map (fun x => zs[x % zs.length]?.getD default) (Array.range (c * s)) = ((List.replicate c zs).flatten).toArray := by
      rw [← hrow]; simp
    simp [hask, hsz, h0, run_zeroValue hz, hzc, hr2, newRow, newObj, Sem.run]
theorem WL.makeMapN {t d kt et : Nat} {x : Operand} {k : IntKind} {A : Int} (ho : o.op = .makeMap t (some x)) (hx : ev l x = some (.int k A)) (hu : P.underlying t = some (.map kt et)) (hg : On ops o l) (hd : o.dst = some d) (hn : Nat.blt d n = true)
    (h : ∀ g, w0.heap.size ≤ g → WL P ops Q n p w0 rest ((d, .map (some g)) :: l) (.obj g (.map #[] 0) :: L)) : WL P ops Q n p w0 (o :: rest) l L := by
  refine WL.op hg hd hn fun a w ha hS => ?_
  have h1 := ha.ev hx
  refine ⟨_, _, _, ?_, St.newObj (ob := .map #[] 0) hS trivial, h _ hS.frm.size⟩
  unfold execOp
  simp [ho, h1, Instr.makeMap, run_underlying hu, asInt, asIntOf, newObj, Sem.run]
theorem Vec.made {s g c : Nat} {zs : List Value} (hzl : zs.length = s) : Vec s (some ⟨g, 0, none⟩) 0 c [] [.row g (List.replicate c zs).flatten] := Vec.row (by rw [Nat.zero_mul]; rfl) (flat_len hzl c) (Nat.zero_le _)
def zrs (zs : List Value) (k : Nat) : List Value := (List.replicate k zs).flatten
theorem zrs_len (zs : List Value) (k : Nat) : (zrs zs k).length = k * zs.length := by unfold zrs; simp
theorem zrs_one {zs : List Value} (h : zs.all one = true) (k : Nat) : (zrs zs k).all one = true := by
  unfold zrs
  rw [List.all_eq_true] at h ⊢
  intro v hv
  obtain ⟨l, hl, hv⟩ := List.mem_flatten.1 hv
  rw [List.eq_of_mem_replicate hl] at hv
  exact h v hv
/-- clear(s): its k elements are zero. -/
theorem WL.clear {t e g off k c s : Nat} {x : Operand} {zs cs : List Value} {L' : List Ent} (ho : o.op = .call { callee := .builtin .clear, args := #[x], argTypes := #[t] }) (hx : ev l x = some (.slice (some ⟨g, off, none⟩) k c))
    (hu : P.underlying t = some (.slice e)) (hz : Zero P e zs) (hzl : zs.length = s) (hall : zs.all one = true) [At L g cs] (hle : off + k * s ≤ cs.length) [Put L g (.row g (splice cs off (zrs zs k))) L'] (hg : On ops o l) (hd : o.dst = none)
    (h : WL P ops Q n p w0 rest l L') : WL P ops Q n p w0 (o :: rest) l L := by
  refine WL.act hg hd fun a w ha hS => ?_
  have hx' : evs l [x] = some [.slice (some ⟨g, off, none⟩) k c] := by simp [evs, hx]
  obtain ⟨cc, hr⟩ := run_builtin (P := P) (w := w) (xs := [x]) ho hx' ha
  obtain ⟨z, hz, hzs⟩ := hz
  have hzc : z.cells = zs.toArray := by rw [← hzs]
  have hl : off + (zrs zs k).length ≤ cs.length := by rw [zrs_len, hzl]; exact hle
  obtain ⟨w', hst, hR', hF⟩ := run_storeCells_row (P := P) (zrs zs k) 0 off cs w (hS.row (g := g)) (by simpa using hl) (zrs_one hall k)
  have hzr : Builtin.zeroCells zs.toArray k = (zrs zs k).toArray := by
    have := zero_row (zs := zs) rfl k
    unfold Builtin.zeroCells zrs
    rw [← this]
    simp
  by_cases h0 : k = 0
  · subst h0
    have e0 : splice cs off (zrs zs 0) = cs := splice_nil cs off
    refine ⟨w, L', .inr ⟨.tuple #[], ?_⟩, hS.put (g := g) (e := .row g (splice cs off (zrs zs 0))) rfl (Frm.refl _ _) (by rw [e0]; exact hS.row (g := g)), h⟩
    rw [hr]
    simp [builtin, Builtin.clear_, run_underlying hu]
  · refine ⟨w', L', .inr ⟨.tuple #[], ?_⟩, hS.put (g := g) (e := .row g (splice cs off (zrs zs k))) rfl hF (show Row _ _ _ by simpa using hR'), h⟩
    obtain ⟨m, rfl⟩ : ∃ m, k = m + 1 := ⟨k - 1, by omega⟩
    rw [hr]
    simp [builtin, Builtin.clear_, run_underlying hu, run_zeroValue hz, hzc, hzr, hst]
section
variable {C : World → Prop}
theorem v_neq_aggE {t yt : TypeId} {x y : Operand} {xs ys : List Value} {ks : List CK} {b : Bool} (ho : o.op = .binOp .neq t x y yt) (hx : ev l x = some (.agg xs.toArray)) (hy : ev l y = some (.agg ys.toArray)) (hE : EqK P 10000 t true ks) (hg : P.eqGuardType P.depth t = false)
    (fx : fitsAll ks xs = true) (fy : fitsAll ks ys = true) (hb : b = true ↔ ¬ xs = ys) : Val P C n l o (.bool b) := by
  cases b with
  | true => exact v_neq_aggT ho hx hy hE hg fx fy (hb.1 rfl)
  | false => exact v_neq_aggF ho hx hy hE hg fx fy (Classical.byContradiction fun h => by have := hb.2 h; cases this)
theorem v_eql_aggD {t yt : TypeId} {x y : Operand} {xs ys : List Value} {ks : List CK} {b : Bool} (ho : o.op = .binOp .eql t x y yt) (hx : ev l x = some (.agg xs.toArray)) (hy : ev l y = some (.agg ys.toArray)) (hE : EqK P 10000 t true ks) (hg : P.eqGuardType P.depth t = false)
    (fx : fitsAll ks xs = true) (fy : fitsAll ks ys = true) (hb : b = true ↔ xs = ys) : Val P C n l o (.bool b) := by
  cases b with
  | false => exact v_eql_aggF ho hx hy hE hg fx fy fun h => by have := hb.2 h; cases this
  | true => exact v_eql_aggT ho hx hy hE hg fx fy (hb.1 rfl)
end
theorem splice_take {cs new : List Value} {k : Nat} (h : k + new.length ≤ cs.length) : (splice cs k new).take k = cs.take k := by
  rw [splice_eq _ _ _ h, List.append_assoc, List.take_left' (by rw [List.length_take]; omega)]
end
/-! ### Elements in a block -/
section
variable {α : Type} {enc : α → List Value} {s : Nat} (hk : ∀ x, (enc x).length = s)
include hk
theorem encL_take : ∀ (ys : List α) (k : Nat) (R : List Value), k ≤ ys.length → (encL enc ys ++ R).take (k * s) = encL enc (ys.take k)
  | ys, 0, R, _ => by rw [Nat.zero_mul]; cases ys <;> rfl
  | [], k + 1, R, h => by simp at h
  | y :: ys, k + 1, R, h => by
    show ((enc y ++ encL enc ys) ++ R).take ((k + 1) * s) = enc y ++ encL enc (ys.take k)
    rw [List.append_assoc, Nat.add_mul, Nat.one_mul, Nat.add_comm, ← hk y, List.take_length_add_append, hk y, encL_take ys k R (by simp at h; omega)]
theorem encL_drop : ∀ (ys : List α) (k : Nat) (R : List Value), k ≤ ys.length → (encL enc ys ++ R).drop (k * s) = encL enc (ys.drop k) ++ R
  | ys, 0, R, _ => by rw [Nat.zero_mul]; cases ys <;> rfl
  | [], k + 1, R, h => by simp at h
  | y :: ys, k + 1, R, h => by
    show ((enc y ++ encL enc ys) ++ R).drop ((k + 1) * s) = encL enc (ys.drop k) ++ R
    rw [List.append_assoc, Nat.add_mul, Nat.one_mul, Nat.add_comm, ← List.drop_drop, List.drop_left' (hk y), encL_drop ys k R (by simp at h; omega)]
/-- An element laid over another one. -/
theorem encL_set (ys : List α) (i : Nat) (x : α) (R : List Value) (h : i < ys.length) : splice (encL enc ys ++ R) (i * s) (enc x) = encL enc (ys.set i x) ++ R := by
  have hl := encL_len hk ys
  have h1 : i * s + s ≤ ys.length * s := by rw [← Nat.succ_mul]; exact Nat.mul_le_mul_right _ h
  rw [splice_eq _ _ _ (by rw [hk, List.length_append]; omega), hk, encL_take hk ys i R (by omega), show i * s + s = (i + 1) * s by rw [Nat.succ_mul], encL_drop hk ys (i + 1) R h]
  have e : ys.set i x = ys.take i ++ x :: ys.drop (i + 1) := by
    rw [List.set_eq_take_append_cons_drop, if_pos h]
  rw [e]
  have : ∀ (xs zs : List α), encL enc (xs ++ zs) = encL enc xs ++ encL enc zs := fun xs zs => by
    induction xs with
    | nil => rfl
    | cons a xs ih => show enc a ++ encL enc (xs ++ zs) = (enc a ++ encL enc xs) ++ encL enc zs; rw [ih, List.append_assoc]
  rw [this]
  show _ = (_ ++ (enc x ++ _)) ++ R
  simp only [List.append_assoc]
theorem encL_at {ys : List α} {i : Nat} {x : α} {R : List Value} (h : ys[i]? = some x) : seg (encL enc ys ++ R) (i * s) s = enc x := by
  have hi := (List.getElem?_eq_some_iff.1 h).1
  unfold seg
  rw [encL_drop hk ys i R (by omega)]
  have e : ys.drop i = x :: ys.drop (i + 1) := by
    rw [List.drop_eq_getElem_cons hi]
    congr 1
    exact Option.some.inj ((List.getElem?_eq_getElem hi).symm.trans h)
  rw [e]
  show ((enc x ++ encL enc (ys.drop (i + 1))) ++ R).take s = enc x
  rw [List.append_assoc, List.take_left' (hk x)]
omit hk in
/-- A slice of one's own: its block's cells are its elements', then others. -/
theorem Vec.split {ad : Option Addr} {c : Nat} {xs : List α} {E : List Ent} (hV : Vec s ad xs.length c (encL enc xs) E) (h : xs ≠ []) : ∃ g R, ad = some ⟨g, 0, none⟩ ∧ E = [.row g (encL enc xs ++ R)] ∧ (encL enc xs ++ R).length = c * s ∧ xs.length ≤ c := by
  rcases hV with ⟨_, hn, _⟩ | ⟨g, cs, rfl, rfl, hx, hl, hc⟩
  · exact absurd (List.length_eq_zero_iff.1 hn) h
  · refine ⟨g, cs.drop (xs.length * s), rfl, ?_, ?_, hc⟩
    · rw [← hx, List.take_append_drop]
    · rw [← hx, List.take_append_drop]; exact hl
end
end Go.Proofs.YtkeonnnhogaggaaGreatDoor
/- Rules and entries of a table: as they lie, as data; their orders. -/
namespace Go.Proofs.YtkeonnnhogaggaaGreatDoor
open Go.RowKit

theorem cmpI_cm : Cm cmpI := by
  refine ⟨fun a => ?_, fun a b => ?_, fun a b c h1 h2 => ?_⟩ <;> unfold cmpI at * <;> (repeat' (split at *)) <;> omega
theorem cmpI_zero {x y : Int} : cmpI x y = 0 ↔ x = y := by unfold cmpI; split <;> (try split) <;> omega
theorem lexK_cm {α : Type} (f : α → Nat → Int) : ∀ k, Cm (fun a b => lexK (f a) (f b) k)
  | 0 => Cm.triv
  | k + 1 => Cm.lex (lexK_cm f k) (cmpI_cm.on fun a => f a k)
theorem lexK_same {f g : Nat → Int} : ∀ {k}, lexK f g k = 0 → ∀ i, i < k → f i = g i
  | 0, _, i, hi => absurd hi (Nat.not_lt_zero i)
  | k + 1, h, i, hi => by
    have h : (if lexK f g k ≠ 0 then lexK f g k else cmpI (f k) (g k)) = 0 := h
    by_cases e : lexK f g k = 0
    · rw [if_neg (fun q => q e)] at h
      by_cases e2 : i = k
      · subst e2; exact cmpI_zero.1 h
      · exact lexK_same e i (by omega)
    · rw [if_pos e] at h; exact absurd h e
theorem acmp_cm : Cm acmp := Cm.lex (cmpI_cm.on Ac.set) (lexK_cm Ac.val 9)
/-- Numbers behind a field's are 0: so an act is told by its cells. -/
def Ac.Nz (a : Ac) : Prop := ∀ k, 9 ≤ k → a.val k = 0
def Mt.Nz (m : Mt) : Prop := ∀ k, 9 ≤ k → m.val k = 0 ∧ m.mask k = 0
theorem Ac.ext' {a b : Ac} (ha : a.Nz) (hb : b.Nz) (h1 : a.set = b.set) (h2 : ∀ k, k < 9 → a.val k = b.val k) : a = b := by
  cases a; cases b
  dsimp only at h1 h2
  subst h1
  congr 1
  funext k
  by_cases hk : k < 9
  · exact h2 k hk
  · exact (ha k (by omega)).trans (hb k (by omega)).symm
theorem acmp_same {a b : Ac} (ha : a.Nz) (hb : b.Nz) (h : acmp a b = 0) : a = b := by
  unfold acmp at h
  split at h
  · rename_i q; exact absurd h q
  · rename_i q; exact Ac.ext' ha hb (cmpI_zero.1 (by omega)) (lexK_same h)
/-- The order of matches: field by field, the mask first. -/
def mcmpK (m n : Mt) : Nat → Int
  | 0 => 0
  | k + 1 => if mcmpK m n k ≠ 0 then mcmpK m n k else (if cmpI (m.mask k) (n.mask k) ≠ 0 then cmpI (m.mask k) (n.mask k) else cmpI (m.val k) (n.val k))
theorem mcmp_cm : ∀ k, Cm (fun a b => mcmpK a b k)
  | 0 => Cm.triv
  | k + 1 => Cm.lex (mcmp_cm k) (Cm.lex (cmpI_cm.on fun m : Mt => m.mask k) (cmpI_cm.on fun m : Mt => m.val k))
/-! ### Rules -/
structure RuD where
  m : Mt
  acts : List Ac
structure RuL where
  m : Mt
  ad : Option Addr
  c : Nat
  acts : List Ac
def RuL.d (r : RuL) : RuD := ⟨r.m, r.acts⟩
def RuL.ru (r : RuL) : Ru := ⟨r.m, r.ad, r.acts.length, r.c⟩
def RuL.cells (r : RuL) : List Value := ruL r.ru
theorem RuL.len (r : RuL) : r.cells.length = 19 := ruL_len _
abbrev actsL (xs : List Ac) : List Value := encL acL xs
theorem acL_len (a : Ac) : (acL a).length = 10 := by show (_ :: ucs a.val 9).length = 10; rw [List.length_cons, ucs_len]
theorem actsL_len (xs : List Ac) : (actsL xs).length = xs.length * 10 := encL_len acL_len xs
theorem encL_append {α : Type} (enc : α → List Value) : ∀ xs ys : List α, encL enc (xs ++ ys) = encL enc xs ++ encL enc ys
  | [], _ => rfl
  | x :: xs, ys => by show enc x ++ encL enc (xs ++ ys) = (enc x ++ encL enc xs) ++ encL enc ys; rw [encL_append enc xs ys, List.append_assoc]
theorem encL_snoc {α : Type} (enc : α → List Value) (xs : List α) (x : α) : encL enc (xs ++ [x]) = encL enc xs ++ enc x := by rw [encL_append]; show _ ++ (enc x ++ []) = _; rw [List.append_nil]
/-- Cells that can be read, from so far on. -/
def Rg (w : World) (ad : Option Addr) (cs : List Value) : Prop := cs ≠ [] → ∃ b o, ad = some ⟨b, o, none⟩ ∧ w.rangeAt b o cs
theorem Rg.seg {w : World} {b o : Nat} {α : Type} {enc : α → List Value} {k : Nat} (hk : ∀ x, (enc x).length = k) {xs : List α} {i : Nat} {x : α} (h : w.rangeAt b o (encL enc xs)) (hx : xs[i]? = some x) : w.rangeAt b (o + i * k) (enc x) := fun j v hj => by
  have := encL_seg hk xs i x hx
  rw [← this] at hj
  rw [List.getElem?_take] at hj
  split at hj
  · rw [List.getElem?_drop] at hj
    have := h _ _ hj
    rwa [Nat.add_assoc]
  · cases hj
theorem Rg.frm {q : Nat → Prop} {w w' : World} {ad : Option Addr} {cs : List Value} (hF : Frm q w w') (h : Rg w ad cs) (hq : ∀ b o, ad = some ⟨b, o, none⟩ → ¬ q b) : Rg w' ad cs := fun hn => by
  obtain ⟨b, o, e, hr⟩ := h hn
  exact ⟨b, o, e, rgIn (p := q) (L := []) (hq b o e) hr w' ⟨hF, (fun _ h => by cases h), (by simp), (fun _ h => by cases h)⟩⟩
def actErr (xs : List Ac) : Int := if xs.length > 64 then 34 else if ∀ a ∈ xs, a.Ok then 0 else 1
def Mt.Okk (m : Mt) : Prop := ∀ k, k < 9 → mtOk k (m.val k) (m.mask k)
instance (m : Mt) : Decidable m.Okk := by unfold Mt.Okk; infer_instance
def RuD.err (r : RuD) : Int := if r.m.Okk then actErr r.acts else 1
/-- The first error. -/
def errs {α : Type} (f : α → Int) : List α → Int
  | [] => 0
  | x :: xs => if f x ≠ 0 then f x else errs f xs
theorem errs_zero {α : Type} {f : α → Int} : ∀ {xs : List α}, errs f xs = 0 ↔ ∀ x ∈ xs, f x = 0
  | [] => ⟨fun _ _ h => (by cases h), fun _ => rfl⟩
  | x :: xs => by
    show (if f x ≠ 0 then f x else errs f xs) = 0 ↔ _
    by_cases h : f x = 0
    · rw [if_neg (fun q => q h), errs_zero]
      exact ⟨fun k y hy => (by rcases List.mem_cons.1 hy with e | hy; (rw [e]; exact h); exact k y hy), fun k y hy => k y (List.mem_cons_of_mem _ hy)⟩
    · rw [if_pos h]
      exact ⟨fun k => absurd k h, fun k => k x (List.mem_cons_self ..)⟩
/-! ### Entries -/
structure EnD where
  prio : Int
  mark : Int
  r : RuD
structure EnL where
  prio : Int
  mark : Int
  r : RuL
def EnL.d (e : EnL) : EnD := ⟨e.prio, e.mark, e.r.d⟩
def EnL.cells (e : EnL) : List Value := .int .i64 e.prio :: .int .i64 e.mark :: e.r.cells
theorem EnL.len (e : EnL) : e.cells.length = 21 := by show (_ :: _ :: e.r.cells).length = 21; rw [List.length_cons, List.length_cons, RuL.len]
abbrev ensL (es : List EnL) : List Value := encL EnL.cells es
theorem ensL_len (es : List EnL) : (ensL es).length = es.length * 21 := encL_len EnL.len es
structure RuD.In (r : RuD) : Prop where
  m : r.m.In
  nz : r.m.Nz
  act : ∀ a ∈ r.acts, a.In ∧ a.Nz
structure EnD.In (e : EnD) : Prop where
  prio : -9223372036854775808 ≤ e.prio ∧ e.prio ≤ 9223372036854775807
  mark : -9223372036854775808 ≤ e.mark ∧ e.mark ≤ 9223372036854775807
  r : e.r.In
def EnD.err (e : EnD) : Int := if 0 ≤ e.prio ∧ e.prio ≤ 1073741824 then e.r.err else 1
/-- The order of entries. -/
def ordE (a b : EnD) : Int := if cmpI b.prio a.prio ≠ 0 then cmpI b.prio a.prio else mcmpK a.r.m b.r.m 9
theorem ordE_cm : Cm ordE := Cm.lex (cmpI_cm.on EnD.prio).flip ((mcmp_cm 9).on fun e : EnD => e.r.m)
/-- Acts in order, each once. -/
def NormP (xs ys : List Ac) : Prop := ys.Pairwise (fun a b => acmp a b < 0) ∧ ∀ x, x ∈ ys ↔ x ∈ xs
theorem NormP.one {xs ys zs : List Ac} (h1 : NormP xs ys) (h2 : NormP xs zs) : ys = zs := strict_only acmp_cm ys zs h1.1 h2.1 fun x => (h1.2 x).trans (h2.2 x).symm
end Go.Proofs.YtkeonnnhogaggaaGreatDoor
/- match.Check, match.Cmp; rules.List.Check of one rule; an entry's check; the order of entries. -/
namespace Go.Proofs.YtkeonnnhogaggaaGreatDoor
open Go.RowKit

theorem splice_all {cs new : List Value} (h : new.length = cs.length) : splice cs 0 new = new := by
  rw [splice_eq _ _ _ (by omega), List.take_zero, List.nil_append, List.drop_eq_nil_of_le (by omega), List.append_nil]
theorem ite01_no {c : Prop} [Decidable c] (h : ¬ (if c then (0 : Int) else 1) ≠ 0) : c := by
  by_cases k : c
  · exact k
  · exact absurd (by rw [if_neg k]; decide) h
theorem ite01_yes {c : Prop} [Decidable c] (h : (if c then (0 : Int) else 1) ≠ 0) : ¬ c := fun k => h (if_pos k)
theorem mcmp_stays {m n : Mt} {k : Nat} (h : mcmpK m n k ≠ 0) : ∀ j, mcmpK m n (k + j) = mcmpK m n k
  | 0 => rfl
  | j + 1 => by
    have := mcmp_stays h j
    show (if mcmpK m n (k + j) ≠ 0 then mcmpK m n (k + j) else _) = _
    rw [this, if_pos h]
theorem MCheck_c (w : World) (m : Mt) (hm : m.In) (hG : GW w) :
    Calls Tryz.prog 140 #[mtV m] w fun e w' => e = .returned (.int .i64 (if m.Okk then 0 else 1)) ∧ Frm (fun _ => False) w w' := by
  refine enter Tryz.func140 rfl Tryz.ntmps140 rfl (St.start (fun _ => False) w) ?_
  refine WC.seq <| WC.region <| WL.box rfl rfl rfl (.none rfl) rfl rfl <| ?_
  intro g1 hg1
  refine WL.v (v_assign rfl rfl) rfl <| WL.nt <| WC.seq <| WC.seq <| WC.region <| WL.v (v_move rfl rfl) rfl <| WL.nt <| WC.block <| ?_
  refine WC.loop (fun k : Nat => [(4, .int .i64 k), (1, .pointer (some ⟨g1, 0, none⟩))]) (fun _ => [.row g1 (mtL m)]) (fun k => k ≤ 9 ∧ ∀ j, j < k → mtOk j (m.val j) (m.mask j)) (fun k => 9 - k) 0 ⟨Nat.zero_le _, fun j h => absurd h (by omega)⟩ (.cons rfl (.cons rfl .nil)) (.refl _) ?_
  rintro k ⟨hk, hok⟩
  refine WC.seq <| WC.region <| ?_
  refine WL.test (v_lss rfl rfl rfl) (.none rfl) rfl rfl (fun h5 => ?_) (fun h5 => ?_)
  ·
   refine WL.nt <| WC.seq <| WC.cond_t rfl <| WC.skip <| WE.then_n <| WC.seq <| WC.block <| WC.seq <| WC.region <| WL.v (v_move rfl rfl) rfl <| WL.v (v_assign rfl rfl) rfl <| WL.nt <| WC.seq <| ?_
   refine WC.quiet mixed (by kernel_rfl) ?_
   refine WQ.val (v_move rfl rfl) (.none rfl) rfl rfl <| WQ.val (v_move rfl rfl) (.none rfl) rfl rfl <| WQ.val (v_fieldAddr0 rfl rfl fld_115_0) (.none rfl) rfl rfl <| ?_
   refine WQ.val (v_indexAddrA (lo := k) rfl rfl rfl Tryz.underlying108 sz_23 (by omega) (by omega)) (.none rfl) rfl rfl ?_
   refine WQ.val (v_load1 rfl rfl one_23 (cellAt (mtL_val m (by omega)))) (.none rfl) rfl rfl ?_
   refine WQ.val (v_move rfl rfl) (.none rfl) rfl rfl <| WQ.val (v_fieldAddr0 rfl rfl fld_115_1) (.none rfl) rfl rfl <| ?_
   refine WQ.val (v_indexAddrA (lo := k) rfl rfl rfl Tryz.underlying108 sz_23 (by omega) (by omega)) (.none rfl) rfl rfl ?_
   refine WQ.val (v_load1 rfl rfl one_23 (cellAt (mtL_mask m (by omega)))) (.none rfl) rfl rfl ?_
   refine WQ.call _ rfl rfl ck_172 (.none rfl) rfl rfl (fun w hS => Calls.still (MRight_c w k (by omega) (m.val k) (m.mask k) (hm.val k) (hm.mask k) (hG.keep (fun h => h) hS)) hS) ?_
   refine WQ.val (v_notD rfl rfl) (.none rfl) rfl rfl <| WQ.nil <| WE.then_n <| ?_
   refine WC.cond_d rfl (fun h17 => ?_) (fun h17 => ?_)
   ·
    refine WC.seq <| WC.region <| WL.v (v_assign rfl rfl) rfl <| WL.nt <| WC.ret <| WE.block_ret <| WE.then_ret <| WE.then_ret <| WE.block_ret <| WE.then_ret <| WE.ret1 (P := Tryz.prog) (.inl rfl) Tryz.results140 rfl <| ?_
    exact fun w' h => ⟨by rw [if_neg (fun q => h17 (q k (by omega)))], h.frm⟩
   ·
    refine WC.skip <| WE.block_n <| WE.then_n <| WC.region <| ?_
    refine WL.v (v_add rfl rfl rfl (w_i64 (by omega) (by omega))) rfl ?_
    refine WL.v (v_move rfl rfl) rfl <| WL.nil <| ?_
    exact WE.next (k + 1) (by omega) ⟨by omega, fun j hj => by
    by_cases e : j = k
    · subst e; exact Classical.not_not.1 h17
    · exact hok j (by omega)⟩ (.int rfl (by omega) (.cons rfl .nil)) (.refl _)
  ·
   refine WL.nt <| WC.seq <| WC.cond_f rfl <| WC.exit <| WE.then_exit <| WE.then_exit <| WE.block_hit <| WE.then_n <| WC.seq <| WC.region <| WL.v (v_assign rfl rfl) rfl <| WL.nt <| WC.ret <| WE.ret1 (P := Tryz.prog) (.inl rfl) Tryz.results140 rfl <| ?_
   obtain rfl : k = 9 := (by omega)
   exact fun w' h => ⟨by rw [if_pos (c := m.Okk) hok], h.frm⟩
theorem actErr_bad {xs : List Ac} {k : Nat} {a : Ac} (h64 : ¬ xs.length > 64) (ha : xs[k]? = some a) (h : ¬ a.Ok) : actErr xs = 1 := by
  unfold actErr
  rw [if_neg h64, if_neg (fun q => h (q a (List.mem_of_getElem? ha)))]
theorem actErr_ok {xs : List Ac} (h64 : ¬ xs.length > 64) (h : ∀ j a, j < xs.length → xs[j]? = some a → a.Ok) : actErr xs = 0 := by
  unfold actErr
  rw [if_neg h64, if_pos (fun a ha => by
    obtain ⟨i, hi, e⟩ := List.mem_iff_getElem.1 ha
    exact h i a hi (by rw [List.getElem?_eq_getElem hi, e]))]
theorem ruC_match (r : RuL) : seg r.cells 0 18 = mtL r.m := ruL_match _
theorem ruC_acts (r : RuL) : r.cells[18]? = some (.slice r.ad r.acts.length r.c) := ruL_acts _
/-- One rule alone. -/
theorem RsCheck_c (w : World) (b c : Nat) (r : RuL) (hI : r.d.In) (hb : w.rangeAt b 0 r.cells) (ha : Rg w r.ad (actsL r.acts)) (hG : GW w) :
    Calls Tryz.prog 99 #[.slice (some ⟨b, 0, none⟩) 1 c] w fun e w' => e = .returned (.int .i64 r.d.err) ∧ Frm (fun _ => False) w w' := by
  refine enter Tryz.func99 rfl Tryz.ntmps99 rfl (St.start (fun _ => False) w) ?_
  refine WC.seq <| WC.region <| WL.v (v_assign rfl rfl) rfl <| WL.nt <| WC.seq <| WC.seq <| WC.region <| WL.v (v_move rfl rfl) rfl <| WL.v (v_len_slice rfl rfl Tryz.underlying34) rfl <| ?_
  refine WL.v ((v_gtr rfl rfl rfl).f (by omega)) rfl ?_
  refine WL.nt <| WC.cond_f rfl <| WC.skip <| WE.then_n <| WC.seq <| WC.seq <| WC.region <| WL.v (v_move rfl rfl) rfl <| WL.v (v_len_slice rfl rfl Tryz.underlying34) rfl <| WL.v (v_move rfl rfl) rfl <| WL.nt <| WC.block <| ?_
  refine WC.loop (fun k : Nat => [(14, .int .i64 k), (13, .int .i64 1), (12, .slice (some ⟨b, 0, none⟩) 1 c)]) (fun _ => []) (fun k => k ≤ 1 ∧ (k = 1 → r.d.err = 0)) (fun k => 1 - k) 0 ⟨Nat.zero_le _, fun h => absurd h (by omega)⟩ (.cons rfl (.cons rfl (.cons rfl .nil))) (.refl _) ?_
  rintro k ⟨hk, hk1⟩
  refine WC.seq <| WC.region <| ?_
  refine WL.test (v_lss rfl rfl rfl) (.none rfl) rfl rfl (fun h15 => ?_) (fun h15 => ?_)
  ·
   refine WL.nt <| WC.seq <| WC.cond_t rfl <| WC.skip <| WE.then_n <| WC.seq <| WC.block <| WC.seq <| WC.region <| ?_
   refine WL.v (v_indexAddr (lo := 0) rfl rfl rfl Tryz.underlying34 sz_117 (by omega) (by omega)) rfl ?_
   refine WL.v (v_loadN (cs := r.cells) rfl rfl many_117 (RuL.len r) (rgIn (fun h => h) hb)) rfl <| WL.alloc rfl zero_117 (.none rfl) rfl rfl <| ?_
   intro g4 hg4
   refine WL.storeW rfl rfl rfl rfl many_117 rfl rfl (.none rfl) rfl <| WL.as (L' := [.row g4 r.cells]) rfl <| WL.nt <| WC.seq <| WC.seq <| WC.region <| WL.v (v_fieldAddr0 rfl rfl fld_117_0) rfl <| WL.v (v_loadN rfl rfl many_115 rfl (segAt (m := 18) (ruC_match r))) rfl <| WL.call rfl rfl ck_140 (.none rfl) rfl rfl <| ?_
   intro w hS
   refine Calls.then (MCheck_c w r.m hI.m (hG.keep (fun h => h) hS)) hS ?_
   refine WL.v (v_assign rfl rfl) rfl <| WL.nt <| WC.seq <| WC.region <| WL.v (v_move rfl rfl) rfl <| ?_
   refine WL.test (v_neq rfl rfl rfl) (.none rfl) rfl rfl (fun h22 => ?_) (fun h22 => ?_)
   ·
    refine WL.nt <| WC.cond_t rfl <| WC.seq <| WC.region <| WL.v (v_move rfl rfl) rfl <| WL.v (v_assign rfl rfl) rfl <| WL.nt <| WC.ret <| WE.then_ret <| WE.block_ret <| WE.then_ret <| WE.then_ret <| WE.block_ret <| WE.then_ret <| ?_
    refine WE.ret1 (P := Tryz.prog) (.inl rfl) Tryz.results99 rfl ?_
    exact fun w' h => ⟨by unfold RuD.err; rw [if_neg (show ¬ r.m.Okk from ite01_yes h22), if_neg (show ¬ (RuL.d r).m.Okk from ite01_yes h22)], h.frm⟩
   ·
    refine WL.nt <| WC.cond_f rfl <| WC.skip <| WE.then_n <| WC.seq <| WC.seq <| WC.region <| WL.v (v_fieldAddr0 rfl rfl fld_117_1) rfl <| WL.v (v_load1 rfl rfl one_113 (cellAt (ruC_acts r))) rfl <| WL.v (v_len_slice rfl rfl Tryz.underlying113) rfl <| ?_
    refine WL.test (v_gtr rfl rfl rfl) (.none rfl) rfl rfl (fun h27 => ?_) (fun h27 => ?_)
    ·
     refine WL.nt <| WC.cond_t rfl <| WC.seq <| WC.region <| WL.v (v_assign rfl rfl) rfl <| WL.nt <| WC.ret <| WE.then_ret <| WE.block_ret <| WE.then_ret <| WE.then_ret <| WE.block_ret <| WE.then_ret <| WE.ret1 (P := Tryz.prog) (.inl rfl) Tryz.results99 rfl <| ?_
     exact fun w' h => ⟨by unfold RuD.err actErr; rw [if_pos (show (RuL.d r).m.Okk from ite01_no h22), if_pos (by have : (RuL.d r).acts.length = r.acts.length := rfl; omega)], h.frm⟩
    ·
     refine WL.nt <| WC.cond_f rfl <| WC.skip <| WE.then_n <| WC.seq <| WC.region <| WL.v (v_fieldAddr0 rfl rfl fld_117_1) rfl <| WL.v (v_load1 rfl rfl one_113 (cellAt (ruC_acts r))) rfl <| WL.v (v_len_slice rfl rfl Tryz.underlying113) rfl <| WL.v (v_move rfl rfl) rfl <| WL.nt <| WC.block <| ?_
     refine WC.loop (fun j : Nat => [(31, .int .i64 j), (30, .int .i64 r.acts.length), (29, .slice r.ad r.acts.length r.c), (14, .int .i64 k), (13, .int .i64 1), (12, .slice (some ⟨b, 0, none⟩) 1 c)]) (fun _ => []) (fun j => j ≤ r.acts.length ∧ ∀ i a, i < j → r.acts[i]? = some a → a.Ok) (fun j => r.acts.length - j) 0 ⟨Nat.zero_le _, fun i a h => absurd h (by omega)⟩ (.cons rfl (.cons rfl (.cons rfl (.cons rfl (.cons rfl (.cons rfl .nil)))))) (List.nil_sublist _) ?_
     rintro j ⟨hj, hjo⟩
     refine WC.seq <| WC.region <| ?_
     refine WL.test (v_lss rfl rfl rfl) (.none rfl) rfl rfl (fun h32 => ?_) (fun h32 => ?_)
     ·
      refine WL.nt <| WC.seq <| WC.cond_t rfl <| WC.skip <| WE.then_n <| WC.seq <| WC.block <| WC.seq <| WC.region <| ?_
      obtain ⟨a, hja⟩ : ∃ a, r.acts[j]? = some a := ⟨r.acts[j]'(by omega), List.getElem?_eq_getElem _⟩
      obtain ⟨b1, o1, ea1, r1⟩ := ha (by intro hn; have := actsL_len r.acts; rw [hn] at this; simp at this; omega)
      refine WL.v ((v_indexAddr (b := b1) (off := o1) (lo := j) rfl (by show some (Value.slice r.ad _ _) = _; rw [ea1]) rfl Tryz.underlying113 sz_110 rfl (by omega))) rfl ?_
      refine WL.v (v_loadN (cs := acL a) rfl rfl many_110 (acL_len a) (rgIn (fun h => h) (Rg.seg acL_len r1 hja))) rfl <| WL.alloc rfl zero_110 (.none rfl) rfl rfl <| ?_
      intro g7 hg7
      refine WL.storeW rfl rfl rfl rfl many_110 rfl rfl (.none rfl) rfl <| WL.nt <| WC.seq <| WC.region <| WL.v (v_loadN rfl rfl many_110 rfl allAt) rfl <| WL.call rfl rfl ck_141 (.none rfl) rfl rfl <| ?_
      intro w hS
      refine Calls.then (ACheck_c w a (hG.keep (fun h => h) hS)) hS ?_
      refine WL.v (v_assign rfl rfl) rfl <| WL.nt <| WC.seq <| WC.region <| WL.v (v_move rfl rfl) rfl <| ?_
      refine WL.test (v_neq rfl rfl rfl) (.none rfl) rfl rfl (fun h38 => ?_) (fun h38 => ?_)
      ·
       refine WL.nt <| WC.cond_t rfl <| WC.seq <| WC.region <| WL.v (v_move rfl rfl) rfl <| WL.v (v_assign rfl rfl) rfl <| WL.nt <| WC.ret <| WE.block_ret <| WE.then_ret <| WE.then_ret <| WE.block_ret <| WE.block_ret <| WE.then_ret <| ?_
       refine WE.then_ret <| WE.block_ret <| WE.then_ret <| WE.ret1 (P := Tryz.prog) (.inl rfl) Tryz.results99 rfl <| ?_
       exact fun w' h => ⟨by unfold RuD.err; rw [if_neg (ite01_yes h38), if_pos (show (RuL.d r).m.Okk from ite01_no h22), actErr_bad (xs := (RuL.d r).acts) (fun q => h27 (by have : (RuL.d r).acts.length = r.acts.length := rfl; omega)) hja (ite01_yes h38)], h.frm⟩
      ·
       refine WL.nt <| WC.cond_f rfl <| WC.skip <| WE.block_n <| WE.then_n <| WC.region <| ?_
       refine WL.v (v_add rfl rfl rfl (w_i64 (by omega) (by omega))) rfl ?_
       refine WL.v (v_move rfl rfl) rfl <| WL.nil <| ?_
       exact WE.next (j + 1) (by omega) ⟨by omega, fun i a' hi ha' => by
       by_cases e : i = j
       · subst e; rw [hja] at ha'; cases ha'; exact ite01_no h38
       · exact hjo i a' (by omega) ha'⟩ (.int rfl (by omega) (.cons rfl (.cons rfl (.cons rfl (.cons rfl (.cons rfl .nil)))))) (List.nil_sublist _)
     ·
      refine WL.nt <| WC.seq <| WC.cond_f rfl <| WC.exit <| WE.then_exit <| WE.then_exit <| WE.block_hit <| WE.block_n <| WE.then_n <| WC.region <| ?_
      refine WL.v (v_add rfl rfl rfl (w_i64 (by omega) (by omega))) rfl ?_
      refine WL.v (v_move rfl rfl) rfl <| WL.nil <| ?_
      exact WE.next (k + 1) (by omega) ⟨by omega, fun _ => by unfold RuD.err; rw [if_pos (show (RuL.d r).m.Okk from ite01_no h22)]; exact actErr_ok (fun q => h27 (by have : (RuL.d r).acts.length = r.acts.length := rfl; omega)) fun i a hi => hjo i a (by have : (RuL.d r).acts.length = r.acts.length := rfl; omega)⟩ (.int rfl (by omega) (.cons rfl (.cons rfl .nil))) (List.nil_sublist _)
  ·
   refine WL.nt <| WC.seq <| WC.cond_f rfl <| WC.exit <| WE.then_exit <| WE.then_exit <| WE.block_hit <| WE.then_n <| WC.seq <| WC.region <| WL.v (v_assign rfl rfl) rfl <| WL.nt <| WC.ret <| WE.ret1 (P := Tryz.prog) (.inl rfl) Tryz.results99 rfl <| ?_
   obtain rfl : k = 1 := (by omega)
   exact fun w' h => ⟨by rw [hk1 rfl], h.frm⟩
theorem MCmp_c (w : World) (m n : Mt) :
    Calls Tryz.prog 107 #[mtV m, mtV n] w fun e w' => e = .returned (.int .i64 (mcmpK m n 9)) ∧ Frm (fun _ => False) w w' := by
  refine enter Tryz.func107 rfl Tryz.ntmps107 rfl (St.start (fun _ => False) w) ?_
  refine WC.seq <| WC.region <| WL.box rfl rfl rfl (.none rfl) rfl rfl <| ?_
  intro g2 hg2
  refine WL.box rfl rfl rfl (.none rfl) rfl rfl ?_
  intro g3 hg3
  refine WL.v (v_assign rfl rfl) rfl <| WL.nt <| WC.seq <| WC.seq <| WC.region <| WL.v (v_move rfl rfl) rfl <| WL.nt <| WC.block <| WC.loop (fun k : Nat => [(7, .int .i64 k), (2, .pointer (some ⟨g2, 0, none⟩)), (3, .pointer (some ⟨g3, 0, none⟩))]) (fun _ => [.row g3 (mtL n), .row g2 (mtL m)]) (fun k => k ≤ 9 ∧ mcmpK m n k = 0) (fun k => 9 - k) 0 ⟨Nat.zero_le _, rfl⟩ (.cons rfl (.cons rfl (.cons rfl .nil))) (.refl _) <| ?_
  rintro k ⟨hk, h0⟩
  refine WC.seq <| WC.region <| ?_
  refine WL.test (v_lss rfl rfl rfl) (.none rfl) rfl rfl (fun h8 => ?_) (fun h8 => ?_)
  ·
   refine WL.nt <| WC.seq <| WC.cond_t rfl <| WC.skip <| WE.then_n <| WC.seq <| WC.block <| WC.seq <| WC.region <| WL.v (v_move rfl rfl) rfl <| WL.v (v_assign rfl rfl) rfl <| WL.nt <| WC.seq <| WC.orders mixed <| ?_
   refine WR.first (g := 9) [0, 1, 2, 4, 5, 6, 9, 10, 11, 13, 14, 15] (by kernel_rfl) (by kernel_rfl) ?_
   refine WP.val (v_move rfl rfl) (.none rfl) rfl rfl <| WP.val (v_fieldAddr0 rfl rfl fld_115_1) (.none rfl) rfl rfl <| ?_
   refine WP.val (v_indexAddrA (lo := k) rfl rfl rfl Tryz.underlying108 sz_23 (by omega) (by omega)) (.none rfl) rfl rfl ?_
   refine WP.val (v_move rfl rfl) (.none rfl) rfl rfl <| WP.val (v_fieldAddr0 rfl rfl fld_115_1) (.none rfl) rfl rfl <| ?_
   refine WP.val (v_indexAddrA (lo := k) rfl rfl rfl Tryz.underlying108 sz_23 (by omega) (by omega)) (.none rfl) rfl rfl ?_
   refine WP.val (v_move rfl rfl) (.none rfl) rfl rfl <| WP.val (v_fieldAddr0 rfl rfl fld_115_0) (.none rfl) rfl rfl <| ?_
   refine WP.val (v_indexAddrA (lo := k) rfl rfl rfl Tryz.underlying108 sz_23 (by omega) (by omega)) (.none rfl) rfl rfl ?_
   refine WP.val (v_move rfl rfl) (.none rfl) rfl rfl <| WP.val (v_fieldAddr0 rfl rfl fld_115_0) (.none rfl) rfl rfl <| ?_
   refine WP.val (v_indexAddrA (lo := k) rfl rfl rfl Tryz.underlying108 sz_23 (by omega) (by omega)) (.none rfl) rfl rfl ?_
   refine WP.nil ?_
   refine WR.read (g := 3) [3, 7, 8, 12, 16, 17] (by kernel_rfl) (by kernel_rfl) (by kernel_rfl) (by kernel_rfl) rfl ?_
   refine WQ.val (v_load1 rfl rfl one_23 (cellAt (mtL_mask m (by omega)))) (.none rfl) rfl rfl ?_
   refine WQ.val (v_load1 rfl rfl one_23 (cellAt (mtL_mask n (by omega)))) (.none rfl) rfl rfl ?_
   refine WQ.call _ rfl rfl ck_121 (.none rfl) rfl rfl (fun w hS => Calls.still (CmpU_c w (m.mask k) (n.mask k)) hS) ?_
   refine WQ.val (v_load1 rfl rfl one_23 (cellAt (mtL_val m (by omega)))) (.none rfl) rfl rfl ?_
   refine WQ.val (v_load1 rfl rfl one_23 (cellAt (mtL_val n (by omega)))) (.none rfl) rfl rfl ?_
   refine WQ.call _ rfl rfl ck_121 (.none rfl) rfl rfl (fun w hS => Calls.still (CmpU_c w (m.val k) (n.val k)) hS) <| WQ.nilR <| ?_
   refine WR.ones (g := 2) [18] (by kernel_rfl) ?_
   refine WL.buildSlice rfl rfl Tryz.underlying74 sz_3 zero_3 rfl (by decide) rfl (.none rfl) rfl rfl ?_
   intro g28 hg28
   refine WL.nilR ?_
   refine WR.read (g := 0) [19, 20] (by kernel_rfl) (by kernel_rfl) (by kernel_rfl) (by kernel_rfl) rfl ?_
   refine WQ.call _ rfl rfl ck_105 (.none rfl) rfl rfl (fun w hS => Calls.still (Or_c w _ _ _ (hS.cell rfl) (hS.cell rfl)) hS) <| WQ.val (v_assign rfl rfl) (.none rfl) rfl rfl <| WQ.nilR <| ?_
   refine WR.done (by kernel_rfl) ?_
   refine WE.then_n <| WC.seq <| WC.region <| WL.v (v_move rfl rfl) rfl <| ?_
   refine WL.test (v_neq rfl rfl rfl) (.none rfl) rfl rfl (fun h31 => ?_) (fun h31 => ?_)
   ·
    refine WL.nt <| WC.cond_t rfl <| WC.seq <| WC.region <| WL.v (v_move rfl rfl) rfl <| WL.v (v_assign rfl rfl) rfl <| WL.nt <| WC.ret <| WE.block_ret <| WE.then_ret <| WE.then_ret <| WE.block_ret <| WE.then_ret <| WE.ret1 (P := Tryz.prog) (.inl rfl) Tryz.results107 rfl <| ?_
    have e1 : mcmpK m n (k + 1) = (if cmpI (m.mask k) (n.mask k) ≠ 0 then cmpI (m.mask k) (n.mask k) else cmpI (m.val k) (n.val k)) := (by show (if mcmpK m n k ≠ 0 then mcmpK m n k else _) = _; rw [if_neg (fun q => q h0)])
    have e2 := mcmp_stays (m := m) (n := n) (k := k + 1) (by rw [e1]; exact h31) (8 - k)
    rw [show k + 1 + (8 - k) = 9 by omega] at e2
    exact fun w' h => ⟨by rw [e2, e1], h.frm⟩
   ·
    refine WL.nt <| WC.cond_f rfl <| WC.skip <| WE.block_n <| WE.then_n <| WC.region <| ?_
    refine WL.v (v_add rfl rfl rfl (w_i64 (by omega) (by omega))) rfl ?_
    refine WL.v (v_move rfl rfl) rfl <| WL.nil <| ?_
    exact WE.next (k + 1) (by omega) ⟨by omega, by show (if _ then _ else _) = _; rw [if_neg (fun q => q h0)]; exact Classical.not_not.1 h31⟩ (.int rfl (by omega) (.cons rfl (.cons rfl .nil))) (.cons _ (.refl _))
  ·
   refine WL.nt <| WC.seq <| WC.cond_f rfl <| WC.exit <| WE.then_exit <| WE.then_exit <| WE.block_hit <| WE.then_n <| WC.seq <| WC.region <| WL.v (v_assign rfl rfl) rfl <| WL.nt <| WC.ret <| WE.ret1 (P := Tryz.prog) (.inl rfl) Tryz.results107 rfl <| ?_
   obtain rfl : k = 9 := (by omega)
   exact fun w' h => ⟨by rw [h0], h.frm⟩
theorem enC_match (e : EnL) : seg e.cells 2 18 = mtL e.r.m := by
  unfold seg EnL.cells
  exact (congrArg (List.take 18) (show List.drop 2 (.int .i64 e.prio :: .int .i64 e.mark :: e.r.cells) = List.drop 0 e.r.cells from rfl)).trans (ruC_match e.r)
theorem enC_rule (e : EnL) : seg e.cells 2 19 = e.r.cells := by
  unfold seg EnL.cells
  show List.take 19 e.r.cells = _
  exact List.take_of_length_le (by rw [RuL.len]; omega)
theorem order_c (w : World) (x y : EnL) :
    Calls Tryz.prog 51 #[.agg x.cells.toArray, .agg y.cells.toArray] w fun e w' => e = .returned (.int .i64 (ordE x.d y.d)) ∧ Frm (fun _ => False) w w' := by
  refine enter Tryz.func51 rfl Tryz.ntmps51 rfl (St.start (fun _ => False) w) ?_
  refine WC.seq <| WC.region <| WL.box rfl rfl rfl (.none rfl) rfl rfl <| ?_
  intro g2 hg2
  refine WL.box rfl rfl rfl (.none rfl) rfl rfl ?_
  intro g3 hg3
  refine WL.v (v_assign rfl rfl) rfl <| WL.nt <| WC.seq <| WC.orders mixed <| ?_
  refine WR.first (g := 9) [0, 2, 5, 6, 8, 9] (by kernel_rfl) (by kernel_rfl) ?_
  refine WP.val (v_fieldAddr0 rfl rfl fld_119_0) (.none rfl) rfl rfl <| WP.val (v_fieldAddr0 rfl rfl fld_119_0) (.none rfl) rfl rfl <| WP.val (v_fieldAddr0 rfl rfl fld_119_2) (.none rfl) rfl rfl <| WP.val (v_fieldAddr rfl rfl fld_117_0) (.none rfl) rfl rfl <| WP.val (v_fieldAddr0 rfl rfl fld_119_2) (.none rfl) rfl rfl <| WP.val (v_fieldAddr rfl rfl fld_117_0) (.none rfl) rfl rfl <| WP.nil <| ?_
  refine WR.read (g := 3) [1, 3, 4, 7, 10, 11] (by kernel_rfl) (by kernel_rfl) (by kernel_rfl) (by kernel_rfl) rfl ?_
  refine WQ.val (v_load1 rfl rfl one_3 (cellAt (v := .int .i64 y.prio) rfl)) (.none rfl) rfl rfl <| WQ.val (v_load1 rfl rfl one_3 (cellAt (v := .int .i64 x.prio) rfl)) (.none rfl) rfl rfl <| WQ.call _ rfl rfl ck_106 (.none rfl) rfl rfl (fun w hS => Calls.still (CmpI_c w y.prio x.prio) hS) <| WQ.val (v_loadN rfl rfl many_115 rfl (segAt (m := 18) (enC_match x))) (.none rfl) rfl rfl <| WQ.val (v_loadN rfl rfl many_115 rfl (segAt (m := 18) (enC_match y))) (.none rfl) rfl rfl <| WQ.call _ rfl rfl ck_107 (.none rfl) rfl rfl (fun w hS => Calls.still (MCmp_c w x.r.m y.r.m) hS) <| WQ.nilR <| ?_
  refine WR.ones (g := 2) [12] (by kernel_rfl) ?_
  refine WL.buildSlice rfl rfl Tryz.underlying74 sz_3 zero_3 rfl (by decide) rfl (.none rfl) rfl rfl ?_
  intro g17 hg17
  refine WL.nilR ?_
  refine WR.read (g := 0) [13, 14] (by kernel_rfl) (by kernel_rfl) (by kernel_rfl) (by kernel_rfl) rfl ?_
  refine WQ.call _ rfl rfl ck_105 (.none rfl) rfl rfl (fun w hS => Calls.still (Or_c w _ _ _ (hS.cell rfl) (hS.cell rfl)) hS) <| WQ.val (v_assign rfl rfl) (.none rfl) rfl rfl <| WQ.nilR <| ?_
  refine WR.done (by kernel_rfl) ?_
  refine WE.then_n <| WC.ret <| WE.ret1 (P := Tryz.prog) (.inl rfl) Tryz.results51 rfl <| ?_
  exact fun w' h => ⟨rfl, h.frm⟩
theorem EnCheck_c (w : World) (x : EnL) (hI : x.d.In) (ha : Rg w x.r.ad (actsL x.r.acts)) (hG : GW w) :
    Calls Tryz.prog 47 #[.agg x.cells.toArray] w fun e w' => e = .returned (.int .i64 x.d.err) ∧ Frm (fun _ => False) w w' := by
  refine enter Tryz.func47 rfl Tryz.ntmps47 rfl (St.start (fun _ => False) w) ?_
  refine WC.seq <| WC.region <| WL.box rfl rfl rfl (.none rfl) rfl rfl <| ?_
  intro g1 hg1
  refine WL.v (v_assign rfl rfl) rfl <| WL.nt <| WC.seq <| WC.seq <| WC.region <| WL.v (v_fieldAddr0 rfl rfl fld_119_0) rfl <| WL.v (v_load1 rfl rfl one_3 (cellAt (v := .int .i64 x.prio) rfl)) rfl <| ?_
  refine WL.test (v_lss rfl rfl rfl) (.none rfl) rfl rfl (fun h5 => ?_) (fun h5 => ?_)
  ·
   refine WL.v (v_move rfl rfl) rfl ?_
   iterate 3 refine WL.sk rfl ?_
   refine WL.v (v_pick_t rfl rfl rfl) rfl <| WL.nt <| WC.cond_t rfl <| WC.seq <| WC.region <| WL.v (v_assign rfl rfl) rfl <| WL.nt <| WC.ret <| WE.then_ret <| WE.ret1 (P := Tryz.prog) (.inl rfl) Tryz.results47 rfl <| ?_
   exact fun w' h => ⟨by unfold EnD.err; rw [if_neg (by show ¬ (0 ≤ x.prio ∧ x.prio ≤ 1073741824); omega)], h.frm⟩
  ·
   refine WL.v (v_move rfl rfl) rfl <| WL.val (v_fieldAddr0 rfl rfl fld_119_0) (.some rfl rfl rfl) rfl rfl <| WL.val (v_load1 rfl rfl one_3 (cellAt (v := .int .i64 x.prio) rfl)) (.some rfl rfl rfl) rfl rfl <| ?_
   refine WL.test (v_gtr rfl rfl rfl) (.some rfl rfl rfl) rfl rfl (fun h9 => ?_) (fun h9 => ?_)
   ·
    refine WL.v (v_pick_f rfl rfl rfl) rfl <| WL.nt <| WC.cond_t rfl <| WC.seq <| WC.region <| WL.v (v_assign rfl rfl) rfl <| WL.nt <| WC.ret <| WE.then_ret <| WE.ret1 (P := Tryz.prog) (.inl rfl) Tryz.results47 rfl <| ?_
    exact fun w' h => ⟨by unfold EnD.err; rw [if_neg (by show ¬ (0 ≤ x.prio ∧ x.prio ≤ 1073741824); omega)], h.frm⟩
   ·
    refine WL.v (v_pick_f rfl rfl rfl) rfl <| WL.nt <| WC.cond_f rfl <| WC.skip <| WE.then_n <| WC.seq <| WC.region <| WL.v (v_fieldAddr0 rfl rfl fld_119_2) rfl <| WL.v (v_loadN rfl rfl many_117 rfl (segAt (m := 19) (enC_rule x))) rfl <| ?_
    refine WL.buildSlice rfl rfl Tryz.underlying34 sz_117 zero_117 rfl (by decide) (by show some (splice (List.replicate 1 _).flatten 0 (x.r.cells)) = some x.r.cells; rw [splice_all (by rw [RuL.len]; rfl)]) (.none rfl) rfl rfl ?_
    intro g13 hg13
    refine WL.call rfl rfl ck_99 (.none rfl) rfl rfl ?_
    intro w hS
    refine Calls.then (RsCheck_c w _ 1 x.r hI.r (allAt (g := g13) w hS) (ha.frm hS.frm (fun _ _ _ h => h)) (hG.keep (fun h => h) hS)) hS ?_
    refine WL.v (v_assign rfl rfl) rfl <| WL.nt <| WC.ret <| WE.ret1 (P := Tryz.prog) (.inl rfl) Tryz.results47 rfl <| ?_
    exact fun w' h => ⟨by unfold EnD.err; rw [if_pos (by show 0 ≤ x.prio ∧ x.prio ≤ 1073741824; omega)]; rfl, h.frm⟩
end Go.Proofs.YtkeonnnhogaggaaGreatDoor
/- slices.Clone, slices.Compact of rules.Act (printed by gen/slc.py). -/
namespace Go.Proofs.YtkeonnnhogaggaaGreatDoor
open Go.RowKit

set_option maxHeartbeats 1000000 in
theorem CloneAc_c (w : World) (ad : Option Addr) (c : Nat) (xs : List Ac) (hr : Rg w ad (encL acL xs)) (hone : (encL acL xs).all one = true) (hn : xs.length ≤ 100000) :
    Calls Tryz.prog 100 #[.slice ad xs.length c] w fun e w' => ∃ ad' c' E, e = .returned (.slice ad' xs.length c') ∧ Vec 10 ad' xs.length c' (encL acL xs) E ∧ St (fun _ => False) w w' E := by
  cases ad with
  | none =>
    obtain rfl : xs = [] := Classical.byContradiction fun h => by
      obtain ⟨b, o, e, _⟩ := hr (fun hn => h (List.length_eq_zero_iff.1 (by have := encL_len acL_len xs; rw [hn] at this; simp at this; omega)))
      cases e
    refine enter Tryz.func100 rfl Tryz.ntmps100 rfl (St.start (fun _ => False) w) ?_
    refine WC.seq <| WC.region <| WL.v (v_assign rfl rfl) rfl <| WL.nt <| WC.seq <| WC.seq <| WC.region <| WL.v (v_move rfl rfl) rfl <| WL.v (v_eql_nil true rfl rfl Tryz.underlying113 rfl) rfl <| WL.nt <| WC.cond_t rfl <| WC.seq <| WC.region <| WL.v (v_assign rfl rfl) rfl <| ?_
    refine WL.nt <| WC.ret <| WE.then_ret <| WE.ret1 (P := Tryz.prog) (.inl rfl) Tryz.results100 rfl <| ?_
    exact fun w' h => ⟨none, 0, [], rfl, Vec.nil 10, h⟩
  | some a =>
    have hl := encL_len acL_len xs
    refine enter Tryz.func100 rfl Tryz.ntmps100 rfl (St.start (fun _ => False) w) ?_
    refine WC.seq <| WC.region <| WL.v (v_assign rfl rfl) rfl <| WL.nt <| WC.seq <| WC.seq <| WC.region <| WL.v (v_move rfl rfl) rfl <| WL.v (v_eql_nil false rfl rfl Tryz.underlying113 rfl) rfl <| WL.nt <| WC.cond_f rfl <| WC.skip <| WE.then_n <| WC.seq <| ?_
    refine WC.region ?_
    refine WL.buildSlice rfl rfl Tryz.underlying113 sz_110 zero_110 rfl (by decide) rfl (.none rfl) rfl rfl ?_
    intro g5 hg5
    refine WL.v (v_move rfl rfl) rfl ?_
    refine WL.appendL rfl rfl rfl Tryz.underlying113 Tryz.underlying113 sz_110 by_110 zero_110 rfl rfl (E := [.row g5 []]) (Vec.row (k := 0) (s := 10) (c := 0) rfl rfl (by omega)) (new := encL acL xs) (fun h => by obtain ⟨b', o', e', hr'⟩ := hr (fun hn => by rw [hn] at hl; simp at hl; omega); exact ⟨b', o', e', rgIn (fun h => h) hr'⟩) hl hone (by omega) (.none rfl) rfl rfl ?_
    intro ad7 c7 E7 hV7 hr7
    refine WL.v (v_assign rfl rfl) rfl <| WL.nt <| WC.ret <| WE.ret1 (P := Tryz.prog) (.inl rfl) Tryz.results100 rfl <| ?_
    exact fun w' h => ⟨ad7, c7, E7, by rw [Nat.zero_add], by simpa using hV7, h.sub (List.sublist_append_left _ _)⟩
structure CsAc where
  k : Nat
  j : Nat
  ys : List Ac
set_option maxHeartbeats 4000000 in
theorem CompactAc_c (p : Nat → Prop) (w0 w : World) (L E : List Ent) (ad : Option Addr) (c : Nat) (xs : List Ac) (eq : Ac → Ac → Bool) (heq : ∀ x y, eq x y = true ↔ acL x = acL y) (hV : Vec 10 ad xs.length c (encL acL xs) E) (hS : St p w0 w (E ++ L)) (hn : xs.length ≤ 100000) :
    Calls Tryz.prog 103 #[.slice ad xs.length c] w fun e w' => ∃ E', e = .returned (.slice ad (uniq eq xs).length c) ∧ Vec 10 ad (uniq eq xs).length c (encL acL (uniq eq xs)) E' ∧ St p w0 w' (E' ++ L) := by
  by_cases h2 : xs.length < 2
  · have e0 : uniq eq xs = xs := (match xs, h2 with | [], _ => rfl | [x], _ => rfl | _ :: _ :: _, h => absurd h (by simp))
    rw [e0]
    refine enter Tryz.func103 rfl Tryz.ntmps103 rfl hS ?_
    refine WC.seq <| WC.region <| WL.v (v_assign rfl rfl) rfl <| WL.nt <| WC.seq <| WC.seq <| WC.region <| WL.v (v_move rfl rfl) rfl <| WL.v (v_len_slice rfl rfl Tryz.underlying113) rfl <| ?_
    refine WL.v ((v_lss rfl rfl rfl).t (by omega)) rfl ?_
    refine WL.nt <| WC.cond_t rfl <| WC.seq <| WC.region <| WL.v (v_move rfl rfl) rfl <| WL.v (v_assign rfl rfl) rfl <| WL.nt <| WC.ret <| WE.then_ret <| WE.ret1 (P := Tryz.prog) (.inl rfl) Tryz.results103 rfl <| ?_
    exact fun w' h => ⟨E, rfl, hV, h⟩
  have hlen := @acL_len
  obtain ⟨g, R, rfl, rfl, hcl, hcap⟩ := hV.split (fun e => h2 (by rw [e]; exact Nat.zero_lt_two))
  have hel := encL_len hlen xs
  rw [List.length_append, hel] at hcl
  refine enter Tryz.func103 rfl Tryz.ntmps103 rfl hS ?_
  refine WC.seq <| WC.region <| WL.v (v_assign rfl rfl) rfl <| WL.nt <| WC.seq <| WC.seq <| WC.region <| WL.v (v_move rfl rfl) rfl <| WL.v (v_len_slice rfl rfl Tryz.underlying113) rfl <| ?_
  refine WL.v ((v_lss rfl rfl rfl).f (by omega)) rfl ?_
  refine WL.nt <| WC.cond_f rfl <| WC.skip <| WE.then_n <| WC.seq <| WC.seq <| WC.region <| WL.v (v_assign rfl rfl) rfl <| WL.nt <| WC.block <| ?_
  refine WC.loop (fun k : Nat => [(3, .int .i64 k), (0, .slice (some ⟨g, 0, none⟩) xs.length c)]) (fun _ => .row g (encL acL xs ++ R) :: L) (fun k => 1 ≤ k ∧ k ≤ xs.length ∧ uniq eq (xs.take k) = xs.take k) (fun k => xs.length - k) 1 ⟨Nat.le_refl _, by omega, by match xs, h2 with | x :: l, _ => rfl⟩ (.cons rfl (.cons rfl .nil)) (.refl _) ?_
  rintro k ⟨hk1, hk, hu⟩
  refine WC.seq <| WC.seq <| WC.region <| WL.v (v_move rfl rfl) rfl <| WL.v (v_move rfl rfl) rfl <| WL.v (v_len_slice rfl rfl Tryz.underlying113) rfl <| ?_
  refine WL.test (v_lss rfl rfl rfl) (.none rfl) rfl rfl (fun h13 => ?_) (fun h13 => ?_)
  ·
   refine WL.nt <| WC.cond_t rfl <| WC.skip <| WE.then_n <| WC.seq <| WC.block <| WC.seq <| ?_
   refine WC.quiet mixed (by kernel_rfl) ?_
   refine WQ.val (v_move rfl rfl) (.none rfl) rfl rfl <| WQ.val (v_move rfl rfl) (.none rfl) rfl rfl <| ?_
   obtain ⟨m, rfl⟩ : ∃ m, k = m + 1 := ⟨k - 1, by omega⟩
   obtain ⟨a, ha⟩ : ∃ a, xs[m]? = some a := ⟨xs[m]'(by omega), List.getElem?_eq_getElem _⟩
   obtain ⟨b, hb⟩ : ∃ b, xs[m + 1]? = some b := ⟨xs[m + 1]'(by omega), List.getElem?_eq_getElem _⟩
   obtain ⟨b25, hb25⟩ : ∃ q, q = eq b a := ⟨_, rfl⟩
   have hbe : b25 = true ↔ acL b = acL a := (by rw [hb25]; exact heq b a)
   have hut := uniq_take (eq := eq) ha hb
   have htk : xs.take (m + 1) ++ [b] = xs.take (m + 2) := (by rw [show m + 2 = (m + 1) + 1 from rfl, List.take_succ_eq_append_getElem (show m + 1 < xs.length by omega)]; exact congrArg (fun z => xs.take (m + 1) ++ [z]) (Option.some.inj (hb.symm.trans (List.getElem?_eq_getElem _))))
   refine WQ.val (v_indexAddr (lo := m + 1) rfl rfl rfl Tryz.underlying113 sz_110 (by omega) (by omega)) (.none rfl) rfl rfl ?_
   refine WQ.val (v_loadN (cs := acL b) rfl rfl many_110 (acL_len b) (segAt (m := 10) (by rw [Nat.zero_add]; exact encL_at hlen hb))) (.none rfl) rfl rfl ?_
   refine WQ.val (v_move rfl rfl) (.none rfl) rfl rfl <| WQ.val (v_move rfl rfl) (.none rfl) rfl rfl <| ?_
   refine WQ.val (v_sub rfl rfl rfl (w_i64 (by omega) (by omega))) (.none rfl) rfl rfl ?_
   refine WQ.val (v_indexAddr (lo := m) rfl rfl rfl Tryz.underlying113 sz_110 (by omega) (by omega)) (.none rfl) rfl rfl ?_
   refine WQ.val (v_loadN (cs := acL a) rfl rfl many_110 (acL_len a) (segAt (m := 10) (by rw [Nat.zero_add]; exact encL_at hlen ha))) (.none rfl) rfl rfl ?_
   refine WQ.val (v_eql_aggD (b := b25) rfl rfl rfl eqk_110 eqg_110 rfl rfl hbe) (.none rfl) rfl rfl ?_
   cases b25
   ·
    refine WQ.nil <| WE.then_n <| WC.cond_f rfl <| WC.skip <| WE.block_n <| WE.then_n <| WC.region <| WL.v (v_move rfl rfl) rfl <| ?_
    refine WL.v (v_add rfl rfl rfl (w_i64 (by omega) (by omega))) rfl ?_
    refine WL.v (v_assign rfl rfl) rfl <| WL.nil <| ?_
    exact WE.next (m + 2) (by omega) ⟨by omega, by omega, by rw [hut, ← hb25, if_neg (by decide), hu]; exact htk⟩ (.int rfl (by omega) (.cons rfl .nil)) (.refl _)
   ·
    refine WQ.nil <| WE.then_n <| WC.cond_t rfl <| WC.seq <| WC.region <| WL.v (v_move rfl rfl) rfl <| WL.v (v_move rfl rfl) rfl <| ?_
    refine WL.v (v_slice_loS (lo := m + 1) rfl rfl rfl Tryz.underlying113 sz_110 (by omega) (by omega) (by omega)) rfl ?_
    refine WL.v (v_assign rfl rfl) rfl <| WL.nt <| WC.seq <| WC.seq <| WC.region <| WL.v (v_assign rfl rfl) rfl <| WL.nt <| WC.block <| ?_
    refine WC.loop (fun x : CsAc => [(3, .int .i64 x.k), (5, .int .i64 x.j), (4, .slice (some ⟨g, 0 + (m + 1) * 10, none⟩) (xs.length - (m + 1)) (c - (m + 1))), (0, .slice (some ⟨g, 0, none⟩) xs.length c)]) (fun x => .row g (encL acL x.ys ++ R) :: L) (fun x => x.ys.length = xs.length ∧ 1 ≤ x.j ∧ m + 1 + x.j ≤ xs.length ∧ x.k ≤ m + x.j ∧ x.ys.take x.k = uniq eq (xs.take (m + 1 + x.j)) ∧ ∀ i, m + x.j ≤ i → x.ys[i]? = xs[i]?) (fun x => xs.length - x.j) ⟨m + 1, 1, xs⟩ ⟨rfl, Nat.le_refl _, by dsimp only; omega, Nat.le_refl _, by dsimp only; rw [show m + 1 + 1 = m + 2 from rfl, hut, ← hb25, if_pos rfl, hu, List.append_nil], fun i _ => rfl⟩ (.int rfl (by first | rfl | (dsimp only; omega)) (.int rfl rfl (.cons rfl (.cons rfl .nil)))) (.refl _) ?_
    rintro ⟨k, j, ys⟩ ⟨hyl, hj1, hj, hkj, hut', hys⟩
    dsimp only at hyl hj1 hj hkj hut' hys
    dsimp only
    refine WC.seq <| WC.seq <| WC.region <| WL.v (v_move rfl rfl) rfl <| WL.v (v_move rfl rfl) rfl <| WL.v (v_len_slice rfl rfl Tryz.underlying113) rfl <| ?_
    refine WL.test (v_lss rfl rfl rfl) (.none rfl) rfl rfl (fun h32 => ?_) (fun h32 => ?_)
    ·
     refine WL.nt <| WC.cond_t rfl <| WC.skip <| WE.then_n <| WC.seq <| WC.block <| WC.seq <| ?_
     refine WC.quiet mixed (by kernel_rfl) ?_
     refine WQ.val (v_move rfl rfl) (.none rfl) rfl rfl <| WQ.val (v_move rfl rfl) (.none rfl) rfl rfl <| ?_
     obtain ⟨i, rfl⟩ : ∃ i, j = i + 1 := ⟨j - 1, by omega⟩
     obtain ⟨a', ha'⟩ : ∃ a, xs[m + 1 + i]? = some a := ⟨xs[m + 1 + i]'(by omega), List.getElem?_eq_getElem _⟩
     obtain ⟨b', hb'⟩ : ∃ b, xs[m + 1 + i + 1]? = some b := ⟨xs[m + 1 + i + 1]'(by omega), List.getElem?_eq_getElem _⟩
     obtain ⟨b44, hb44⟩ : ∃ q, q = !eq b' a' := ⟨_, rfl⟩
     have hbe' : b44 = true ↔ ¬ acL b' = acL a' := (by rw [hb44, ← heq]; simp)
     have hb44' : eq b' a' = !b44 := (by rw [hb44]; simp)
     have hut2 := uniq_take (eq := eq) ha' hb'
     have ya : ys[m + 1 + i]? = some a' := (by rw [hys _ (by omega)]; exact ha')
     have yb : ys[m + 1 + i + 1]? = some b' := (by rw [hys _ (by omega)]; exact hb')
     refine WQ.val (v_indexAddr (lo := i + 1) rfl rfl rfl Tryz.underlying113 sz_110 (by omega) (by omega)) (.none rfl) rfl rfl ?_
     refine WQ.val (v_loadN (cs := acL b') rfl rfl many_110 (acL_len b') (segAt (m := 10) (by rw [show 0 + (m + 1) * 10 + (i + 1) * 10 = (m + 1 + i + 1) * 10 by omega]; exact encL_at hlen yb))) (.none rfl) rfl rfl ?_
     refine WQ.val (v_move rfl rfl) (.none rfl) rfl rfl <| WQ.val (v_move rfl rfl) (.none rfl) rfl rfl <| ?_
     refine WQ.val (v_sub rfl rfl rfl (w_i64 (by omega) (by omega))) (.none rfl) rfl rfl ?_
     refine WQ.val (v_indexAddr (lo := i) rfl rfl rfl Tryz.underlying113 sz_110 (by omega) (by omega)) (.none rfl) rfl rfl ?_
     refine WQ.val (v_loadN (cs := acL a') rfl rfl many_110 (acL_len a') (segAt (m := 10) (by rw [show 0 + (m + 1) * 10 + i * 10 = (m + 1 + i) * 10 by omega]; exact encL_at hlen ya))) (.none rfl) rfl rfl ?_
     refine WQ.val (v_neq_aggE (b := b44) rfl rfl rfl eqk_110 eqg_110 rfl rfl hbe') (.none rfl) rfl rfl ?_
     cases b44
     ·
      refine WQ.nil <| WE.then_n <| WC.cond_f rfl <| WC.skip <| WE.block_n <| WE.then_n <| WC.region <| WL.v (v_move rfl rfl) rfl <| ?_
      refine WL.v (v_add rfl rfl rfl (w_i64 (by omega) (by omega))) rfl ?_
      refine WL.v (v_assign rfl rfl) rfl <| WL.nil <| ?_
      exact WE.next ⟨k, i + 2, ys⟩ (by dsimp only; omega) ⟨hyl, by dsimp only; omega, by dsimp only; omega, by dsimp only; omega, by
      dsimp only
      rw [show m + 1 + (i + 2) = m + 1 + i + 2 by omega, hut2, hb44', if_pos (show (!false) = true from rfl), List.append_nil, show m + 1 + i + 1 = m + 1 + (i + 1) by omega]; exact hut', fun q hq => by dsimp only at hq ⊢; exact hys q (by omega)⟩ (.int rfl rfl (.int rfl (by dsimp only; omega) (.cons rfl (.cons rfl .nil)))) (.refl _)
     ·
      refine WQ.nil <| WE.then_n <| WC.cond_t rfl <| WC.seq <| WC.region <| WL.v (v_move rfl rfl) rfl <| WL.v (v_move rfl rfl) rfl <| WL.v (v_move rfl rfl) rfl <| WL.v (v_move rfl rfl) rfl <| ?_
      refine WL.v (v_indexAddr (lo := i + 1) rfl rfl rfl Tryz.underlying113 sz_110 (by omega) (by omega)) rfl ?_
      refine WL.v (v_loadN (cs := acL b') rfl rfl many_110 (acL_len b') (segAt (m := 10) (by rw [show 0 + (m + 1) * 10 + (i + 1) * 10 = (m + 1 + i + 1) * 10 by omega]; exact encL_at hlen yb))) rfl ?_
      refine WL.v (v_indexAddr (lo := k) rfl rfl rfl Tryz.underlying113 sz_110 (by omega) (by omega)) rfl ?_
      refine WL.storeN rfl rfl rfl rfl many_110 rfl (by rw [List.length_append, encL_len hlen, hyl]; omega) (.none rfl) rfl ?_
      refine WL.as (L' := .row g (encL acL (ys.set k b') ++ R) :: L) (by rw [Nat.zero_add, encL_set hlen ys k b' R (by omega)]) ?_
      refine WL.nt <| WC.region <| WL.v (v_move rfl rfl) rfl <| ?_
      refine WL.v (v_add rfl rfl rfl (w_i64 (by omega) (by omega))) rfl ?_
      refine WL.v (v_assign rfl rfl) rfl <| WL.nil <| WE.block_n <| WE.then_n <| WC.region <| WL.v (v_move rfl rfl) rfl <| ?_
      refine WL.v (v_add rfl rfl rfl (w_i64 (by omega) (by omega))) rfl ?_
      refine WL.v (v_assign rfl rfl) rfl <| WL.nil <| ?_
      exact WE.next ⟨k + 1, i + 2, ys.set k b'⟩ (by dsimp only; omega) ⟨by dsimp only; rw [List.length_set]; exact hyl, by dsimp only; omega, by dsimp only; omega, by dsimp only; omega, by
      dsimp only
      rw [show m + 1 + (i + 2) = m + 1 + i + 2 by omega, hut2, hb44', if_neg (show ¬ (!true) = true by decide), show m + 1 + i + 1 = m + 1 + (i + 1) by omega, ← hut', List.take_succ_eq_append_getElem (by rw [List.length_set]; omega), List.take_set_of_le (Nat.le_refl _), List.getElem_set_self], fun q hq => by dsimp only at hq ⊢; rw [List.getElem?_set_ne (by omega)]; exact hys q (by omega)⟩ (.int rfl (by dsimp only; omega) (.int rfl (by dsimp only; omega) (.cons rfl (.cons rfl .nil)))) (.refl _)
    ·
     refine WL.nt <| WC.cond_f rfl <| WC.exit <| WE.then_exit <| WE.then_exit <| WE.block_hit <| WE.then_n <| WC.seq <| WC.region <| WL.v (v_move rfl rfl) rfl <| WL.v (v_move rfl rfl) rfl <| ?_
     refine WL.v (v_slice_loS (lo := k) rfl rfl rfl Tryz.underlying113 sz_110 (by omega) (by omega) (by omega)) rfl ?_
     refine WL.clear (s := 10) rfl rfl Tryz.underlying113 zero_110 rfl rfl (by rw [List.length_append, encL_len hlen, hyl]; omega) (.none rfl) rfl ?_
     refine WL.nt <| WC.seq <| WC.region <| WL.v (v_move rfl rfl) rfl <| WL.v (v_move rfl rfl) rfl <| ?_
     refine WL.v (v_slice_hi (hi := k) rfl rfl rfl Tryz.underlying113 sz_110 (by omega) (by omega)) rfl ?_
     refine WL.v (v_assign rfl rfl) rfl <| WL.nt <| WC.ret <| WE.block_ret <| WE.then_ret <| WE.then_ret <| WE.block_ret <| WE.then_ret <| WE.ret1 (P := Tryz.prog) (.inl rfl) Tryz.results103 rfl <| ?_
     obtain rfl : j = xs.length - (m + 1) := (by omega)
     have e1 : uniq eq xs = ys.take k := (by rw [hut', show m + 1 + (xs.length - (m + 1)) = xs.length by omega, List.take_length])
     have e2 : (uniq eq xs).length = k := (by rw [e1, List.length_take]; omega)
     refine fun w' h => ⟨[.row g _], by rw [e2], ?_, h⟩
     rw [e2, e1]
     refine Vec.row ?_ ?_ (by omega)
     · rw [Nat.zero_add, splice_take (by rw [zrs_len, List.length_append, encL_len hlen, hyl]; show _ + (xs.length - k) * 10 ≤ _; omega)]
       exact encL_take hlen ys k R (by omega)
     · rw [splice_length _ _ _ (by rw [zrs_len, List.length_append, encL_len hlen, hyl]; show _ + (xs.length - k) * 10 ≤ _; omega), List.length_append, encL_len hlen, hyl]
       exact hcl
  ·
   refine WL.nt <| WC.cond_f rfl <| WC.exit <| WE.then_exit <| WE.then_exit <| WE.block_hit <| WE.then_n <| WC.seq <| WC.region <| WL.v (v_move rfl rfl) rfl <| WL.v (v_assign rfl rfl) rfl <| WL.nt <| WC.ret <| WE.ret1 (P := Tryz.prog) (.inl rfl) Tryz.results103 rfl <| ?_
   have e1 : uniq eq xs = xs := (by have := hu; rwa [show k = xs.length by omega, List.take_length] at this)
   rw [e1]
   exact fun w' h => ⟨_, rfl, Vec.row (by rw [encL_take hlen xs xs.length R (Nat.le_refl _), List.take_length]) (by rw [List.length_append, hel]; exact hcl) hcap, h⟩
end Go.Proofs.YtkeonnnhogaggaaGreatDoor
/- The kit's laying SlLaysF0.n6 at this seat's functions. Printed by wip/tools/lays.py. -/
namespace Go.Proofs.YtkeonnnhogaggaaGreatDoor
open Go.RowKit Go.Shelf

def ren101 : Ren := ⟨fun n => match n with | 6 => 101 | 14 => 142 | 15 => 109 | 20 => 175 | 21 => 176 | 22 => 177 | 23 => 178 | 24 => 179 | 25 => 180 | 26 => 181 | 27 => 182 | 28 => 155 | 29 => 156 | 46 => 198 | 47 => 185 | 48 => 186 | 49 => 199 | 50 => 200 | 57 => 206 | n => n, fun n => match n with | 0 => 0 | 3 => 3 | 4 => 4 | 5 => 5 | 9 => 9 | 22 => 113 | 24 => 110 | 25 => 165 | 39 => 172 | 45 => 212 | 46 => 213 | 50 => 217 | 53 => 56 | 55 => 23 | 66 => 242 | 70 => 246 | 76 => 256 | 77 => 37 | n => n, fun n => n⟩
set_option maxRecDepth 100000 in
theorem lays101 : SlLaysF0.n6 Tryz.prog ren101 where
  mixed := mixed
  f6 := ⟨Tryz.f101.name, by decide, Tryz.func101.trans (congrArg some (by kernel_rfl))⟩
  f14 := ⟨Tryz.f142.name, by decide, Tryz.func142.trans (congrArg some (by kernel_rfl))⟩
  f15 := Tryz.func109.trans (congrArg some (by kernel_rfl))
  f20 := ⟨Tryz.f175.name, by decide, Tryz.func175.trans (congrArg some (by kernel_rfl))⟩
  f21 := ⟨Tryz.f176.name, by decide, Tryz.func176.trans (congrArg some (by kernel_rfl))⟩
  f22 := ⟨Tryz.f177.name, by decide, Tryz.func177.trans (congrArg some (by kernel_rfl))⟩
  f23 := ⟨Tryz.f178.name, by decide, Tryz.func178.trans (congrArg some (by kernel_rfl))⟩
  f24 := ⟨Tryz.f179.name, by decide, Tryz.func179.trans (congrArg some (by kernel_rfl))⟩
  f25 := ⟨Tryz.f180.name, by decide, Tryz.func180.trans (congrArg some (by kernel_rfl))⟩
  f26 := ⟨Tryz.f181.name, by decide, Tryz.func181.trans (congrArg some (by kernel_rfl))⟩
  f27 := ⟨Tryz.f182.name, by decide, Tryz.func182.trans (congrArg some (by kernel_rfl))⟩
  f28 := Tryz.func155.trans (congrArg some (by kernel_rfl))
  f29 := Tryz.func156.trans (congrArg some (by kernel_rfl))
  f46 := ⟨Tryz.f198.name, by decide, Tryz.func198.trans (congrArg some (by kernel_rfl))⟩
  f47 := Tryz.func185.trans (congrArg some (by kernel_rfl))
  f48 := Tryz.func186.trans (congrArg some (by kernel_rfl))
  f49 := ⟨Tryz.f199.name, by decide, Tryz.func199.trans (congrArg some (by kernel_rfl))⟩
  f50 := ⟨Tryz.f200.name, by decide, Tryz.func200.trans (congrArg some (by kernel_rfl))⟩
  f57 := ⟨Tryz.f206.name, by decide, Tryz.func206.trans (congrArg some (by kernel_rfl))⟩
  t0 := Tryz.underlying0
  a0 := Tryz.isAgg0
  z0 := Tryz.sizeOf0
  v0 := Tryz.zeroValue0
  t3 := Tryz.underlying3
  a3 := Tryz.isAgg3
  z3 := Tryz.sizeOf3
  v3 := Tryz.zeroValue3
  t4 := Tryz.underlying4
  a4 := Tryz.isAgg4
  z4 := Tryz.sizeOf4
  v4 := Tryz.zeroValue4
  t5 := Tryz.underlying5
  a5 := Tryz.isAgg5
  z5 := Tryz.sizeOf5
  v5 := Tryz.zeroValue5
  t9 := Tryz.underlying9
  a9 := Tryz.isAgg9
  z9 := Tryz.sizeOf9
  v9 := Tryz.zeroValue9
  t22 := Tryz.underlying113
  a22 := Tryz.isAgg113
  z22 := Tryz.sizeOf113
  v22 := Tryz.zeroValue113
  t25 := Tryz.underlying165
  a25 := Tryz.isAgg165
  z25 := Tryz.sizeOf165
  v25 := Tryz.zeroValue165
  t39 := Tryz.underlying172
  a39 := Tryz.isAgg172
  z39 := Tryz.sizeOf172
  v39 := Tryz.zeroValue172
  t45 := Tryz.underlying212
  a45 := Tryz.isAgg212
  z45 := Tryz.sizeOf212
  v45 := Tryz.zeroValue212
  t46 := Tryz.underlying213
  a46 := Tryz.isAgg213
  z46 := Tryz.sizeOf213
  v46 := Tryz.zeroValue213
  t50 := Tryz.underlying217
  a50 := Tryz.isAgg217
  z50 := Tryz.sizeOf217
  v50 := Tryz.zeroValue217
  t53 := Tryz.underlying56
  a53 := Tryz.isAgg56
  z53 := Tryz.sizeOf56
  v53 := Tryz.zeroValue56
  t55 := Tryz.underlying23
  a55 := Tryz.isAgg23
  z55 := Tryz.sizeOf23
  v55 := Tryz.zeroValue23
  t66 := Tryz.underlying242
  a66 := Tryz.isAgg242
  z66 := Tryz.sizeOf242
  v66 := Tryz.zeroValue242
  t70 := Tryz.underlying246
  a70 := Tryz.isAgg246
  z70 := Tryz.sizeOf246
  v70 := Tryz.zeroValue246
  t76 := Tryz.underlying256
  a76 := Tryz.isAgg256
  z76 := Tryz.sizeOf256
  v76 := Tryz.zeroValue256
  t77 := Tryz.underlying37
  a77 := Tryz.isAgg37
  z77 := Tryz.sizeOf37
  v77 := Tryz.zeroValue37
end Go.Proofs.YtkeonnnhogaggaaGreatDoor
/- rules.Norm: acts in order, each once. -/
namespace Go.Proofs.YtkeonnnhogaggaaGreatDoor
open Go.RowKit Go.Sort

theorem swo_of {α : Type} {c : α → α → Int} (h : Cm c) : Go.Sort.SWO (ltOf c) := by
  constructor
  · intro x; unfold ltOf; exact decide_eq_false (by have := h.refl x; omega)
  · intro x y z h1 h2; unfold ltOf at *; have a := of_decide_eq_true h1; have b := of_decide_eq_true h2; exact decide_eq_true (h.lt_le a (by omega))
  · intro x y z h1 h2
    unfold ltOf at *
    have a := of_decide_eq_false h1; have b := of_decide_eq_false h2
    refine decide_eq_false fun k => ?_
    have s1 := h.sgn x y; have s2 := h.sgn y x; have s3 := h.sgn z y; have s4 := h.sgn y z; have s5 := h.sgn x z; have s6 := h.sgn z x
    have t1 : c y x ≤ 0 := by omega
    have t2 : c z y ≤ 0 := by omega
    have := h.tr z y x t2 t1
    omega
theorem asc_le {α : Type} {c : α → α → Int} (h : Cm c) {ys : List α} (ha : AscBy c ys) : ys.Pairwise fun a b => c a b ≤ 0 := by
  rw [List.pairwise_iff_getElem]
  intro i j hi hj hij
  have := ha i j _ _ (List.getElem?_eq_getElem hi) (List.getElem?_eq_getElem hj) hij
  have s := h.sgn ys[i] ys[j]
  omega
instance : Inhabited Ac := ⟨⟨0, fun _ => 0⟩⟩
theorem acL_one (a : Ac) : ∀ v ∈ acL a, v.oneCell' = true := fun v hv => by
  rcases List.mem_cons.1 hv with rfl | hv
  · rfl
  · obtain ⟨i, _, rfl⟩ := List.mem_map.1 hv; rfl
theorem one_of {v : Value} (h : v.oneCell' = true) : one v = true := by cases v <;> first | rfl | (simp [Value.oneCell'] at h)
theorem encL_one {α : Type} {enc : α → List Value} (h : ∀ x, ∀ v ∈ enc x, v.oneCell' = true) : ∀ xs : List α, (encL enc xs).all one = true
  | [] => rfl
  | x :: xs => by
    show (enc x ++ encL enc xs).all one = true
    rw [List.all_append, encL_one h xs, Bool.and_true]
    exact List.all_eq_true.2 fun v hv => one_of (h x v hv)
theorem encL_one1 {α : Type} {enc : α → List Value} (h : ∀ x, ∀ v ∈ enc x, v.oneCell' = true) (x : α) : (enc x).all one = true := List.all_eq_true.2 fun v hv => one_of (h x v hv)
theorem mtL_one (m : Mt) : ∀ v ∈ mtL m, v.oneCell' = true := fun v hv => by
  rcases List.mem_append.1 hv with hv | hv <;> (obtain ⟨i, _, rfl⟩ := List.mem_map.1 hv; rfl)
theorem ruC_one (r : RuL) : ∀ v ∈ r.cells, v.oneCell' = true := fun v hv => by
  rcases List.mem_append.1 hv with hv | hv
  · exact mtL_one _ v hv
  · rw [List.mem_singleton.1 hv]; rfl
theorem enL_one (e : EnL) : ∀ v ∈ e.cells, v.oneCell' = true := fun v hv => by
  rcases List.mem_cons.1 hv with rfl | hv
  · rfl
  rcases List.mem_cons.1 hv with rfl | hv
  · rfl
  · exact ruC_one _ v hv
theorem SortAc_c (p : Nat → Prop) (w0 w : World) (L E : List Ent) (ad : Option Addr) (c : Nat) (xs : List Ac) (hV : Vec 10 ad xs.length c (actsL xs) E) (hS : St p w0 w (E ++ L)) (hlen : xs.length < 1000000) :
    Calls Tryz.prog 101 #[.slice ad xs.length c, .func (.func 102) #[] #[]] w fun e w' =>
      e = .returned (.tuple #[]) ∧ ∃ ys E', ys.Perm xs ∧ (ys.Pairwise fun a b => acmp a b ≤ 0) ∧ Vec 10 ad xs.length c (actsL ys) E' ∧ St p w0 w' (E' ++ L) := by
  refine (gsort_c (P := Tryz.prog) lays101 (by omega) Tryz.isAgg110 Tryz.sizeOf110 acL_len acL_one acmp (swo_of acmp_cm) 102 #[] ck_102 p w0 w L E ad c xs (fun gb cs _ w' _ x y => ACmp_c w' x y) hV hS (by omega)).mono ?_
  rintro e w' ⟨he, ys, E', hp, ha, hV', hS'⟩
  exact ⟨he, ys, E', hp, asc_le acmp_cm ha, hV', hS'⟩
open Classical in
noncomputable def acEq (a b : Ac) : Bool := decide (acL a = acL b)
theorem acEq_iff (a b : Ac) : acEq a b = true ↔ acL a = acL b := by unfold acEq; simp
theorem acL_same {a b : Ac} (ha : a.Nz) (hb : b.Nz) (h : acL a = acL b) : a = b := by
  have h1 : (Value.int .i64 a.set) = .int .i64 b.set := (List.cons.inj h).1
  have h2 : ucs a.val 9 = ucs b.val 9 := (List.cons.inj h).2
  refine Ac.ext' ha hb (by injection h1) fun k hk => ?_
  have this : (ucs a.val 9)[k]? = (ucs b.val 9)[k]? := congrArg (fun z : List Value => z[k]?) h2
  rw [ucs_get _ hk, ucs_get _ hk] at this
  injection this with this
  injection this
theorem acmp_cells {a b : Ac} (h : acL a ≠ acL b) (ha : a.Nz) (hb : b.Nz) : acmp a b ≠ 0 := fun e => h (by rw [acmp_same ha hb e])
theorem normP_uniq {xs ys : List Ac} (hp : ys.Perm xs) (ha : ys.Pairwise fun a b => acmp a b ≤ 0) (hN : ∀ x ∈ xs, x.Nz) : NormP xs (uniq acEq ys) := by
  have hN' : ∀ x ∈ ys, x.Nz := fun x hx => hN x (hp.mem_iff.1 hx)
  refine ⟨uniq_strict acmp_cm ha fun x hx y hy e => ?_, fun x => (uniq_mem (fun x hx y hy e => acL_same (hN' x hx) (hN' y hy) ((acEq_iff x y).1 e)) x).trans hp.mem_iff⟩
  exact acmp_cells (fun k => by rw [(acEq_iff x y).2 k.symm] at e; cases e) (hN' y hy) (hN' x hx)
/-- What Norm hands back: a list of its own. -/
def NormC (w w' : World) (xs : List Ac) (e : Ending) : Prop := ∃ ad' c' E ys, e = .returned (.slice ad' ys.length c') ∧ NormP xs ys ∧ ys.length ≤ xs.length ∧ Vec 10 ad' ys.length c' (actsL ys) E ∧ St (fun _ => False) w w' E
theorem Norm_c (w : World) (ad : Option Addr) (c : Nat) (xs : List Ac) (hr : Rg w ad (actsL xs)) (hN : ∀ x ∈ xs, x.Nz) (hn : xs.length ≤ 100000) :
    Calls Tryz.prog 49 #[.slice ad xs.length c] w fun e w' => NormC w w' xs e := by
  refine enter Tryz.func49 rfl Tryz.ntmps49 rfl (St.start (fun _ => False) w) ?_
  refine WC.seq <| WC.region <| WL.v (v_assign rfl rfl) rfl <| WL.nt <| WC.seq <| WC.region <| WL.v (v_move rfl rfl) rfl <| WL.call rfl rfl ck_100 (.none rfl) rfl rfl <| ?_
  intro w1 hS
  refine (CloneAc_c w1 ad c xs (hr.frm hS.frm (fun _ _ _ h => h)) (encL_one acL_one xs) hn).mono ?_
  rintro e w' ⟨ad1, c1, E1, rfl, hV1, hS'⟩
  refine ⟨_, _, rfl, hS.join hS', ?_⟩
  refine WL.v (v_assign rfl rfl) rfl <| WL.nt <| WC.seq <| WC.region <| WL.v (v_move rfl rfl) rfl <| WL.call rfl rfl ck_101 (.none rfl) rfl rfl <| ?_
  intro w1 hS
  refine (SortAc_c (fun _ => False) _ w1 [] E1 ad1 c1 xs hV1 hS (by omega)).mono ?_
  rintro e w' ⟨rfl, ys, E2, hp, ha, hV2, hS'⟩
  refine ⟨_, _, rfl, hS', ?_⟩
  refine WL.nt <| WC.seq <| WC.region <| WL.v (v_move rfl rfl) rfl <| WL.call rfl rfl ck_103 (.none rfl) rfl rfl <| ?_
  intro w1 hS
  rw [← hp.length_eq] at hV2
  rw [← hp.length_eq]
  refine (CompactAc_c (fun _ => False) _ w1 [] E2 ad1 c1 ys acEq acEq_iff hV2 hS (by rw [hp.length_eq]; exact hn)).mono ?_
  rintro e w' ⟨E3, rfl, hV3, hS'⟩
  refine ⟨_, _, rfl, hS', ?_⟩
  refine WL.v (v_assign rfl rfl) rfl <| WL.nt <| WC.ret <| WE.ret1 (P := Tryz.prog) (.inl rfl) Tryz.results49 rfl <| ?_
  exact fun w' h => ⟨ad1, c1, E3, uniq acEq ys, rfl, normP_uniq hp ha hN, by have := uniq_len (eq := acEq) ys; rw [hp.length_eq] at this; exact this, hV3, by simpa using h⟩
end Go.Proofs.YtkeonnnhogaggaaGreatDoor
/- slices.Clone, slices.Compact of head.Header (printed by gen/slc.py). -/
namespace Go.Proofs.YtkeonnnhogaggaaGreatDoor
open Go.RowKit

structure CsHd where
  k : Nat
  j : Nat
  ys : List Hd
set_option maxHeartbeats 4000000 in
theorem CompactHd_c (p : Nat → Prop) (w0 w : World) (L E : List Ent) (ad : Option Addr) (c : Nat) (xs : List Hd) (eq : Hd → Hd → Bool) (heq : ∀ x y, eq x y = true ↔ hdL x = hdL y) (hV : Vec 19 ad xs.length c (encL hdL xs) E) (hS : St p w0 w (E ++ L)) (hn : xs.length ≤ 100000) :
    Calls Tryz.prog 79 #[.slice ad xs.length c] w fun e w' => ∃ E', e = .returned (.slice ad (uniq eq xs).length c) ∧ Vec 19 ad (uniq eq xs).length c (encL hdL (uniq eq xs)) E' ∧ St p w0 w' (E' ++ L) := by
  by_cases h2 : xs.length < 2
  · have e0 : uniq eq xs = xs := (match xs, h2 with | [], _ => rfl | [x], _ => rfl | _ :: _ :: _, h => absurd h (by simp))
    rw [e0]
    refine enter Tryz.func79 rfl Tryz.ntmps79 rfl hS ?_
    refine WC.seq <| WC.region <| WL.v (v_assign rfl rfl) rfl <| WL.nt <| WC.seq <| WC.seq <| WC.region <| WL.v (v_move rfl rfl) rfl <| WL.v (v_len_slice rfl rfl Tryz.underlying64) rfl <| ?_
    refine WL.v ((v_lss rfl rfl rfl).t (by omega)) rfl ?_
    refine WL.nt <| WC.cond_t rfl <| WC.seq <| WC.region <| WL.v (v_move rfl rfl) rfl <| WL.v (v_assign rfl rfl) rfl <| WL.nt <| WC.ret <| WE.then_ret <| WE.ret1 (P := Tryz.prog) (.inl rfl) Tryz.results79 rfl <| ?_
    exact fun w' h => ⟨E, rfl, hV, h⟩
  have hlen := @hdL_len
  obtain ⟨g, R, rfl, rfl, hcl, hcap⟩ := hV.split (fun e => h2 (by rw [e]; exact Nat.zero_lt_two))
  have hel := encL_len hlen xs
  rw [List.length_append, hel] at hcl
  refine enter Tryz.func79 rfl Tryz.ntmps79 rfl hS ?_
  refine WC.seq <| WC.region <| WL.v (v_assign rfl rfl) rfl <| WL.nt <| WC.seq <| WC.seq <| WC.region <| WL.v (v_move rfl rfl) rfl <| WL.v (v_len_slice rfl rfl Tryz.underlying64) rfl <| ?_
  refine WL.v ((v_lss rfl rfl rfl).f (by omega)) rfl ?_
  refine WL.nt <| WC.cond_f rfl <| WC.skip <| WE.then_n <| WC.seq <| WC.seq <| WC.region <| WL.v (v_assign rfl rfl) rfl <| WL.nt <| WC.block <| ?_
  refine WC.loop (fun k : Nat => [(3, .int .i64 k), (0, .slice (some ⟨g, 0, none⟩) xs.length c)]) (fun _ => .row g (encL hdL xs ++ R) :: L) (fun k => 1 ≤ k ∧ k ≤ xs.length ∧ uniq eq (xs.take k) = xs.take k) (fun k => xs.length - k) 1 ⟨Nat.le_refl _, by omega, by match xs, h2 with | x :: l, _ => rfl⟩ (.cons rfl (.cons rfl .nil)) (.refl _) ?_
  rintro k ⟨hk1, hk, hu⟩
  refine WC.seq <| WC.seq <| WC.region <| WL.v (v_move rfl rfl) rfl <| WL.v (v_move rfl rfl) rfl <| WL.v (v_len_slice rfl rfl Tryz.underlying64) rfl <| ?_
  refine WL.test (v_lss rfl rfl rfl) (.none rfl) rfl rfl (fun h13 => ?_) (fun h13 => ?_)
  ·
   refine WL.nt <| WC.cond_t rfl <| WC.skip <| WE.then_n <| WC.seq <| WC.block <| WC.seq <| ?_
   refine WC.quiet mixed (by kernel_rfl) ?_
   refine WQ.val (v_move rfl rfl) (.none rfl) rfl rfl <| WQ.val (v_move rfl rfl) (.none rfl) rfl rfl <| ?_
   obtain ⟨m, rfl⟩ : ∃ m, k = m + 1 := ⟨k - 1, by omega⟩
   obtain ⟨a, ha⟩ : ∃ a, xs[m]? = some a := ⟨xs[m]'(by omega), List.getElem?_eq_getElem _⟩
   obtain ⟨b, hb⟩ : ∃ b, xs[m + 1]? = some b := ⟨xs[m + 1]'(by omega), List.getElem?_eq_getElem _⟩
   obtain ⟨b25, hb25⟩ : ∃ q, q = eq b a := ⟨_, rfl⟩
   have hbe : b25 = true ↔ hdL b = hdL a := (by rw [hb25]; exact heq b a)
   have hut := uniq_take (eq := eq) ha hb
   have htk : xs.take (m + 1) ++ [b] = xs.take (m + 2) := (by rw [show m + 2 = (m + 1) + 1 from rfl, List.take_succ_eq_append_getElem (show m + 1 < xs.length by omega)]; exact congrArg (fun z => xs.take (m + 1) ++ [z]) (Option.some.inj (hb.symm.trans (List.getElem?_eq_getElem _))))
   refine WQ.val (v_indexAddr (lo := m + 1) rfl rfl rfl Tryz.underlying64 sz_59 (by omega) (by omega)) (.none rfl) rfl rfl ?_
   refine WQ.val (v_loadN (cs := hdL b) rfl rfl many_59 (hdL_len b) (segAt (m := 19) (by rw [Nat.zero_add]; exact encL_at hlen hb))) (.none rfl) rfl rfl ?_
   refine WQ.val (v_move rfl rfl) (.none rfl) rfl rfl <| WQ.val (v_move rfl rfl) (.none rfl) rfl rfl <| ?_
   refine WQ.val (v_sub rfl rfl rfl (w_i64 (by omega) (by omega))) (.none rfl) rfl rfl ?_
   refine WQ.val (v_indexAddr (lo := m) rfl rfl rfl Tryz.underlying64 sz_59 (by omega) (by omega)) (.none rfl) rfl rfl ?_
   refine WQ.val (v_loadN (cs := hdL a) rfl rfl many_59 (hdL_len a) (segAt (m := 19) (by rw [Nat.zero_add]; exact encL_at hlen ha))) (.none rfl) rfl rfl ?_
   refine WQ.val (v_eql_aggD (b := b25) rfl rfl rfl eqk_59 eqg_59 rfl rfl hbe) (.none rfl) rfl rfl ?_
   cases b25
   ·
    refine WQ.nil <| WE.then_n <| WC.cond_f rfl <| WC.skip <| WE.block_n <| WE.then_n <| WC.region <| WL.v (v_move rfl rfl) rfl <| ?_
    refine WL.v (v_add rfl rfl rfl (w_i64 (by omega) (by omega))) rfl ?_
    refine WL.v (v_assign rfl rfl) rfl <| WL.nil <| ?_
    exact WE.next (m + 2) (by omega) ⟨by omega, by omega, by rw [hut, ← hb25, if_neg (by decide), hu]; exact htk⟩ (.int rfl (by omega) (.cons rfl .nil)) (.refl _)
   ·
    refine WQ.nil <| WE.then_n <| WC.cond_t rfl <| WC.seq <| WC.region <| WL.v (v_move rfl rfl) rfl <| WL.v (v_move rfl rfl) rfl <| ?_
    refine WL.v (v_slice_loS (lo := m + 1) rfl rfl rfl Tryz.underlying64 sz_59 (by omega) (by omega) (by omega)) rfl ?_
    refine WL.v (v_assign rfl rfl) rfl <| WL.nt <| WC.seq <| WC.seq <| WC.region <| WL.v (v_assign rfl rfl) rfl <| WL.nt <| WC.block <| ?_
    refine WC.loop (fun x : CsHd => [(3, .int .i64 x.k), (5, .int .i64 x.j), (4, .slice (some ⟨g, 0 + (m + 1) * 19, none⟩) (xs.length - (m + 1)) (c - (m + 1))), (0, .slice (some ⟨g, 0, none⟩) xs.length c)]) (fun x => .row g (encL hdL x.ys ++ R) :: L) (fun x => x.ys.length = xs.length ∧ 1 ≤ x.j ∧ m + 1 + x.j ≤ xs.length ∧ x.k ≤ m + x.j ∧ x.ys.take x.k = uniq eq (xs.take (m + 1 + x.j)) ∧ ∀ i, m + x.j ≤ i → x.ys[i]? = xs[i]?) (fun x => xs.length - x.j) ⟨m + 1, 1, xs⟩ ⟨rfl, Nat.le_refl _, by dsimp only; omega, Nat.le_refl _, by dsimp only; rw [show m + 1 + 1 = m + 2 from rfl, hut, ← hb25, if_pos rfl, hu, List.append_nil], fun i _ => rfl⟩ (.int rfl (by first | rfl | (dsimp only; omega)) (.int rfl rfl (.cons rfl (.cons rfl .nil)))) (.refl _) ?_
    rintro ⟨k, j, ys⟩ ⟨hyl, hj1, hj, hkj, hut', hys⟩
    dsimp only at hyl hj1 hj hkj hut' hys
    dsimp only
    refine WC.seq <| WC.seq <| WC.region <| WL.v (v_move rfl rfl) rfl <| WL.v (v_move rfl rfl) rfl <| WL.v (v_len_slice rfl rfl Tryz.underlying64) rfl <| ?_
    refine WL.test (v_lss rfl rfl rfl) (.none rfl) rfl rfl (fun h32 => ?_) (fun h32 => ?_)
    ·
     refine WL.nt <| WC.cond_t rfl <| WC.skip <| WE.then_n <| WC.seq <| WC.block <| WC.seq <| ?_
     refine WC.quiet mixed (by kernel_rfl) ?_
     refine WQ.val (v_move rfl rfl) (.none rfl) rfl rfl <| WQ.val (v_move rfl rfl) (.none rfl) rfl rfl <| ?_
     obtain ⟨i, rfl⟩ : ∃ i, j = i + 1 := ⟨j - 1, by omega⟩
     obtain ⟨a', ha'⟩ : ∃ a, xs[m + 1 + i]? = some a := ⟨xs[m + 1 + i]'(by omega), List.getElem?_eq_getElem _⟩
     obtain ⟨b', hb'⟩ : ∃ b, xs[m + 1 + i + 1]? = some b := ⟨xs[m + 1 + i + 1]'(by omega), List.getElem?_eq_getElem _⟩
     obtain ⟨b44, hb44⟩ : ∃ q, q = !eq b' a' := ⟨_, rfl⟩
     have hbe' : b44 = true ↔ ¬ hdL b' = hdL a' := (by rw [hb44, ← heq]; simp)
     have hb44' : eq b' a' = !b44 := (by rw [hb44]; simp)
     have hut2 := uniq_take (eq := eq) ha' hb'
     have ya : ys[m + 1 + i]? = some a' := (by rw [hys _ (by omega)]; exact ha')
     have yb : ys[m + 1 + i + 1]? = some b' := (by rw [hys _ (by omega)]; exact hb')
     refine WQ.val (v_indexAddr (lo := i + 1) rfl rfl rfl Tryz.underlying64 sz_59 (by omega) (by omega)) (.none rfl) rfl rfl ?_
     refine WQ.val (v_loadN (cs := hdL b') rfl rfl many_59 (hdL_len b') (segAt (m := 19) (by rw [show 0 + (m + 1) * 19 + (i + 1) * 19 = (m + 1 + i + 1) * 19 by omega]; exact encL_at hlen yb))) (.none rfl) rfl rfl ?_
     refine WQ.val (v_move rfl rfl) (.none rfl) rfl rfl <| WQ.val (v_move rfl rfl) (.none rfl) rfl rfl <| ?_
     refine WQ.val (v_sub rfl rfl rfl (w_i64 (by omega) (by omega))) (.none rfl) rfl rfl ?_
     refine WQ.val (v_indexAddr (lo := i) rfl rfl rfl Tryz.underlying64 sz_59 (by omega) (by omega)) (.none rfl) rfl rfl ?_
     refine WQ.val (v_loadN (cs := hdL a') rfl rfl many_59 (hdL_len a') (segAt (m := 19) (by rw [show 0 + (m + 1) * 19 + i * 19 = (m + 1 + i) * 19 by omega]; exact encL_at hlen ya))) (.none rfl) rfl rfl ?_
     refine WQ.val (v_neq_aggE (b := b44) rfl rfl rfl eqk_59 eqg_59 rfl rfl hbe') (.none rfl) rfl rfl ?_
     cases b44
     ·
      refine WQ.nil <| WE.then_n <| WC.cond_f rfl <| WC.skip <| WE.block_n <| WE.then_n <| WC.region <| WL.v (v_move rfl rfl) rfl <| ?_
      refine WL.v (v_add rfl rfl rfl (w_i64 (by omega) (by omega))) rfl ?_
      refine WL.v (v_assign rfl rfl) rfl <| WL.nil <| ?_
      exact WE.next ⟨k, i + 2, ys⟩ (by dsimp only; omega) ⟨hyl, by dsimp only; omega, by dsimp only; omega, by dsimp only; omega, by
      dsimp only
      rw [show m + 1 + (i + 2) = m + 1 + i + 2 by omega, hut2, hb44', if_pos (show (!false) = true from rfl), List.append_nil, show m + 1 + i + 1 = m + 1 + (i + 1) by omega]; exact hut', fun q hq => by dsimp only at hq ⊢; exact hys q (by omega)⟩ (.int rfl rfl (.int rfl (by dsimp only; omega) (.cons rfl (.cons rfl .nil)))) (.refl _)
     ·
      refine WQ.nil <| WE.then_n <| WC.cond_t rfl <| WC.seq <| WC.region <| WL.v (v_move rfl rfl) rfl <| WL.v (v_move rfl rfl) rfl <| WL.v (v_move rfl rfl) rfl <| WL.v (v_move rfl rfl) rfl <| ?_
      refine WL.v (v_indexAddr (lo := i + 1) rfl rfl rfl Tryz.underlying64 sz_59 (by omega) (by omega)) rfl ?_
      refine WL.v (v_loadN (cs := hdL b') rfl rfl many_59 (hdL_len b') (segAt (m := 19) (by rw [show 0 + (m + 1) * 19 + (i + 1) * 19 = (m + 1 + i + 1) * 19 by omega]; exact encL_at hlen yb))) rfl ?_
      refine WL.v (v_indexAddr (lo := k) rfl rfl rfl Tryz.underlying64 sz_59 (by omega) (by omega)) rfl ?_
      refine WL.storeN rfl rfl rfl rfl many_59 rfl (by rw [List.length_append, encL_len hlen, hyl]; omega) (.none rfl) rfl ?_
      refine WL.as (L' := .row g (encL hdL (ys.set k b') ++ R) :: L) (by rw [Nat.zero_add, encL_set hlen ys k b' R (by omega)]) ?_
      refine WL.nt <| WC.region <| WL.v (v_move rfl rfl) rfl <| ?_
      refine WL.v (v_add rfl rfl rfl (w_i64 (by omega) (by omega))) rfl ?_
      refine WL.v (v_assign rfl rfl) rfl <| WL.nil <| WE.block_n <| WE.then_n <| WC.region <| WL.v (v_move rfl rfl) rfl <| ?_
      refine WL.v (v_add rfl rfl rfl (w_i64 (by omega) (by omega))) rfl ?_
      refine WL.v (v_assign rfl rfl) rfl <| WL.nil <| ?_
      exact WE.next ⟨k + 1, i + 2, ys.set k b'⟩ (by dsimp only; omega) ⟨by dsimp only; rw [List.length_set]; exact hyl, by dsimp only; omega, by dsimp only; omega, by dsimp only; omega, by
      dsimp only
      rw [show m + 1 + (i + 2) = m + 1 + i + 2 by omega, hut2, hb44', if_neg (show ¬ (!true) = true by decide), show m + 1 + i + 1 = m + 1 + (i + 1) by omega, ← hut', List.take_succ_eq_append_getElem (by rw [List.length_set]; omega), List.take_set_of_le (Nat.le_refl _), List.getElem_set_self], fun q hq => by dsimp only at hq ⊢; rw [List.getElem?_set_ne (by omega)]; exact hys q (by omega)⟩ (.int rfl (by dsimp only; omega) (.int rfl (by dsimp only; omega) (.cons rfl (.cons rfl .nil)))) (.refl _)
    ·
     refine WL.nt <| WC.cond_f rfl <| WC.exit <| WE.then_exit <| WE.then_exit <| WE.block_hit <| WE.then_n <| WC.seq <| WC.region <| WL.v (v_move rfl rfl) rfl <| WL.v (v_move rfl rfl) rfl <| ?_
     refine WL.v (v_slice_loS (lo := k) rfl rfl rfl Tryz.underlying64 sz_59 (by omega) (by omega) (by omega)) rfl ?_
     refine WL.clear (s := 19) rfl rfl Tryz.underlying64 zero_59 rfl rfl (by rw [List.length_append, encL_len hlen, hyl]; omega) (.none rfl) rfl ?_
     refine WL.nt <| WC.seq <| WC.region <| WL.v (v_move rfl rfl) rfl <| WL.v (v_move rfl rfl) rfl <| ?_
     refine WL.v (v_slice_hi (hi := k) rfl rfl rfl Tryz.underlying64 sz_59 (by omega) (by omega)) rfl ?_
     refine WL.v (v_assign rfl rfl) rfl <| WL.nt <| WC.ret <| WE.block_ret <| WE.then_ret <| WE.then_ret <| WE.block_ret <| WE.then_ret <| WE.ret1 (P := Tryz.prog) (.inl rfl) Tryz.results79 rfl <| ?_
     obtain rfl : j = xs.length - (m + 1) := (by omega)
     have e1 : uniq eq xs = ys.take k := (by rw [hut', show m + 1 + (xs.length - (m + 1)) = xs.length by omega, List.take_length])
     have e2 : (uniq eq xs).length = k := (by rw [e1, List.length_take]; omega)
     refine fun w' h => ⟨[.row g _], by rw [e2], ?_, h⟩
     rw [e2, e1]
     refine Vec.row ?_ ?_ (by omega)
     · rw [Nat.zero_add, splice_take (by rw [zrs_len, List.length_append, encL_len hlen, hyl]; show _ + (xs.length - k) * 19 ≤ _; omega)]
       exact encL_take hlen ys k R (by omega)
     · rw [splice_length _ _ _ (by rw [zrs_len, List.length_append, encL_len hlen, hyl]; show _ + (xs.length - k) * 19 ≤ _; omega), List.length_append, encL_len hlen, hyl]
       exact hcl
  ·
   refine WL.nt <| WC.cond_f rfl <| WC.exit <| WE.then_exit <| WE.then_exit <| WE.block_hit <| WE.then_n <| WC.seq <| WC.region <| WL.v (v_move rfl rfl) rfl <| WL.v (v_assign rfl rfl) rfl <| WL.nt <| WC.ret <| WE.ret1 (P := Tryz.prog) (.inl rfl) Tryz.results79 rfl <| ?_
   have e1 : uniq eq xs = xs := (by have := hu; rwa [show k = xs.length by omega, List.take_length] at this)
   rw [e1]
   exact fun w' h => ⟨_, rfl, Vec.row (by rw [encL_take hlen xs xs.length R (Nat.le_refl _), List.take_length]) (by rw [List.length_append, hel]; exact hcl) hcap, h⟩
end Go.Proofs.YtkeonnnhogaggaaGreatDoor
/- slices.SortFunc at elements of which something is known: the sort of XGs for a part of a type. -/
namespace Go.Proofs.YtkeonnnhogaggaaGreatDoor
open Go.RowKit Go.Sort Go.Shelf

theorem encL_map {α β : Type} (enc : β → List Value) (f : α → β) : ∀ xs : List α, encL (fun x => enc (f x)) xs = encL enc (xs.map f)
  | [] => rfl
  | x :: xs => by show enc (f x) ++ encL (fun x => enc (f x)) xs = enc (f x) ++ encL enc (xs.map f); rw [encL_map enc f xs]
/-- What changes one block alone leaves the others' as they are. -/
theorem St.keep_tail {p : Nat → Prop} {w0 w w' : World} {gb : Nat} {cs : List Value} {L : List Ent} (hS : St p w0 w (.row gb cs :: L)) (hF : Frm (fun b => b = gb) w w') : ∀ e ∈ L, e.holds w' := fun e he => by
  have hh := hS.holds e (List.mem_cons_of_mem _ he)
  refine Ent.keep hh (hF.block _ (Ent.lt hh) fun e' => ?_)
  have hd := hS.dist
  simp only [List.map_cons, List.nodup_cons] at hd
  exact hd.1 (List.mem_map.2 ⟨e, he, e'⟩)
theorem gsort_q {P : Program} {ρ : Go.Shelf.Ren} {α : Type} {q : α → Prop} [Inhabited { x : α // q x }] {enc : α → List Value} {k : Nat} (Ly : SlLaysF0.n6 P ρ) (hk0 : 0 < k) (aE : ∀ w, (isAgg (ρ.t 24)).run P w = .ok true w) (zE : ∀ w, (Go.sizeOf (ρ.t 24)).run P w = .ok k w) (hk : ∀ x, (enc x).length = k) (h1 : ∀ x, ∀ v ∈ enc x, v.oneCell' = true)
    (cf : α → α → Int) (hC : Cm cf) (g : Nat) (cb : Array Value) (eg : ∀ args w, (callFunc g args).run P w = .ok (.enter g args) w) (p : Nat → Prop) (w0 w : World) (L E : List Ent) (ad : Option Addr) (c : Nat) (xs : List α) (hq : ∀ x ∈ xs, q x)
    (hcmp : ∀ gb cs, St p w0 w (.row gb cs :: L) → ∀ w', Frm (fun b => b = gb) w w' → ∀ x y, q x → q y → Calls P g (#[.agg (enc x).toArray, .agg (enc y).toArray] ++ cb) w' fun e w'' => e = .returned (.int .i64 (cf x y)) ∧ Frm (fun _ => False) w' w'')
    (hV : Vec k ad xs.length c (encL enc xs) E) (hS : St p w0 w (E ++ L)) (hlen : xs.length < 4611686018427387904) :
    Calls P (ρ.f 6) #[.slice ad xs.length c, .func (.func g) #[] cb] w fun e w' =>
      e = .returned (.tuple #[]) ∧ ∃ ys E', ys.Perm xs ∧ (ys.Pairwise fun a b => cf a b ≤ 0) ∧ Vec k ad xs.length c (encL enc ys) E' ∧ St p w0 w' (E' ++ L) := by
  have hx : ∃ zs : List { x : α // q x }, zs.map (·.1) = xs := ⟨xs.attach.map fun x => ⟨x.1, hq x.1 x.2⟩, by rw [List.map_map]; exact List.attach_map_subtype_val xs⟩
  obtain ⟨zs, rfl⟩ := hx
  rw [List.length_map, ← encL_map enc (fun z : { x : α // q x } => z.1)] at hV
  rw [List.length_map] at hlen ⊢
  refine (gsort_c (P := P) (enc := fun z : { x : α // q x } => enc z.1) Ly hk0 aE zE (fun x => hk x.1) (fun x => h1 x.1) (fun a b => cf a.1 b.1) (swo_of (hC.on Subtype.val)) g cb eg p w0 w L E ad c zs (fun gb cs h w' hF x y => hcmp gb cs h w' hF x.1 y.1 x.2 y.2) hV hS hlen).mono ?_
  rintro e w' ⟨he, ys, E', hp, ha, hV', hS'⟩
  refine ⟨he, ys.map (·.1), E', hp.map _, List.pairwise_map.2 (asc_le (hC.on Subtype.val) ha), ?_, hS'⟩
  rw [← encL_map enc (fun z : { x : α // q x } => z.1)]
  exact hV'
end Go.Proofs.YtkeonnnhogaggaaGreatDoor
/- table: what Change and Take make of a table, as data; entries put in one by one, or all at once, are one table; what was taken out is as if it had never been put in. -/
namespace Go.Proofs.YtkeonnnhogaggaaGreatDoor
open Go.RowKit

def insA (x : Ac) : List Ac → List Ac
  | [] => [x]
  | y :: l => if acmp x y < 0 then x :: y :: l else if acmp x y = 0 then y :: l else y :: insA x l
def normF : List Ac → List Ac
  | [] => []
  | x :: l => insA x (normF l)
theorem insA_sub (x z : Ac) : ∀ l : List Ac, z ∈ insA x l → z = x ∨ z ∈ l
  | [], h => .inl (List.mem_singleton.1 h)
  | y :: l, h => by
    unfold insA at h
    split at h
    · exact List.mem_cons.1 h
    split at h
    · exact .inr h
    · rcases List.mem_cons.1 h with rfl | h
      · exact .inr (List.mem_cons_self ..)
      · exact (insA_sub x z l h).imp id (List.mem_cons_of_mem _)
theorem insA_len (x : Ac) : ∀ l : List Ac, (insA x l).length ≤ l.length + 1
  | [] => Nat.le_refl _
  | y :: l => by
    unfold insA
    split
    · exact Nat.le_refl _
    split
    · exact Nat.le_succ _
    · exact Nat.succ_le_succ (insA_len x l)
theorem insA_mem {x : Ac} (hx : x.Nz) : ∀ {l : List Ac}, (∀ y ∈ l, y.Nz) → ∀ z, z ∈ insA x l ↔ z = x ∨ z ∈ l
  | [], _, z => by unfold insA; simp
  | y :: l, hl, z => by
    refine ⟨insA_sub x z _, fun h => ?_⟩
    unfold insA
    split
    · exact List.mem_cons.2 h
    split
    · rename_i h0
      have e := acmp_same hx (hl y (List.mem_cons_self ..)) h0
      subst e
      rcases h with rfl | h
      · exact List.mem_cons_self ..
      · exact h
    · have ih := insA_mem hx (l := l) (fun y hy => hl y (List.mem_cons_of_mem _ hy)) z
      rcases h with rfl | h
      · exact List.mem_cons_of_mem _ (ih.2 (.inl rfl))
      · rcases List.mem_cons.1 h with rfl | h
        · exact List.mem_cons_self ..
        · exact List.mem_cons_of_mem _ (ih.2 (.inr h))
theorem insA_strict (x : Ac) : ∀ {l : List Ac}, l.Pairwise (fun a b => acmp a b < 0) → (insA x l).Pairwise fun a b => acmp a b < 0
  | [], _ => List.pairwise_singleton _ _
  | y :: l, h => by
    have h' := List.pairwise_cons.1 h
    unfold insA
    split
    · rename_i h0
      refine List.pairwise_cons.2 ⟨fun z hz => ?_, h⟩
      rcases List.mem_cons.1 hz with rfl | hz
      · exact h0
      · have := h'.1 z hz; exact acmp_cm.lt_le h0 (by omega)
    split
    · exact h
    · rename_i h0 h1
      refine List.pairwise_cons.2 ⟨fun z hz => ?_, insA_strict x h'.2⟩
      rcases insA_sub x z l hz with rfl | hz
      · have := acmp_cm.sgn z y; omega
      · exact h'.1 z hz
theorem normF_sub : ∀ {xs : List Ac} {z : Ac}, z ∈ normF xs → z ∈ xs
  | [], _, h => by cases h
  | x :: l, z, h => by
    rcases insA_sub x z _ h with rfl | h
    · exact List.mem_cons_self ..
    · exact List.mem_cons_of_mem _ (normF_sub h)
theorem normF_len : ∀ xs : List Ac, (normF xs).length ≤ xs.length
  | [] => Nat.le_refl _
  | x :: l => Nat.le_trans (insA_len x _) (Nat.succ_le_succ (normF_len l))
theorem normF_P : ∀ {xs : List Ac}, (∀ x ∈ xs, x.Nz) → NormP xs (normF xs)
  | [], _ => ⟨List.Pairwise.nil, fun _ => Iff.rfl⟩
  | x :: l, h => by
    have ih := normF_P (xs := l) fun y hy => h y (List.mem_cons_of_mem _ hy)
    refine ⟨insA_strict x ih.1, fun z => (insA_mem (h x (List.mem_cons_self ..)) (fun y hy => h y (List.mem_cons_of_mem _ (normF_sub hy))) z).trans ?_⟩
    rw [ih.2, List.mem_cons]
theorem normF_of {xs ys : List Ac} (hN : ∀ x ∈ xs, x.Nz) (h : NormP xs ys) : normF xs = ys := NormP.one (normF_P hN) h
def EnD.norm (e : EnD) : EnD := ⟨e.prio, e.mark, e.r.m, normF e.r.acts⟩
theorem EnD.norm_in {e : EnD} (h : e.In) : e.norm.In := ⟨h.prio, h.mark, h.r.m, h.r.nz, fun a ha => h.r.act a (normF_sub ha)⟩
def Strict (T : List EnD) : Prop := T.Pairwise fun a b => ordE a b < 0
def Apart (T : List EnD) : Prop := T.Pairwise fun a b => ordE a b ≠ 0
def leftD (T : List EnD) (outs : List Int) : List EnD := T.filter fun e => decide (e.mark ∉ outs)
/-- What Change answers, and the table behind it. -/
structure ChangeP (most : Int) (T : List EnD) (outs : List Int) (ins : List EnD) (code : Int) (T' : List EnD) : Prop where
  err : errs EnD.err ins ≠ 0 → code = errs EnD.err ins
  full : errs EnD.err ins = 0 → (ins.length : Int) > most - (leftD T outs).length → code = 30
  have_ : errs EnD.err ins = 0 → (ins.length : Int) ≤ most - (leftD T outs).length → ¬ Apart (leftD T outs ++ ins.map EnD.norm) → code = 5
  ok : errs EnD.err ins = 0 → (ins.length : Int) ≤ most - (leftD T outs).length → Apart (leftD T outs ++ ins.map EnD.norm) → code = 0
  not : code ≠ 0 → T' = T
  yes : code = 0 → Strict T' ∧ T'.Perm (leftD T outs ++ ins.map EnD.norm)
theorem Apart.perm {A B : List EnD} (h : A.Perm B) (hA : Apart A) : Apart B := (List.Perm.pairwise_iff (fun hab e => hab (ordE_cm.zero e)) h).1 hA
theorem Strict.apart {A : List EnD} (h : Strict A) : Apart A := h.imp fun k e => by omega
theorem ChangeP.zero {most : Int} {T T' : List EnD} {outs : List Int} {ins : List EnD} {code : Int} (h : ChangeP most T outs ins code T') (hc : code = 0) : errs EnD.err ins = 0 ∧ (ins.length : Int) ≤ most - (leftD T outs).length ∧ Apart (leftD T outs ++ ins.map EnD.norm) := by
  have h1 : errs EnD.err ins = 0 := Decidable.byContradiction fun k => k (by rw [← h.err k, hc])
  have h2 : (ins.length : Int) ≤ most - (leftD T outs).length := Decidable.byContradiction fun k => by have := h.full h1 (by omega); omega
  exact ⟨h1, h2, Classical.byContradiction fun k => by have := h.have_ h1 h2 k; omega⟩
end Go.Proofs.YtkeonnnhogaggaaGreatDoor
/- table: without, merge. -/
namespace Go.Proofs.YtkeonnnhogaggaaGreatDoor
open Go.RowKit

/-- A table as it lies. -/
structure TbL where
  most : Int
  ad : Option Addr
  c : Nat
  es : List EnL
def TbL.cells (t : TbL) : List Value := [.int .i64 t.most, .slice t.ad t.es.length t.c]
def TbL.d (t : TbL) : List EnD := t.es.map EnL.d
/-- A rule's acts lie in blocks of K. -/
def RuOwn (K : List Ent) (r : RuL) : Prop := ∃ E, Vec 10 r.ad r.acts.length r.c (actsL r.acts) E ∧ ∀ x ∈ E, x ∈ K
def EnsOwn (K : List Ent) (es : List EnL) : Prop := ∀ e ∈ es, RuOwn K e.r
theorem RuOwn.sub {K K' : List Ent} {r : RuL} (h : RuOwn K r) (hs : ∀ x ∈ K, x ∈ K') : RuOwn K' r := let ⟨E, h1, h2⟩ := h; ⟨E, h1, fun x hx => hs x (h2 x hx)⟩
theorem Vec.rg {s : Nat} {ad : Option Addr} {k c : Nat} {xs : List Value} {E : List Ent} {w : World} (hV : Vec s ad k c xs E) (hw : ∀ e ∈ E, e.holds w) : Rg w ad xs := fun hn => by
  rcases hV with ⟨_, _, _, h, _⟩ | ⟨g, cs, rfl, rfl, hx, hl, hk⟩
  · exact absurd h hn
  · refine ⟨g, 0, rfl, fun j v hj => ?_⟩
    have hR : Row w g cs := hw (.row g cs) (List.mem_singleton.2 rfl)
    rw [Nat.zero_add]
    refine hR.cell ?_
    rw [← hx, List.getElem?_take] at hj
    split at hj
    · exact hj
    · cases hj
/-- Elements one by one, some of them. -/
theorem filter_take_succ {α : Type} (q : α → Bool) (xs : List α) {k : Nat} (h : k < xs.length) : (xs.take (k + 1)).filter q = (xs.take k).filter q ++ (if q xs[k] then [xs[k]] else []) := by
  rw [List.take_succ_eq_append_getElem h, List.filter_append]
  congr 1
  by_cases hq : q xs[k] = true
  · rw [if_pos hq, List.filter_cons_of_pos hq]; rfl
  · rw [if_neg hq, List.filter_cons_of_neg hq]; rfl
def keepE (outs : List Int) (e : EnL) : Bool := decide (e.mark ∉ outs)
structure WoS where
  k : Nat
  es : Array MapEntry
  c : Nat
  m : Value → Option Value
structure WpS where
  k : Nat
  ls : List EnL
  ad : Option Addr
  c : Nat
  E : List Ent
theorem enC_mark (e : EnL) : e.cells[1]? = some (.int .i64 e.mark) := rfl
set_option maxRecDepth 8000 in
set_option maxHeartbeats 2000000 in
theorem Without_c (w : World) (g : Nat) (t : TbL) (oa : Option Addr) (oc : Nat) (outs : List Int) (hg : w.cell? ⟨g, 1, none⟩ = some (.slice t.ad t.es.length t.c)) (hes : Rg w t.ad (ensL t.es)) (ho : Rg w oa (outs.map (Value.int .i64))) (hn : t.es.length ≤ 100000) (hon : outs.length ≤ 100000) :
    Calls Tryz.prog 48 #[.pointer (some ⟨g, 0, none⟩), .slice oa outs.length oc] w fun e w' => ∃ ad c E, e = .returned (.slice ad (t.es.filter (keepE outs)).length c) ∧ Vec 21 ad (t.es.filter (keepE outs)).length c (ensL (t.es.filter (keepE outs))) E ∧ St (fun _ => False) w w' E := by
  refine enter Tryz.func48 rfl Tryz.ntmps48 rfl (St.start (fun _ => False) w) ?_
  refine WC.seq <| WC.region <| WL.v (v_assign rfl rfl) rfl <| WL.nt <| WC.seq <| WC.region <| WL.v (v_move rfl rfl) rfl <| WL.v (v_len_slice rfl rfl Tryz.underlying74) rfl <| WL.makeMapN rfl rfl Tryz.underlying161 (.none rfl) rfl rfl <| ?_
  intro g15 hg15
  refine WL.v (v_assign rfl rfl) rfl <| WL.nt <| WC.seq <| WC.seq <| WC.region <| WL.v (v_move rfl rfl) rfl <| WL.v (v_len_slice rfl rfl Tryz.underlying74) rfl <| WL.v (v_move rfl rfl) rfl <| WL.nt <| WC.block <| ?_
  refine WC.loop (fun x : WoS => [(18, .int .i64 x.k), (17, .int .i64 outs.length), (16, .slice oa outs.length oc), (5, .map (some g15)), (0, .pointer (some ⟨g, 0, none⟩))]) (fun x => [.obj g15 (.map x.es x.c)]) (fun x => x.k ≤ outs.length ∧ IMap (KInt .i64) x.es x.m ∧ (∀ q : Int, (x.m (.int .i64 q)).isSome = true ↔ q ∈ outs.take x.k) ∧ ∀ a v, x.m a = some v → v = .agg #[]) (fun x => outs.length - x.k) ⟨0, #[], 0, fun _ => none⟩ ⟨Nat.zero_le _, IMap.empty _, fun q => by simp, fun a v h => by cases h⟩ (.cons rfl (.cons rfl (.cons rfl (.cons rfl (.cons rfl .nil))))) (.refl _) ?_
  rintro ⟨k, es, mc, m⟩ ⟨hk, hM, hm, hmz⟩
  dsimp only at hk hM hm hmz
  dsimp only
  refine WC.seq <| WC.region <| ?_
  refine WL.test (v_lss rfl rfl rfl) (.none rfl) rfl rfl (fun h19 => ?_) (fun h19 => ?_)
  ·
   refine WL.nt <| WC.seq <| WC.cond_t rfl <| WC.skip <| WE.then_n <| WC.seq <| WC.block <| WC.seq <| WC.region <| ?_
   obtain ⟨y, hy⟩ : ∃ y, outs[k]? = some y := ⟨outs[k]'(by omega), List.getElem?_eq_getElem _⟩
   obtain ⟨b1, o1, ea1, r1⟩ := ho (by intro hh; have := congrArg List.length hh; simp at this; rw [this] at h19; simp at h19; omega)
   refine WL.v ((v_indexAddr (b := b1) (off := o1) (lo := k) rfl (by show some (Value.slice oa _ _) = _; rw [ea1]) rfl Tryz.underlying74 sz_3 rfl (by omega))) rfl ?_
   refine WL.v (v_load1 rfl rfl one_3 (cellOld (fun h => h) (r1 _ (.int .i64 y) (by rw [Nat.mul_one, List.getElem?_map, hy]; rfl)))) rfl ?_
   refine WL.v (v_assign rfl rfl) rfl <| WL.nt <| WC.region <| WL.v (v_move rfl rfl) rfl <| WL.v (v_move rfl rfl) rfl <| WL.v (v_build rfl rfl zero_162 plc_162 rfl) rfl <| WL.mapUpdate rfl rfl rfl rfl Tryz.underlying161 (keyI Tryz.underlying3) (KInt.mk _ _) (hM) (.none rfl) rfl <| ?_
   intro esU cU hMU hsU
   refine WL.nil <| WE.block_n <| WE.then_n <| WC.region <| ?_
   refine WL.v (v_add rfl rfl rfl (w_i64 (by omega) (by omega))) rfl ?_
   refine WL.v (v_move rfl rfl) rfl <| WL.nil <| ?_
   refine WE.next ⟨k + 1, esU, cU, updM m (.int .i64 y) (some (.agg #[]))⟩ (by dsimp only; omega) ⟨by dsimp only; omega, hMU, fun q => ?_, fun a v h => ?_⟩ (.int rfl (by dsimp only; omega) (.cons rfl (.cons rfl (.cons rfl (.cons rfl .nil))))) (.refl _)
   · show (updM m (.int .i64 y) (some (.agg #[])) (.int .i64 q)).isSome = true ↔ q ∈ outs.take (k + 1)
     rw [List.take_add_one, hy, Option.toList_some, List.mem_append, List.mem_singleton, ← hm q]
     by_cases e : q = y
     · subst e; rw [updM_eq]; simp
     · rw [updM_ne _ _ (fun h => e (by injection h))]; simp [e]
   · have h : updM m (.int .i64 y) (some (.agg #[])) a = some v := h
     by_cases e : a = .int .i64 y
     · subst e; rw [updM_eq] at h; cases h; rfl
     · rw [updM_ne _ _ e] at h; exact hmz a v h
  ·
   refine WL.nt <| WC.seq <| WC.cond_f rfl <| WC.exit <| WE.then_exit <| WE.then_exit <| WE.block_hit <| WE.then_n <| WC.seq <| WC.region <| WL.v (v_move rfl rfl) rfl <| WL.v (v_nilCheck rfl rfl) rfl <| WL.v (v_fieldAddr0 rfl rfl fld_124_1) rfl <| WL.v (v_load1 rfl rfl one_40 (cellOld (fun h => h) hg)) rfl <| ?_
   refine WL.v (v_len_slice rfl rfl Tryz.underlying40) rfl ?_
   refine WL.makeN (m := 0) (c := t.es.length) rfl rfl rfl (by omega) (by omega) (by omega) Tryz.underlying40 by_119 (by omega) (by omega) sz_119 zero_119 rfl (.none rfl) rfl rfl ?_
   intro g31 hg31
   generalize hZ : List.flatten _ = Z
   have hV0 : Vec 21 (some ⟨g31, 0, none⟩) 0 t.es.length [] [.row g31 Z] := (by rw [← hZ]; exact Vec.made rfl)
   refine WL.v (v_assign rfl rfl) rfl <| WL.nt <| WC.seq <| WC.seq <| WC.region <| WL.v (v_move rfl rfl) rfl <| WL.v (v_nilCheck rfl rfl) rfl <| WL.v (v_fieldAddr0 rfl rfl fld_124_1) rfl <| WL.v (v_load1 rfl rfl one_40 (cellOld (fun h => h) hg)) rfl <| WL.v (v_len_slice rfl rfl Tryz.underlying40) rfl <| WL.v (v_move rfl rfl) rfl <| WL.nt <| WC.block <| WC.loop (fun x : WpS => [(37, .int .i64 x.k), (36, .int .i64 t.es.length), (35, .slice t.ad t.es.length t.c), (8, .slice x.ad x.ls.length x.c), (5, .map (some g15))]) (fun x => x.E ++ [.obj g15 (.map es mc)]) (fun x => x.k ≤ t.es.length ∧ x.ls = (t.es.take x.k).filter (keepE outs) ∧ Vec 21 x.ad x.ls.length x.c (ensL x.ls) x.E) (fun x => t.es.length - x.k) ⟨0, [], some ⟨g31, 0, none⟩, t.es.length, [.row g31 Z]⟩ ⟨Nat.zero_le _, rfl, hV0⟩ (.cons rfl (.cons rfl (.cons rfl (.cons rfl (.cons rfl .nil))))) (.refl _) <| ?_
   rintro ⟨k2, ls, ad, c, E⟩ ⟨hk2, hls, hV⟩
   dsimp only at hk2 hls hV
   dsimp only
   have hfl : ls.length ≤ 100000 := (by rw [hls]; exact Nat.le_trans (List.length_filter_le _ _) (by rw [List.length_take]; omega))
   refine WC.seq <| WC.region <| ?_
   refine WL.test (v_lss rfl rfl rfl) (.none rfl) rfl rfl (fun h38 => ?_) (fun h38 => ?_)
   ·
    refine WL.nt <| WC.seq <| WC.cond_t rfl <| WC.skip <| WE.then_n <| WC.seq <| WC.block <| WC.seq <| WC.region <| ?_
    obtain ⟨b2, o2, ea2, r2⟩ := hes (by intro hh; have := ensL_len t.es; rw [hh] at this; simp at this; omega)
    have hx : t.es[k2]? = some (t.es[k2]'(by omega)) := List.getElem?_eq_getElem _
    have hft := filter_take_succ (keepE outs) t.es (show k2 < t.es.length by omega)
    generalize t.es[k2]'(by omega) = x at hx hft
    refine WL.v ((v_indexAddr (b := b2) (off := o2) (lo := k2) rfl (by show some (Value.slice t.ad _ _) = _; rw [ea2]) rfl Tryz.underlying40 sz_119 rfl (by omega))) rfl ?_
    refine WL.v (v_loadN (cs := x.cells) rfl rfl many_119 (EnL.len x) (rgIn (fun h => h) (Rg.seg EnL.len r2 hx))) rfl <| WL.alloc rfl zero_119 (.none rfl) rfl rfl <| ?_
    intro g10 hg10
    refine WL.storeW rfl rfl rfl rfl many_119 rfl rfl (.none rfl) rfl <| WL.nt <| WC.seq <| WC.region <| WL.v (v_move rfl rfl) rfl <| WL.v (v_fieldAddr0 rfl rfl fld_119_1) rfl <| WL.v (v_load1 rfl rfl one_3 (cellAt (enC_mark x))) rfl <| ?_
    refine WL.v (v_lookup2 rfl rfl rfl Tryz.underlying161 (keyI Tryz.underlying3) (KInt.mk _ _) rfl (mapBlk (es := es) (c := mc) g15 (by simp)) (hM)) rfl ?_
    have hz45 : (m (.int .i64 x.mark)).getD (.agg #[]) = .agg #[] := (by cases hq : m (.int .i64 x.mark) with | none => rfl | some v => exact hmz _ v hq)
    rw [hz45]
    refine WL.v (v_move rfl rfl) rfl <| WL.v (v_extract rfl rfl rfl) rfl <| WL.v (v_extract rfl rfl rfl) rfl <| ?_
    generalize hb : (m (.int .i64 x.mark)).isSome = bb
    cases bb
    ·
     refine WL.alloc rfl zero_162 (.none rfl) rfl rfl ?_
     intro g11 hg11
     refine WL.storeW rfl rfl rfl rfl many_162 rfl rfl (.none rfl) rfl <| WL.v (v_assign rfl rfl) rfl <| WL.nt <| WC.seq <| WC.region <| WL.v (v_move rfl rfl) rfl <| WL.v (v_not rfl rfl rfl) rfl <| WL.nt <| WC.cond_t rfl <| WC.region <| WL.v (v_move rfl rfl) rfl <| WL.v (v_loadN rfl rfl many_119 rfl allAt) rfl <| ?_
     refine WL.buildSlice rfl rfl Tryz.underlying40 sz_119 zero_119 rfl (by decide) (by show some (splice (List.replicate 1 _).flatten 0 x.cells) = some x.cells; rw [splice_all (by rw [EnL.len]; rfl)]) (.none rfl) rfl rfl ?_
     intro g52 hg52
     refine WL.to (L' := E ++ [.row g52 x.cells, .obj g15 (.map es mc)]) (fun w hS => hS.dropX [.row g11 [], .row g10 x.cells]) ?_
     refine WL.appendL rfl rfl rfl Tryz.underlying40 Tryz.underlying40 sz_119 by_119 zero_119 rfl rfl hV (new := x.cells) (fun _ => ⟨g52, 0, rfl, fun w hS => allAt (g := g52) w hS⟩) (EnL.len x) (encL_one1 enL_one x) (by omega) (.none rfl) rfl rfl ?_
     intro ad53 c53 E53 hV53 hr53
     have hkeep : keepE outs x = true := (by
     refine decide_eq_true fun hin => ?_
     have := (hm x.mark).2 (by rw [List.take_of_length_le (by omega)]; exact hin)
     rw [hb] at this; cases this)
     refine WL.v (v_assign rfl rfl) rfl <| WL.nil <| WE.block_n <| WE.then_n <| WC.region <| ?_
     refine WL.v (v_add rfl rfl rfl (w_i64 (by omega) (by omega))) rfl ?_
     refine WL.v (v_move rfl rfl) rfl <| WL.nil <| ?_
     exact WE.next ⟨k2 + 1, ls ++ [x], ad53, c53, E53⟩ (by dsimp only; omega) ⟨by dsimp only; omega, by dsimp only; rw [hft, hkeep, hls]; simp, by dsimp only; rw [List.length_append]; show Vec 21 ad53 (ls.length + 1) c53 (ensL (ls ++ [x])) E53; rw [show ensL (ls ++ [x]) = ensL ls ++ x.cells from encL_snoc _ _ _]; exact hV53⟩ (.int rfl (by dsimp only; omega) (.cons rfl (.cons rfl (.eq rfl (by dsimp only; rw [List.length_append]; rfl) (.cons rfl .nil))))) (List.Sublist.append_left (.cons _ (.refl _)) _)
    ·
     refine WL.alloc rfl zero_162 (.none rfl) rfl rfl ?_
     intro g11 hg11
     refine WL.storeW rfl rfl rfl rfl many_162 rfl rfl (.none rfl) rfl <| WL.v (v_assign rfl rfl) rfl <| WL.nt <| WC.seq <| WC.region <| WL.v (v_move rfl rfl) rfl <| WL.v (v_not rfl rfl rfl) rfl <| WL.nt <| WC.cond_f rfl <| WC.skip <| WE.block_n <| WE.then_n <| WC.region <| ?_
     refine WL.v (v_add rfl rfl rfl (w_i64 (by omega) (by omega))) rfl ?_
     refine WL.v (v_move rfl rfl) rfl <| WL.nil <| ?_
     have hkeep : keepE outs x = false := (by
       refine decide_eq_false fun hin => hin ?_
       have := (hm x.mark).1 hb
       exact List.mem_of_mem_take this)
     exact WE.next ⟨k2 + 1, ls, ad, c, E⟩ (by dsimp only; omega) ⟨by dsimp only; omega, by dsimp only; rw [hft, hkeep, hls]; simp, hV⟩ (.int rfl (by dsimp only; omega) (.cons rfl (.cons rfl (.cons rfl (.cons rfl .nil))))) (.cons _ (.cons _ (.refl _)))
   ·
    refine WL.nt <| WC.seq <| WC.cond_f rfl <| WC.exit <| WE.then_exit <| WE.then_exit <| WE.block_hit <| WE.then_n <| WC.seq <| WC.region <| WL.v (v_move rfl rfl) rfl <| WL.v (v_assign rfl rfl) rfl <| WL.nt <| WC.ret <| ?_
    refine WE.ret1 (P := Tryz.prog) (.inl rfl) Tryz.results48 rfl ?_
    obtain rfl : k2 = t.es.length := (by omega)
    rw [List.take_length] at hls
    subst hls
    exact fun w' h => ⟨ad, c, E, rfl, hV, h.sub (List.sublist_append_left _ _)⟩
end Go.Proofs.YtkeonnnhogaggaaGreatDoor
