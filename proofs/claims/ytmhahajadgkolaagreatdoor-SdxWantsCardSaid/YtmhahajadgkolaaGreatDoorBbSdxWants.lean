/- Texts joined: engine, contracts and laws, in the order in which they build. -/
import Derived.Lib.MakeNoZero
import Derived.Shelf.SlSortCmp.WholeK
import Derived.Shelf.SlSortCmp.NoneTotal
import Derived.Shelf.SlLaysF0
import Derived.OrdersHeld
import Derived.Test.YtmhahajadgkolaaGreatDoorBaSdxWants
/- The engine: a region that draws its order, where one allocation may come up at any place among what only reads. -/
namespace Go.Proofs.YtmhahajadgkolaaGreatDoor
open Go.RowKit

section
variable {P : Program} {ops : Array Oper} {md : Region.Mode} {I : World → Prop} {R : World → World → Prop}

/-- One value in every world of the class; R: the world got and the world handed back. -/
def YieldsR (P : Program) (ops : Array Oper) (I : World → Prop) (R : World → World → Prop) (o : Oper) (v : Value) (a : Act) : Prop :=
  (Region.wanted o (yielded ops a.tmps) = true ∧ ∀ w, I w → o.quietAt P a (R w) w v) ∨ (Region.wanted o (yielded ops a.tmps) = false ∧ v = undef)
theorem YieldsR.of_same {o : Oper} {v : Value} {a a' : Act} (hy : YieldsR P ops I R o v a) (he : execOp a'.eval o = execOp a.eval o)
    (hw : Region.wanted o (yielded ops a'.tmps) = Region.wanted o (yielded ops a.tmps)) : YieldsR P ops I R o v a' := by
  unfold YieldsR Oper.quietAt at *
  rw [he, hw]
  exact hy
def Yv (P : Program) (ops : Array Oper) (I : World → Prop) (R : World → World → Prop) (ps : List Nat) (i : Nat) (o : Oper) (v : Value) (a : Act) : Prop :=
  if i ∈ ps then Yields P ops o v a else YieldsR P ops I R o v a
theorem Yv.put {ps : List Nat} {i : Nat} {o : Oper} {v u : Value} {a : Act} {dst : Option Tmp} (hs : ∀ cs b, o.op ≠ .select cs b) (hd : ∀ d, dst = some d → d ∉ o.looksAt ops) :
    Yv P ops I R ps i o v (a.put dst u) ↔ Yv P ops I R ps i o v a := by
  have e1 := execOp_put o hs a dst u hd
  have e2 := wanted_put (ops := ops) o a dst u hd
  unfold Yv
  split
  · exact ⟨fun h => h.of_same e1.symm e2.symm, fun h => h.of_same e1 e2⟩
  · exact ⟨fun h => h.of_same e1.symm e2.symm, fun h => h.of_same e1 e2⟩
theorem wpOp_of_Yv {ps : List Nat} {i : Nat} {o : Oper} {v : Value} {a : Act} {w : World} {K : Act → World → Prop} {Q : Exit → Act → World → Prop} (ho : ops[i]? = some o) (hy : Yv P ops I R ps i o v a) (hI : I w)
    (hK : ∀ w', w' = w ∨ R w w' → K (a.put o.dst v) w') : wpOp P ops Q i K a w := by
  unfold Yv at hy
  split at hy
  · exact hy.wpOp ho (hK w (.inl rfl))
  · unfold wpOp
    simp only [ho]
    rcases hy with ⟨hw, hv⟩ | ⟨hw, rfl⟩
    · simp only [hw, if_true]
      refine .inl ?_
      have h3 := hv w hI
      unfold Oper.quietAt at h3
      unfold Oper.wp
      generalize (execOp a.eval o).run P w = r at *
      cases r with
      | ok n w' =>
        cases n <;> simp only [Oper.quietUpon] at h3 <;> simp only [Oper.upon]
        case value u =>
          obtain ⟨e1, e2⟩ := h3
          rw [e1, e2]
          exact hK _ (.inl rfl)
        case skip =>
          obtain ⟨e1, e2⟩ := h3
          rw [e1, ← e2]
          exact hK _ (.inl rfl)
        case enter f args =>
          obtain ⟨e1, hc⟩ := h3
          rw [e1]
          exact hc.mono fun e w'' ⟨he, hw''⟩ => by subst he; exact hK _ (.inr hw'')
      | halt x w' => simp only [Oper.quietUpon] at h3
    · simp only [hw, Bool.false_eq_true, if_false]; exact hK w (.inl rfl)

def HeadM (P : Program) (md : Region.Mode) (ops : Array Oper) (I : World → Prop) (R : World → World → Prop) (hs ps : List Nat) (Lq : Array Bool → Act → Prop) : Nat → Array Bool → Act → Prop
  | 0, listed, a => Lq listed a
  | f + 1, listed, a => (∃ i ∈ Region.ready md ops listed, i ∈ hs) ∧ ∀ i ∈ Region.ready md ops listed, i ∈ hs → ∃ o v, ops[i]? = some o ∧ Yv P ops I R ps i o v a ∧ HeadM P md ops I R hs ps Lq f (listed.setIfInBounds i true) (a.put o.dst v)
theorem HeadM_first {hs ps : List Nat} {i : Nat} {oi : Oper} {v : Value} {Lq : Array Bool → Act → Prop} (hi : ops[i]? = some oi) (hsel : ∀ (j : Nat) (o : Oper) cs b, ops[j]? = some o → o.op ≠ .select cs b)
    (hh : i ∈ hs) (hdone : ∀ listed a, Lq listed a → ∀ j ∈ hs, listed.getD j false = true) :
    ∀ (f : Nat) (listed : Array Bool) (a : Act),
      (∀ j oj, ops[j]? = some oj → j ≠ i → listed.getD j true = false → (∀ e ∈ oj.after, Region.binds md e = true → e.on ≠ i) → oi.apart ops oj = true) →
      i ∈ Region.ready md ops listed → Yv P ops I R ps i oi v a →
      HeadM P md ops I R hs ps Lq f (listed.setIfInBounds i true) (a.put oi.dst v) → HeadM P md ops I R hs ps Lq (f + 1) listed a := by
  intro f
  induction f with
  | zero =>
    intro listed a _ hr hy H
    refine ⟨⟨i, hr, hh⟩, fun j hj hjh => ?_⟩
    by_cases hji : j = i
    · subst hji; exact ⟨oi, v, hi, hy, H⟩
    · have h1 := hdone _ _ H j hjh
      rw [getD_set_ne false (Ne.symm hji)] at h1
      have := getD_both (mem_ready.1 hj).1
      rw [h1] at this; cases this
  | succ f ih =>
    intro listed a hfree hr hy H
    have hun := getD_both (mem_ready.1 hr).1
    refine ⟨⟨i, hr, hh⟩, fun j hj hjh => ?_⟩
    by_cases hji : j = i
    · subst hji; exact ⟨oi, v, hi, hy, H⟩
    · obtain ⟨oj', u, hoj', hyj, Hj⟩ := H.2 j (ready_mono hj hji) hjh
      obtain ⟨hjun, oj, hoj, hall⟩ := mem_ready.1 hj
      obtain rfl : oj' = oj := Option.some.inj (hoj'.symm.trans hoj)
      have hnot : ∀ e ∈ oj'.after, Region.binds md e = true → e.on ≠ i := fun e he hb heq => by
        have h1 := hall e he hb
        rw [heq, hun] at h1
        cases h1
      obtain ⟨h1, h2, h3⟩ := Oper.apart_spec (hfree j oj' hoj hji hjun hnot)
      have hfree' : ∀ k ok, ops[k]? = some ok → k ≠ i → (listed.setIfInBounds j true).getD k true = false →
          (∀ e ∈ ok.after, Region.binds md e = true → e.on ≠ i) → oi.apart ops ok = true := fun k ok hk hki hun hno => by
        refine hfree k ok hk hki ?_ hno
        by_cases hjk : j = k
        · subst hjk; exact hjun
        · rw [getD_set_ne true hjk] at hun; exact hun
      refine ⟨oj', u, hoj, (Yv.put (fun cs b => hsel j oj' cs b hoj) h1).1 hyj, ih _ _ hfree' (ready_mono hr (Ne.symm hji)) ((Yv.put (fun cs b => hsel i oi cs b hi) h3).2 hy) ?_⟩
      rw [Array.setIfInBounds_comm _ _ hji, ← Act.put_comm a v u h2]
      exact Hj
theorem HeadM_over {hs ps : List Nat} {k d : Nat} {u : Value} {Lq Lq' : Array Bool → Act → Prop} (hsel : ∀ (j : Nat) (o : Oper) cs b, ops[j]? = some o → o.op ≠ .select cs b) (hk : k ∉ hs)
    (hno : ∀ i ∈ hs, ∀ o, ops[i]? = some o → d ∉ o.looksAt ops ∧ o.dst ≠ some d ∧ ∀ e ∈ o.after, Region.binds md e = true → e.on ≠ k)
    (hL : ∀ listed a, Lq listed a → Lq' (listed.setIfInBounds k true) (a.put (some d) u)) :
    ∀ (f : Nat) (listed : Array Bool) (a : Act), HeadM P md ops I R hs ps Lq f listed a → HeadM P md ops I R hs ps Lq' f (listed.setIfInBounds k true) (a.put (some d) u)
  | 0, listed, a, H => hL _ _ H
  | f + 1, listed, a, ⟨⟨i, hr, hh⟩, H⟩ => by
    refine ⟨⟨i, ready_mono hr (fun e => hk (e ▸ hh)), hh⟩, fun j hj hjh => ?_⟩
    have hjk : k ≠ j := fun e => hk (e ▸ hjh)
    have hj' : j ∈ Region.ready md ops listed := by
      obtain ⟨h1, o, ho, hall⟩ := mem_ready.1 hj
      refine mem_ready.2 ⟨by rw [getD_set_ne true hjk] at h1; exact h1, o, ho, fun e he hb => ?_⟩
      have := hall e he hb
      rw [getD_set_ne false (Ne.symm ((hno j hjh o ho).2.2 e he hb))] at this
      exact this
    obtain ⟨o, v, ho, hy, hn⟩ := H j hj' hjh
    obtain ⟨n1, n2, _⟩ := hno j hjh o ho
    refine ⟨o, v, ho, (Yv.put (fun cs b => hsel j o cs b ho) (fun d' e => by cases e; exact n1)).2 hy, ?_⟩
    have := HeadM_over hsel hk hno hL f _ _ hn
    rw [Array.setIfInBounds_comm _ _ hjk, Act.put_comm a (x := some d) (y := o.dst) u v (fun d' e => by cases e; exact n2)]
    exact this

theorem Has.put_nil {n : Nat} {a : Act} (h : Has n a []) (dst : Option Nat) (v : Value) : Has n (a.put dst v) [] := by
  cases dst with
  | none => exact h
  | some d => exact ⟨by simp [Act.put, h.size], h.defers, fun t v hv => by cases hv⟩

/-! ### The checks -/
def sinkOne (md : Region.Mode) (ops : Array Oper) (hs : List Nat) (k : Nat) (listed : Array Bool) : Bool :=
  (List.range ops.size).all fun t => listed.getD t false || hs.contains t || t == k || waitsB md ops k ops.size t
def sinkHead (md : Region.Mode) (ops : Array Oper) (hs hs1 : List Nat) (listed : Array Bool) : Bool :=
  (List.range ops.size).all fun t => listed.getD t false || hs.contains t || hs1.all fun h => waitsB md ops h ops.size t
def overB (md : Region.Mode) (ops : Array Oper) (hs : List Nat) (k d : Nat) : Bool :=
  hs.all fun i => i != k && match ops[i]? with
    | some o => !(o.looksAt ops).contains d && o.dst != some d && o.after.all fun e => !Region.binds md e || e.on != k
    | none => true
theorem overB_spec {hs : List Nat} {k d : Nat} (h : overB md ops hs k d = true) : k ∉ hs ∧ ∀ i ∈ hs, ∀ o, ops[i]? = some o → d ∉ o.looksAt ops ∧ o.dst ≠ some d ∧ ∀ e ∈ o.after, Region.binds md e = true → e.on ≠ k := by
  have h1 := List.all_eq_true.1 h
  refine ⟨fun hk => ?_, fun i hi o ho => ?_⟩
  · have := h1 k hk
    simp at this
  · have := h1 i hi
    simp only [ho, Bool.and_eq_true, Bool.not_eq_true', bne_iff_ne, ne_eq] at this
    refine ⟨by simpa using this.2.1.1, this.2.1.2, fun e he hb => ?_⟩
    have h2 := Array.all_eq_true'.1 this.2.2 e he
    rw [hb] at h2
    simpa using h2
/-- What is pure may be taken ahead of all but what waits for it, when these are done. -/
def freeB (md : Region.Mode) (ops : Array Oper) (hs1 ps : List Nat) (listed : Array Bool) : Bool :=
  ps.all fun i => match ops[i]? with
    | some oi => (List.range ops.size).all fun j => j == i || listed.getD j false || hs1.contains j || match ops[j]? with
      | some oj => (oj.after.any fun e => Region.binds md e && e.on == i) || oi.apart ops oj
      | none => true
    | none => true

/-! ### The allocation is done -/
theorem any_of_B {hs1 ps : List Nat} {listed1 : Array Bool} {D : World → Prop} {g : Nat} {Q : Exit → Act → World → Prop} {Lq : Array Bool → Act → Prop} (hsel : Region.noSelect ops = true) (hDI : ∀ w, D w → I w) (hDR : ∀ w w', D w → R w w' → D w')
    (hsk : sinkHead md ops (hs1 ++ ps) hs1 listed1 = true) (hfr : freeB md ops hs1 ps listed1 = true)
    (hfin : ∀ listed a w, Inv md ops (hs1 ++ ps) listed1 listed → (∀ j, listed1.getD j false = true → listed.getD j false = true) → Lq listed a → D w → wpAny P md ops (NP Q) g listed a w) :
    ∀ (f : Nat) (listed : Array Bool) (a : Act) (w : World), Inv md ops (hs1 ++ ps) listed1 listed → (∀ j, listed1.getD j false = true → listed.getD j false = true) → D w → HeadM P md ops I R (hs1 ++ ps) ps Lq f listed a → wpAny P md ops (NP Q) (f + g) listed a w
  | 0, listed, a, w, inv, hm, hD, H => by rw [Nat.zero_add]; exact hfin _ _ _ inv hm H hD
  | f + 1, listed, a, w, inv, hm, hD, ⟨⟨i0, hr0, hh0⟩, H⟩ => by
    rw [show f + 1 + g = (f + g) + 1 by omega]
    by_cases hun : ∃ h ∈ hs1, listed.getD h false = false
    · obtain ⟨h, hh1, hun⟩ := hun
      refine ⟨fun h0 => (by rw [h0] at hr0; cases hr0), fun i hi => ?_⟩
      have hih : i ∈ hs1 ++ ps := by
        obtain ⟨hju, oj, hoj, _⟩ := mem_ready.1 hi
        have hlt := (Array.getElem?_eq_some_iff.1 hoj).1
        have h1 := List.all_eq_true.1 hsk i (List.mem_range.2 hlt)
        simp only [Bool.or_eq_true] at h1
        rcases h1 with (h1 | h1) | h1
        · have := hm i h1
          rw [getD_both hju] at this; cases this
        · simpa using h1
        · exact absurd hi (waits_spec inv.closed hun _ _ (List.all_eq_true.1 h1 h hh1)).2
      obtain ⟨o, v, ho, hy, hn⟩ := H i hi hih
      refine wpOp_of_Yv ho hy (hDI w hD) fun w' hw' => any_of_B hsel hDI hDR hsk hfr hfin f _ _ w' (inv.set hi hih) (fun j hj => getD_set_true (hm j hj)) ?_ hn
      rcases hw' with rfl | hw'
      · exact hD
      · exact hDR _ _ hD hw'
    · have hall : ∀ h ∈ hs1, listed.getD h false = true := fun h hh => by
        cases e : listed.getD h false with
        | true => rfl
        | false => exact absurd ⟨h, hh, e⟩ hun
      have hu0 := getD_both (mem_ready.1 hr0).1
      have hp : i0 ∈ ps := by
        rcases List.mem_append.1 hh0 with h | h
        · rw [hall i0 h] at hu0; cases hu0
        · exact h
      obtain ⟨o, v, ho, hy, hn⟩ := H i0 hr0 hh0
      unfold Yv at hy
      rw [if_pos hp] at hy
      refine wpAny_first ho (Region.noSelect_spec hsel) (fun c a w hh => hh) (f + g) listed a w ?_ hr0 hy (any_of_B hsel hDI hDR hsk hfr hfin f _ _ w (inv.set hr0 hh0) (fun j hj => getD_set_true (hm j hj)) hD hn)
      intro j oj hoj hji hju hno
      have hlt := (Array.getElem?_eq_some_iff.1 hoj).1
      have h1 := List.all_eq_true.1 hfr i0 hp
      simp only [ho] at h1
      have h2 := List.all_eq_true.1 h1 j (List.mem_range.2 hlt)
      simp only [hoj, Bool.or_eq_true, beq_iff_eq] at h2
      rcases h2 with ((h2 | h2) | h2) | h2
      · exact absurd h2 hji
      · have := hm j h2
        rw [getD_both hju] at this; cases this
      · have := hall j (by simpa using h2)
        rw [getD_both hju] at this; cases this
      · rcases h2 with h2 | h2
        · obtain ⟨e, he, hb⟩ := Array.any_eq_true'.1 h2
          simp only [Bool.and_eq_true, beq_iff_eq] at hb
          exact absurd hb.2 (hno e he hb.1)
        · exact h2
/-! ### The allocation is still to come -/
theorem any_of_A {hs1 ps : List Nat} {k d n : Nat} {ok : Oper} {listed0 : Array Bool} {D : Nat → World → Prop} {g : Nat} {Q : Exit → Act → World → Prop} {Lq : Array Bool → Act → Prop} {Lq' : Nat → Array Bool → Act → Prop}
    (hsel : Region.noSelect ops = true) (hsz0 : listed0.size = ops.size) (hI : ∀ w w', I w → R w w' → I w') (hDI : ∀ x w, D x w → I w) (hDR : ∀ x w w', D x w → R w w' → D x w')
    (hok : ops[k]? = some ok) (hov : overB md ops (hs1 ++ ps) k d = true) (hsa : sinkOne md ops (hs1 ++ ps) k listed0 = true)
    (hsk : sinkHead md ops (hs1 ++ ps) hs1 (listed0.setIfInBounds k true) = true) (hfr : freeB md ops hs1 ps (listed0.setIfInBounds k true) = true)
    (hal : ∀ (a : Act) (w : World) (K : Act → World → Prop), Has n a [] → I w → (∀ x w1, D x w1 → K (a.put (some d) (.pointer (some ⟨x, 0, none⟩))) w1) → wpOp P ops (NP Q) k K a w)
    (hdone : ∀ listed a, Lq listed a → ∀ j ∈ hs1 ++ ps, listed.getD j false = true)
    (hL : ∀ x listed a, Lq listed a → Lq' x (listed.setIfInBounds k true) (a.put (some d) (.pointer (some ⟨x, 0, none⟩))))
    (hfin : ∀ x listed a w, Inv md ops (hs1 ++ ps) (listed0.setIfInBounds k true) listed → (∀ j, (listed0.setIfInBounds k true).getD j false = true → listed.getD j false = true) → Lq' x listed a → D x w → wpAny P md ops (NP Q) g listed a w) :
    ∀ (f : Nat) (listed : Array Bool) (a : Act) (w : World), Inv md ops (hs1 ++ ps) listed0 listed → (∀ j, listed0.getD j false = true → listed.getD j false = true) → k ∈ Region.ready md ops listed → Has n a [] → I w → HeadM P md ops I R (hs1 ++ ps) ps Lq f listed a → wpAny P md ops (NP Q) (f + 1 + g) listed a w := by
  obtain ⟨hk, hno⟩ := overB_spec hov
  have only : ∀ listed : Array Bool, Inv md ops (hs1 ++ ps) listed0 listed → (∀ j, listed0.getD j false = true → listed.getD j false = true) → k ∈ Region.ready md ops listed → ∀ i ∈ Region.ready md ops listed, i ∈ hs1 ++ ps ∨ i = k := fun listed inv hm hkr i hi => by
    obtain ⟨hju, oj, hoj, _⟩ := mem_ready.1 hi
    have hlt := (Array.getElem?_eq_some_iff.1 hoj).1
    have h1 := List.all_eq_true.1 hsa i (List.mem_range.2 hlt)
    simp only [Bool.or_eq_true, beq_iff_eq] at h1
    rcases h1 with ((h1 | h1) | h1) | h1
    · have := hm i h1
      rw [getD_both hju] at this; cases this
    · exact .inl (by simpa using h1)
    · exact .inr h1
    · exact absurd hi (waits_spec inv.closed (getD_both (mem_ready.1 hkr).1) _ _ h1).2
  have inv1 : ∀ listed : Array Bool, Inv md ops (hs1 ++ ps) listed0 listed → k ∈ Region.ready md ops listed → (∀ j, listed0.getD j false = true → listed.getD j false = true) → Inv md ops (hs1 ++ ps) (listed0.setIfInBounds k true) (listed.setIfInBounds k true) ∧ (∀ j, (listed0.setIfInBounds k true).getD j false = true → (listed.setIfInBounds k true).getD j false = true) := fun listed inv hkr hm => by
    have hlt : k < listed.size := by
      have := (mem_ready.1 hkr).1
      rcases Nat.lt_or_ge k listed.size with h' | h'
      · exact h'
      · simp [Array.getElem?_eq_none h'] at this
    have hlt0 : k < listed0.size := by rw [hsz0, ← inv.size]; exact hlt
    have hset : ∀ j, (listed0.setIfInBounds k true).getD j false = true → (listed.setIfInBounds k true).getD j false = true := fun j hj => by
      by_cases hjk : k = j
      · subst hjk; simp [hlt]
      · rw [getD_set_ne false hjk] at hj ⊢; exact hm j hj
    refine ⟨⟨inv.closed.set hkr, fun j hj => ?_, by simp [inv.size]⟩, hset⟩
    by_cases hjk : k = j
    · subst hjk; exact .inl (by simp [hlt0])
    · rw [getD_set_ne false hjk] at hj
      rcases inv.only j hj with h2 | h2
      · exact .inl (getD_set_true h2)
      · exact .inr h2
  intro f
  induction f with
  | zero =>
    intro listed a w inv hm hkr ha hI' H
    rw [show 0 + 1 + g = g + 1 by omega]
    refine ⟨fun h0 => (by rw [h0] at hkr; cases hkr), fun i hi => ?_⟩
    rcases only listed inv hm hkr i hi with h | rfl
    · have h1 := hdone _ _ H i h
      have := getD_both (mem_ready.1 hi).1
      rw [h1] at this; cases this
    · exact hal a w _ ha hI' fun x w1 hD => hfin x _ _ _ (inv1 listed inv hkr hm).1 (inv1 listed inv hkr hm).2 (hL x _ _ H) hD
  | succ f ih =>
    intro listed a w inv hm hkr ha hI' H
    rw [show f + 1 + 1 + g = (f + 1 + g) + 1 by omega]
    refine ⟨fun h0 => (by rw [h0] at hkr; cases hkr), fun i hi => ?_⟩
    rcases only listed inv hm hkr i hi with h | rfl
    · obtain ⟨o, v, ho, hy, hn⟩ := H.2 i hi h
      refine wpOp_of_Yv ho hy hI' fun w' hw' => ih _ _ w' (inv.set hi h) (fun j hj => getD_set_true (hm j hj)) (ready_mono hkr (fun e => hk (e ▸ h))) (ha.put_nil _ _) ?_ hn
      rcases hw' with rfl | hw'
      · exact hI'
      · exact hI _ _ hI' hw'
    · refine hal a w _ ha hI' fun x w1 hD => ?_
      exact any_of_B hsel (hDI x) (hDR x) hsk hfr (hfin x) (f + 1) _ _ w1 (inv1 listed inv hkr hm).1 (inv1 listed inv hkr hm).2 hD (HeadM_over (Region.noSelect_spec hsel) hk hno (fun l a h => hL x l a h) (f + 1) _ _ H)

/-! ### From a list, and the steps -/
def mixL (P : Program) (I : World → Prop) (R : World → World → Prop) (ps : List Nat) (os : List Oper) (K : Act → Prop) : List Nat → Act → Prop
  | [], a => K a
  | i :: is, a => ∃ v, Yv P os.toArray I R ps i (at_ os i) v a ∧ mixL P I R ps os K is (a.put (at_ os i).dst v)
theorem mixL_append {ps : List Nat} {os : List Oper} {K : Act → Prop} {js2 : List Nat} : ∀ (js1 : List Nat) (a : Act), mixL P I R ps os (mixL P I R ps os K js2) js1 a → mixL P I R ps os K (js1 ++ js2) a
  | [], _, h => h
  | _ :: is, _, ⟨v, hy, h⟩ => ⟨v, hy, mixL_append is _ h⟩
theorem HeadM_list {os : List Oper} {hs ps : List Nat} {K : Act → Prop} (hsel : Region.noSelect os.toArray = true) :
    ∀ (js : List Nat) (listed : Array Bool) (a : Act), (∀ j ∈ js, j ∈ hs) → (∀ j ∈ hs, j ∈ js ∨ listed.getD j false = true) → takesB .any os.toArray js listed = true → mixL P I R ps os K js a →
    HeadM P .any os.toArray I R hs ps (fun listed' a' => (∀ j ∈ hs, listed'.getD j false = true) ∧ K a') js.length listed a
  | [], listed, a, _, hd, _, h => ⟨fun j hj => (hd j hj).resolve_left (by simp), h⟩
  | i :: is, listed, a, hj, hd, hB, h => by
    simp only [takesB, Bool.and_eq_true] at hB
    obtain ⟨⟨hr, hf⟩, hB'⟩ := hB
    have hr' : i ∈ Region.ready .any os.toArray listed := by simpa using hr
    have h0 := at_some hr'
    obtain ⟨v, hy, hK⟩ := h
    refine HeadM_first h0 (Region.noSelect_spec hsel) (hj i (by simp)) (fun _ _ h j hj => h.1 j hj) is.length listed a (Region.free_spec h0 hf) hr' hy ?_
    exact HeadM_list hsel is _ _ (fun j h => hj j (by simp [h])) (fun j h => by
      rcases hd j h with h1 | h1
      · rcases List.mem_cons.1 h1 with rfl | h1
        · right
          have hlt : j < listed.size := by
            have := (mem_ready.1 hr').1
            rcases Nat.lt_or_ge j listed.size with h' | h'
            · exact h'
            · simp [Array.getElem?_eq_none h'] at this
          simp [hlt]
        · exact .inl h1
      · exact .inr (getD_set_true h1)) hB' hK
def rqList (P : Program) (ops : Array Oper) (I : World → Prop) (R : World → World → Prop) (K : Act → Prop) : List Oper → Act → Prop
  | [], a => K a
  | o :: rest, a => ∃ v, YieldsR P ops I R o v a ∧ rqList P ops I R K rest (a.put o.dst v)
theorem mixL_reads {ps : List Nat} {os : List Oper} {K : Act → Prop} : ∀ (js : List Nat) (a : Act), (js.all fun j => !ps.contains j) = true → rqList P os.toArray I R K (js.map (at_ os)) a → mixL P I R ps os K js a
  | [], _, _, h => h
  | i :: is, a, hn, ⟨v, hy, h⟩ => by
    simp only [List.all_cons, Bool.and_eq_true, Bool.not_eq_true'] at hn
    have hi : i ∉ ps := by simpa using hn.1
    exact ⟨v, by unfold Yv; rw [if_neg hi]; exact hy, mixL_reads is _ hn.2 h⟩
theorem mixL_pure {ps : List Nat} {os : List Oper} {K : Act → Prop} : ∀ (js : List Nat) (a : Act), (∀ j ∈ js, j ∈ ps) → wpPure P os.toArray K (js.map (at_ os)) a → mixL P I R ps os K js a
  | [], _, _, h => h
  | i :: is, a, hn, ⟨v, hy, h⟩ => ⟨v, by unfold Yv; rw [if_pos (hn i (by simp))]; exact hy, mixL_pure is _ (fun j hj => hn j (by simp [hj])) h⟩
theorem mixL_mono {ps : List Nat} {os : List Oper} {K K' : Act → Prop} (hK : ∀ a, K a → K' a) : ∀ (js : List Nat) (a : Act), mixL P I R ps os K js a → mixL P I R ps os K' js a
  | [], _, h => hK _ h
  | _ :: is, _, ⟨v, hy, h⟩ => ⟨v, hy, mixL_mono hK is _ h⟩

variable {Q : Exit → Act → World → Prop} {n : Nat} {p : Nat → Prop} {w0 : World} {o : Oper} {rest os : List Oper} {l : Kn} {L : List Ent} {K : Act → Prop}
/-- The reads of such a region. -/
def WM (P : Program) (ops : Array Oper) (K : Act → Prop) (n : Nat) (p : Nat → Prop) (w0 : World) (rest : List Oper) (l : Kn) (L : List Ent) : Prop :=
  ∀ a, Has n a l → rqList P ops (fun w => St p w0 w L) (Frm (fun _ => False)) K rest a
theorem WM.val {d : Nat} {v : Value} (hv : Val P (fun w => St p w0 w L) n l o v) (hg : On ops o l) (hd : o.dst = some d) (hn : Nat.blt d n = true)
    (h : WM P ops K n p w0 rest ((d, v) :: l) L) : WM P ops K n p w0 (o :: rest) l L := fun a ha =>
  ⟨v, .inl ⟨hg.ok ha, fun w hS => by unfold Oper.quietAt; rw [hv a w ha hS]; exact ⟨rfl, rfl⟩⟩, h _ (ha.put_any hd hn v)⟩
theorem WM.nil {K' : Act → World → Prop} (h : WP P ops K' n p w0 rest l L) : WM P ops (wpPure P ops (fun a' => ∀ w, St p w0 w L → K' a' w) rest) n p w0 [] l L := h
/-- What is known when all that is done, the allocation apart. -/
def KM (P : Program) (os : List Oper) (Q : Exit → Act → World → Prop) (n : Nat) (p : Nat → Prop) (w0 : World) (g d : Nat) (zs : List Value) (listed : Array Bool) (L : List Ent) (a : Act) : Prop :=
  ∃ l', Has n a l' ∧ ∀ x, w0.heap.size ≤ x → WR P os Q n p w0 g listed ((d, .pointer (some ⟨x, 0, none⟩)) :: l') (.row x zs :: L)
theorem WP.nilM {g d : Nat} {zs : List Value} {listed : Array Bool} (h : ∀ x, w0.heap.size ≤ x → WR P os Q n p w0 g listed ((d, .pointer (some ⟨x, 0, none⟩)) :: l) (.row x zs :: L)) :
    WP P os.toArray (fun a _ => KM P os Q n p w0 g d zs listed L a) n p w0 [] l L := fun _ ha _ _ => ⟨l, ha, h⟩
def mixB (os : List Oper) (k d : Nat) (js ps : List Nat) (listed : Array Bool) : Bool :=
  Region.noSelect os.toArray && closedB .any os.toArray listed && takesB .any os.toArray (js ++ ps) listed && (Region.ready .any os.toArray listed).contains k && overB .any os.toArray (js ++ ps) k d &&
  sinkOne .any os.toArray (js ++ ps) k listed && sinkHead .any os.toArray (js ++ ps) js (listed.setIfInBounds k true) && freeB .any os.toArray js ps (listed.setIfInBounds k true) && js.all fun j => !ps.contains j
theorem WR.mix {ty d g : Nat} {zs : List Value} {listed : Array Bool} (k : Nat) (js ps : List Nat) (ho : (at_ os k).op = .alloc ty) (hz : Zero P ty zs) (hg : (at_ os k).guard = none) (hd : (at_ os k).dst = some d) (hn : Nat.blt d n = true)
    (hsz : listed.size = os.length) (hB : mixB os k d js ps listed = true)
    (h : WM P os.toArray (wpPure P os.toArray (fun a' => ∀ w, St p w0 w L → KM P os Q n p w0 g d zs (marks (listed.setIfInBounds k true) (js ++ ps)) L a') (ps.map (at_ os))) n p w0 (js.map (at_ os)) l L) :
    WR P os Q n p w0 ((js ++ ps).length + 1 + g) listed l L := fun a w ha hS => by
  simp only [mixB, Bool.and_eq_true] at hB
  obtain ⟨⟨⟨⟨⟨⟨⟨⟨hsel, hcl⟩, htk⟩, hkr⟩, hov⟩, hsa⟩, hsk⟩, hfr⟩, hps⟩ := hB
  have hsz' : listed.size = os.toArray.size := by simpa using hsz
  have hkr' : k ∈ Region.ready .any os.toArray listed := by simpa using hkr
  have hko := at_some hkr'
  have H0 : mixL P (fun w => St p w0 w L) (Frm (fun _ => False)) ps os (fun a' => KM P os Q n p w0 g d zs (marks (listed.setIfInBounds k true) (js ++ ps)) L a') (js ++ ps) a := by
    refine mixL_append js a (mixL_reads js a hps ?_)
    have h1 := h a ha
    have mono : ∀ (K1 K2 : Act → Prop) (hK : ∀ a, K1 a → K2 a) (r : List Oper) (a : Act), rqList P os.toArray (fun w => St p w0 w L) (Frm (fun _ => False)) K1 r a → rqList P os.toArray (fun w => St p w0 w L) (Frm (fun _ => False)) K2 r a := by
      intro K1 K2 hK r
      induction r with
      | nil => exact fun a h => hK a h
      | cons o r ih => exact fun a ⟨v, hy, h⟩ => ⟨v, hy, ih _ h⟩
    exact mono _ _ (fun a h => mixL_mono (fun a h => h w hS) ps a (mixL_pure ps a (fun _ h => h) h)) _ _ h1
  have H := HeadM_list (P := P) hsel (js ++ ps) listed a (fun _ h => h) (fun _ h => .inl h) htk H0
  refine any_of_A (D := fun x w => St p w0 w (.row x zs :: L) ∧ w0.heap.size ≤ x) (Lq' := fun x listed' a' => (∀ j ∈ js ++ ps, listed'.getD j false = true) ∧ ∃ l', Has n a' ((d, .pointer (some ⟨x, 0, none⟩)) :: l') ∧ ∀ x, w0.heap.size ≤ x → WR P os Q n p w0 g (marks (listed.setIfInBounds k true) (js ++ ps)) ((d, .pointer (some ⟨x, 0, none⟩)) :: l') (.row x zs :: L))
    hsel hsz' (fun w w' h1 h2 => h1.ext h2) (fun x w h => h.1.tail) (fun x w w' h1 h2 => ⟨h1.1.ext h2, h1.2⟩) hko hov hsa hsk hfr ?_ (fun _ _ h => h.1) ?_ ?_ (js ++ ps).length listed a w ⟨closedB_spec hcl, fun _ h => .inl h, hsz'⟩ (fun _ h => h) hkr' (ha.sub Sub.nil) hS H
  · intro a w K ha hS hK
    unfold wpOp
    simp only [hko]
    rw [if_pos (by simp [Region.wanted, hg])]
    refine .inl ?_
    have hz' := hz
    obtain ⟨z, hz, rfl⟩ := hz
    unfold Oper.wp
    have e : (execOp a.eval (at_ os k)).run P w = .ok (.value (.pointer (some ⟨w.heap.size, 0, none⟩))) (w.alloc (.cells z.cells.toList.toArray ty)) := by
      unfold execOp
      simp [ho, Instr.alloc, run_zeroValue hz, newVar, newRow, newObj, Sem.run]
    rw [e]
    simp only [Oper.upon, hd]
    exact hK _ _ ⟨St.new (T := ty) hS, hS.frm.size⟩
  · rintro x listed' a' ⟨h1, l', hl', h2⟩
    exact ⟨fun j hj => getD_set_true (h1 j hj), l', hl'.put hn _, h2⟩
  · rintro x listed' a' w' inv hm ⟨h1, l', hl', h2⟩ ⟨hS', hx⟩
    have e : listed' = marks (listed.setIfInBounds k true) (js ++ ps) := marks_eq (fun j => by
      constructor
      · intro hj
        rcases inv.only j hj with h2 | h2
        · exact .inl h2
        · refine .inr ⟨h2, ?_⟩
          rcases Nat.lt_or_ge j listed'.size with h' | h'
          · rw [inv.size, ← hsz'] at h'; simpa using h'
          · simp [Array.getElem?_eq_none h'] at hj
      · rintro (h2 | ⟨h2, _⟩)
        · exact hm j h2
        · exact h1 j h2) (by rw [inv.size, ← hsz']; simp)
    rw [e]
    exact h2 x hx a' w' hl' hS'
/-- Whatever comes up next, each alone. -/
def AllOf (K : Nat → Prop) : List Nat → Prop
  | [] => True
  | [i] => K i
  | i :: j :: is => K i ∧ AllOf K (j :: is)
theorem AllOf.get {K : Nat → Prop} : ∀ {rs : List Nat}, AllOf K rs → ∀ i ∈ rs, K i
  | [], _, i, h => by cases h
  | [j], h, i, hi => by rw [List.mem_singleton.1 hi]; exact h
  | j :: k :: is, h, i, hi => by
    rcases List.mem_cons.1 hi with rfl | hi
    · exact h.1
    · exact AllOf.get h.2 i hi
theorem WR.each {g : Nat} {listed : Array Bool} (rs : List Nat) (hr : Region.ready .any os.toArray listed = rs) (hne : rs ≠ [])
    (h : AllOf (fun i => WL P os.toArray (RQ (Rest P os Q g (listed.setIfInBounds i true)) (NP Q)) n p w0 [at_ os i] l L) rs) : WR P os Q n p w0 (g + 1) listed l L := fun a w ha hS => by
  refine wpAny_all hr hne fun i hi => ?_
  have ho := at_some (listed := listed) (i := i) (by rw [hr]; exact hi)
  have h' : wpList P os.toArray (RQ (Rest P os Q g (listed.setIfInBounds i true)) (NP Q)) [at_ os i] a w := h.get i hi a w ha hS
  unfold wpOp
  simp only [ho]
  unfold wpList at h'
  split
  · rename_i hwd
    rw [if_pos hwd] at h'
    exact (h'.imp wpRQ (fun h => ⟨h.1, RQ.out h.2⟩)).imp (Oper.wp_mono fun _ _ h => h) id
  · rename_i hwd
    rw [if_neg hwd] at h'
    exact h'
end
end Go.Proofs.YtmhahajadgkolaaGreatDoor
/- rules: acts. -/
namespace Go.Proofs.YtmhahajadgkolaaGreatDoor
open Go.RowKit

structure Ac where
  set : Int
  val : Nat → Int
/-- u64 cells. -/
def ucs (f : Nat → Int) (n : Nat) : List Value := (List.range n).map fun i => .int .u64 (f i)
theorem ucs_len (f : Nat → Int) (n : Nat) : (ucs f n).length = n := by simp [ucs]
theorem ucs_get (f : Nat → Int) {n i : Nat} (h : i < n) : (ucs f n)[i]? = some (.int .u64 (f i)) := by simp [ucs, h]
theorem ucs_set {f : Nat → Int} {n j : Nat} {x : Int} (h : j < n) : (ucs f n).set j (.int .u64 x) = ucs (fun i => if i = j then x else f i) n := by
  apply List.ext_getElem?
  intro i
  rw [List.getElem?_set, ucs_len]
  by_cases h1 : j = i
  · subst h1; rw [if_pos rfl, if_pos h, ucs_get _ h, if_pos rfl]
  · rw [if_neg h1]
    by_cases hi : i < n
    · rw [ucs_get _ hi, ucs_get _ hi, if_neg (by omega)]
    · rw [List.getElem?_eq_none (by rw [ucs_len]; omega), List.getElem?_eq_none (by rw [ucs_len]; omega)]
theorem ucs_congr {f g : Nat → Int} {n : Nat} (h : ∀ i, i < n → f i = g i) : ucs f n = ucs g n := by
  unfold ucs
  apply List.map_congr_left
  intro i hi
  rw [h i (List.mem_range.1 hi)]
def acL (a : Ac) : List Value := .int .i64 a.set :: ucs a.val 9
def acV (a : Ac) : Value := .agg (acL a).toArray
theorem acL_get (a : Ac) {k : Nat} (h : k < 9) : (acL a)[1 + k * 1]? = some (.int .u64 (a.val k)) := by
  rw [show 1 + k * 1 = k + 1 by omega]; exact ucs_get _ h
structure Ac.In (a : Ac) : Prop where
  set : -9223372036854775808 ≤ a.set ∧ a.set ≤ 9223372036854775807
  val : ∀ k, 0 ≤ a.val k ∧ a.val k ≤ 18446744073709551615
/-- The act sets the field. -/
def Ac.sets (a : Ac) (k : Nat) : Prop := a.set / 2 ^ k % 2 = 1
instance (a : Ac) (k : Nat) : Decidable (a.sets k) := by unfold Ac.sets; infer_instance
/-- The act is in its form. -/
def Ac.Ok (a : Ac) : Prop := (0 ≤ a.set ∧ a.set ≤ 511) ∧ ∀ k, k < 9 → a.val k ≤ fullI k ∧ (a.val k ≠ 0 → a.sets k)
instance (a : Ac) : Decidable a.Ok := by unfold Ac.Ok; infer_instance
theorem sets_c (w : World) (a : Ac) (k : Nat) (hk : k < 9) :
    Calls Tryz.prog 338 #[acV a, .int .i64 k] w fun e w' => e = .returned (.bool (decide (a.sets k))) ∧ Frm (fun _ => False) w w' := by
  refine enter Tryz.func338 rfl Tryz.ntmps338 rfl (St.start (fun _ => False) w) ?_
  refine WC.seq <| WC.region <| WL.box rfl rfl rfl (.none rfl) rfl rfl <| ?_
  intro g2 hg2
  refine WL.v (v_assign rfl rfl) rfl <| WL.nt <| WC.seq <| WC.region <| WL.v (v_fieldAddr0 rfl rfl fld_225_0) rfl <| WL.v (v_load1 rfl rfl one_3 (cellAt rfl)) rfl <| WL.v (v_move rfl rfl) rfl <| ?_
  refine WL.v (v_shr (m := k) (c := (2 : Int) ^ k) rfl rfl rfl rfl (by show k ≤ 64; omega) rfl) rfl ?_
  refine WL.v (v_and rfl rfl rfl (mask_i64' (i := 1) (m := 2) (by decide) (by decide) (by decide))) rfl ?_
  refine WL.v (v_eql rfl rfl rfl) rfl <| WL.v (v_assign rfl rfl) rfl <| WL.nt <| WC.ret <| WE.ret1 (P := Tryz.prog) (.inl rfl) Tryz.results338 rfl <| ?_
  exact fun w' h => ⟨rfl, h.frm⟩
/-- What an act's first k make of a header. -/
def appK (a : Ac) (H : Hd) : Nat → Hd | 0 => H | k + 1 => if a.sets k then wthF k (a.val k) (appK a H k) else appK a H k
/-- An act, and another one behind it. -/
def Ac.then (a b : Ac) : Ac := ⟨orN a.set b.set, fun k => if b.sets k then b.val k else a.val k⟩
def thenK (a b : Ac) (k i : Nat) : Int := if i < k ∧ b.sets i then b.val i else a.val i
theorem Then_c (w : World) (a b : Ac) (ha : a.Ok) (hb : b.Ok) :
    Calls Tryz.prog 320 #[acV a, acV b] w fun e w' => e = .returned (acV (a.then b)) ∧ Frm (fun _ => False) w w' := by
  have h1 := ha.1
  have h2 := hb.1
  refine enter Tryz.func320 rfl Tryz.ntmps320 rfl (St.start (fun _ => False) w) ?_
  refine WC.seq <| WC.region <| WL.box rfl rfl rfl (.none rfl) rfl rfl <| ?_
  intro g2 hg2
  refine WL.box rfl rfl rfl (.none rfl) rfl rfl ?_
  intro g3 hg3
  refine WL.alloc rfl zero_225 (.none rfl) rfl rfl ?_
  intro g4 hg4
  refine WL.nt <| WC.seq <| WC.seq <| WC.region <| WL.v (v_move rfl rfl) rfl <| WL.nt <| WC.block <| WC.loop (fun k : Nat => [(6, .int .i64 k), (2, .pointer (some ⟨g2, 0, none⟩)), (3, .pointer (some ⟨g3, 0, none⟩)), (4, .pointer (some ⟨g4, 0, none⟩))]) (fun k => [.row g4 (acL ⟨0, fun _ => 0⟩), .row g3 (acL b), .row g2 (acL ⟨a.set, thenK a b k⟩)]) (fun k => k ≤ 9) (fun k => 9 - k) 0 (Nat.zero_le _) (.cons rfl (.cons rfl (.cons rfl (.cons rfl .nil)))) (.refl _) <| ?_
  intro k hk
  refine WC.seq <| WC.region <| ?_
  refine WL.test (v_lss rfl rfl rfl) (.none rfl) rfl rfl (fun h7 => ?_) (fun h7 => ?_)
  ·
   refine WL.nt <| WC.seq <| WC.cond_t rfl <| WC.skip <| WE.then_n <| WC.seq <| WC.block <| WC.seq <| WC.region <| WL.v (v_move rfl rfl) rfl <| WL.v (v_assign rfl rfl) rfl <| WL.nt <| WC.seq <| WC.region <| ?_
   refine WL.v (v_loadN rfl rfl many_225 rfl allAt) rfl <| WL.v (v_move rfl rfl) rfl <| WL.call rfl rfl ck_338 (.none rfl) rfl rfl <| ?_
   intro w hS
   refine Calls.then (sets_c w b k (by omega)) hS ?_
   refine WL.nt ?_
   refine WC.cond_d rfl (fun h11 => ?_) (fun h11 => ?_)
   ·
    refine WC.region <| WL.v (v_move rfl rfl) rfl <| WL.v (v_move rfl rfl) rfl <| WL.v (v_fieldAddr0 rfl rfl fld_225_1) rfl <| ?_
    refine WL.v (v_indexAddrA (lo := k) rfl rfl rfl Tryz.underlying218 sz_23 (by omega) (by omega)) rfl ?_
    refine WL.v (v_load1 rfl rfl one_23 (cellAt (acL_get b (by omega)))) rfl ?_
    refine WL.v (v_fieldAddr0 rfl rfl fld_225_1) rfl ?_
    refine WL.v (v_indexAddrA (lo := k) rfl rfl rfl Tryz.underlying218 sz_23 (by omega) (by omega)) rfl ?_
    refine WL.store1 rfl rfl rfl rfl one_23 (by show 1 + k * 1 < (acL _).length; unfold acL; rw [List.length_cons, ucs_len]; omega) (.none rfl) rfl ?_
    refine WL.nil <| WE.block_n <| WE.then_n <| WC.region <| ?_
    refine WL.v (v_add rfl rfl rfl (w_i64 (by omega) (by omega))) rfl ?_
    refine WL.v (v_move rfl rfl) rfl <| WL.nil <| ?_
    refine WE.as (L' := [.row g4 (acL ⟨0, fun _ => 0⟩), .row g3 (acL b), .row g2 (acL ⟨a.set, thenK a b (k + 1)⟩)]) ?_ (WE.next (k + 1) (by omega) (by omega) (.int rfl (by omega) (.cons rfl (.cons rfl (.cons rfl .nil)))) (.refl _))
    have e : (acL ⟨a.set, thenK a b k⟩).set (1 + k * 1) (.int .u64 (b.val k)) = acL ⟨a.set, thenK a b (k + 1)⟩ := (by
      rw [show 1 + k * 1 = k + 1 by omega]
      unfold acL
      rw [List.set_cons_succ, ucs_set (by omega)]
      congr 1
      refine ucs_congr fun i hi => ?_
      dsimp only
      unfold thenK
      by_cases e : i = k
      · subst e; rw [if_pos rfl, if_pos ⟨by omega, h11⟩]
      · rw [if_neg e]
        by_cases e2 : i < k ∧ b.sets i
        · rw [if_pos e2, if_pos ⟨by omega, e2.2⟩]
        · rw [if_neg e2, if_neg (fun q => e2 ⟨by omega, q.2⟩)])
    rw [e]
   ·
    refine WC.skip <| WE.block_n <| WE.then_n <| WC.region <| ?_
    refine WL.v (v_add rfl rfl rfl (w_i64 (by omega) (by omega))) rfl ?_
    refine WL.v (v_move rfl rfl) rfl <| WL.nil <| ?_
    refine WE.as (L' := [.row g4 (acL ⟨0, fun _ => 0⟩), .row g3 (acL b), .row g2 (acL ⟨a.set, thenK a b (k + 1)⟩)]) ?_ (WE.next (k + 1) (by omega) (by omega) (.int rfl (by omega) (.cons rfl (.cons rfl (.cons rfl .nil)))) (.refl _))
    have e : acL ⟨a.set, thenK a b k⟩ = acL ⟨a.set, thenK a b (k + 1)⟩ := (by
      unfold acL
      congr 1
      refine ucs_congr fun i hi => ?_
      dsimp only
      unfold thenK
      by_cases e2 : i < k ∧ b.sets i
      · rw [if_pos e2, if_pos ⟨by omega, e2.2⟩]
      · rw [if_neg e2, if_neg (fun q => by
          by_cases e : i = k
          · subst e; exact h11 q.2
          · exact e2 ⟨by omega, q.2⟩)])
    rw [e]
  ·
   refine WL.nt <| WC.seq <| WC.cond_f rfl <| WC.exit <| WE.then_exit <| WE.then_exit <| WE.block_hit <| WE.then_n <| WC.seq <| WC.region <| WL.v (v_fieldAddr0 rfl rfl fld_225_0) rfl <| WL.v (v_load1 rfl rfl one_3 (cellAt rfl)) rfl <| WL.v (v_fieldAddr0 rfl rfl fld_225_0) rfl <| WL.v (v_load1 rfl rfl one_3 (cellAt rfl)) rfl <| ?_
   refine WL.v (v_or rfl rfl rfl (bits_or_i64 (x := a.set) (y := b.set) h1.1 (by omega) h2.1 (by omega))) rfl ?_
   refine WL.v (v_fieldAddr0 rfl rfl fld_225_0) rfl <| WL.store1 rfl rfl rfl rfl one_3 (Nat.le_of_ble_eq_true rfl) (.none rfl) rfl <| ?_
   have e9 : (acL ⟨a.set, thenK a b k⟩).set 0 (.int .i64 (orN a.set b.set)) = acL (a.then b) := (by
     obtain rfl : k = 9 := (by omega)
     show _ :: _ = _ :: _
     congr 1
     refine ucs_congr fun i hi => ?_
     show thenK a b 9 i = (if b.sets i then _ else _)
     unfold thenK
     by_cases e2 : b.sets i
     · rw [if_pos e2, if_pos ⟨hi, e2⟩]
     · rw [if_neg e2, if_neg (fun q => e2 q.2)])
   refine WL.as (L' := [.row g4 (acL ⟨0, fun _ => 0⟩), .row g3 (acL b), .row g2 (acL (a.then b))]) (by rw [← e9]) ?_
   refine WL.nt <| WC.seq <| WC.region <| WL.v (v_loadN rfl rfl many_225 rfl allAt) rfl <| WL.storeW rfl rfl rfl rfl many_225 rfl rfl (.none rfl) rfl <| WL.nt <| WC.ret <| WE.ret1 (P := Tryz.prog) (.inl rfl) Tryz.results320 (resRow rfl many_225 rfl) <| ?_
   exact fun w' h => ⟨rfl, h.frm⟩
end Go.Proofs.YtmhahajadgkolaaGreatDoor
/- rules.Act.Cmp. -/
namespace Go.Proofs.YtmhahajadgkolaaGreatDoor
open Go.RowKit

theorem isNaNI_c (w : World) (x : Int) : Calls Tryz.prog 223 #[.int .i64 x] w fun e w' => e = .returned (.bool false) ∧ Frm (fun _ => False) w w' := by
  refine enter Tryz.func223 rfl Tryz.ntmps223 rfl (St.start (fun _ => False) w) ?_
  refine WC.seq <| WC.region <| WL.v (v_assign rfl rfl) rfl <| WL.nt <| WC.seq <| WC.region <| WL.v (v_move rfl rfl) rfl <| WL.v (v_move rfl rfl) rfl <| WL.v ((v_neq rfl rfl rfl).f (fun h => h rfl)) rfl <| WL.v (v_assign rfl rfl) rfl <| WL.nt <| WC.ret <| WE.ret1 (P := Tryz.prog) (.inl rfl) Tryz.results223 rfl <| ?_
  exact fun w' h => ⟨rfl, h.frm⟩
theorem CmpI_c (w : World) (x y : Int) : Calls Tryz.prog 128 #[.int .i64 x, .int .i64 y] w fun e w' => e = .returned (.int .i64 (cmpI x y)) ∧ Frm (fun _ => False) w w' := by
  refine enter Tryz.func128 rfl Tryz.ntmps128 rfl (St.start (fun _ => False) w) ?_
  refine WC.seq <| WC.region <| WL.v (v_assign rfl rfl) rfl <| WL.nt <| WC.seq <| WC.region <| WL.v (v_move rfl rfl) rfl <| WL.call rfl rfl ck_223 (.none rfl) rfl rfl <| ?_
  intro w hS
  refine Calls.then (isNaNI_c w x) hS ?_
  refine WL.v (v_assign rfl rfl) rfl <| WL.nt <| WC.seq <| WC.region <| WL.v (v_move rfl rfl) rfl <| WL.call rfl rfl ck_223 (.none rfl) rfl rfl <| ?_
  intro w hS
  refine Calls.then (isNaNI_c w y) hS ?_
  refine WL.v (v_assign rfl rfl) rfl <| WL.nt <| WC.seq <| WC.seq <| WC.region <| WL.v (v_move rfl rfl) rfl <| WL.nt <| WC.cond_f rfl <| WC.skip <| WE.then_n <| WC.seq <| WC.seq <| WC.region <| WL.v (v_move rfl rfl) rfl <| ?_
  refine WL.nt <| WC.cond_f rfl <| WC.skip <| WE.then_n <| WC.seq <| WC.seq <| WC.region <| WL.v (v_move rfl rfl) rfl <| WL.v (v_move rfl rfl) rfl <| ?_
  refine WL.test (v_lss rfl rfl rfl) (.none rfl) rfl rfl (fun h16 => ?_) (fun h16 => ?_)
  ·
   refine WL.nt <| WC.cond_t rfl <| WC.seq <| WC.region <| WL.v (v_assign rfl rfl) rfl <| WL.nt <| WC.ret <| WE.then_ret <| WE.ret1 (P := Tryz.prog) (.inl rfl) Tryz.results128 rfl <| ?_
   exact fun w' h => ⟨by unfold cmpI; rw [if_pos h16], h.frm⟩
  ·
   refine WL.nt <| WC.cond_f rfl <| WC.skip <| WE.then_n <| WC.seq <| WC.seq <| WC.region <| WL.v (v_move rfl rfl) rfl <| WL.v (v_move rfl rfl) rfl <| ?_
   refine WL.test (v_gtr rfl rfl rfl) (.none rfl) rfl rfl (fun h19 => ?_) (fun h19 => ?_)
   ·
    refine WL.nt <| WC.cond_t rfl <| WC.seq <| WC.region <| WL.v (v_assign rfl rfl) rfl <| WL.nt <| WC.ret <| WE.then_ret <| WE.ret1 (P := Tryz.prog) (.inl rfl) Tryz.results128 rfl <| ?_
    exact fun w' h => ⟨by unfold cmpI; rw [if_neg h16, if_pos h19], h.frm⟩
   ·
    refine WL.nt <| WC.cond_f rfl <| WC.skip <| WE.then_n <| WC.seq <| WC.region <| WL.v (v_assign rfl rfl) rfl <| WL.nt <| WC.ret <| WE.ret1 (P := Tryz.prog) (.inl rfl) Tryz.results128 rfl <| ?_
    exact fun w' h => ⟨by unfold cmpI; rw [if_neg h16, if_neg h19], h.frm⟩
/-- The first that is not 0, of so many. -/
def lexK (f g : Nat → Int) : Nat → Int | 0 => 0 | k + 1 => if lexK f g k ≠ 0 then lexK f g k else cmpI (f k) (g k)
theorem lexK_stays {f g : Nat → Int} {k : Nat} (h : lexK f g k ≠ 0) : ∀ j, lexK f g (k + j) = lexK f g k
  | 0 => rfl
  | j + 1 => by
    have := lexK_stays h j
    show (if lexK f g (k + j) ≠ 0 then lexK f g (k + j) else _) = _
    rw [this, if_pos h]
theorem SCmp_c (w : World) (b b' o o' : Nat) (f g : Nat → Int) (hf : ∀ i, i < 9 → w.cell? ⟨b, o + i * 1, none⟩ = some (.int .u64 (f i))) (hg : ∀ i, i < 9 → w.cell? ⟨b', o' + i * 1, none⟩ = some (.int .u64 (g i))) :
    Calls Tryz.prog 318 #[.slice (some ⟨b, o, none⟩) 9 9, .slice (some ⟨b', o', none⟩) 9 9] w fun e w' => e = .returned (.int .i64 (lexK f g 9)) ∧ Frm (fun _ => False) w w' := by
  refine enter Tryz.func318 rfl Tryz.ntmps318 rfl (St.start (fun _ => False) w) ?_
  refine WC.seq <| WC.region <| WL.v (v_assign rfl rfl) rfl <| WL.nt <| WC.seq <| WC.seq <| WC.region <| WL.v (v_move rfl rfl) rfl <| WL.v (v_len_slice rfl rfl Tryz.underlying450) rfl <| WL.v (v_move rfl rfl) rfl <| WL.nt <| WC.block <| WC.loop (fun k : Nat => [(11, .int .i64 k), (10, .int .i64 9), (9, .slice (some ⟨b, o, none⟩) 9 9), (1, .slice (some ⟨b', o', none⟩) 9 9), (0, .slice (some ⟨b, o, none⟩) 9 9)]) (fun _ => []) (fun k => k ≤ 9 ∧ lexK f g k = 0) (fun k => 9 - k) 0 ⟨Nat.zero_le _, rfl⟩ (.cons rfl (.cons rfl (.cons rfl (.cons rfl (.cons rfl .nil))))) (.refl _) <| ?_
  rintro k ⟨hk, h0⟩
  refine WC.seq <| WC.region <| ?_
  refine WL.test (v_lss rfl rfl rfl) (.none rfl) rfl rfl (fun h12 => ?_) (fun h12 => ?_)
  ·
   refine WL.nt <| WC.seq <| WC.cond_t rfl <| WC.skip <| WE.then_n <| WC.seq <| WC.block <| WC.seq <| WC.region <| WL.v (v_move rfl rfl) rfl <| ?_
   refine WL.v (v_indexAddr (lo := k) rfl rfl rfl Tryz.underlying450 sz_23 (by omega) (by omega)) rfl ?_
   refine WL.v (v_load1 rfl rfl one_23 (cellOld (fun h => h) (hf k (by omega)))) rfl ?_
   refine WL.v (v_assign rfl rfl) rfl <| WL.v (v_assign rfl rfl) rfl <| WL.nt <| WC.seq <| WC.seq <| WC.region <| WL.v (v_move rfl rfl) rfl <| WL.v (v_move rfl rfl) rfl <| WL.v (v_len_slice rfl rfl Tryz.underlying450) rfl <| ?_
   refine WL.v ((v_geq rfl rfl rfl).f (by omega)) rfl ?_
   refine WL.nt <| WC.cond_f rfl <| WC.skip <| WE.then_n <| WC.seq <| WC.region <| WL.v (v_move rfl rfl) rfl <| WL.v (v_move rfl rfl) rfl <| ?_
   refine WL.v (v_indexAddr (lo := k) rfl rfl rfl Tryz.underlying450 sz_23 (by omega) (by omega)) rfl ?_
   refine WL.v (v_load1 rfl rfl one_23 (cellOld (fun h => h) (hg k (by omega)))) rfl ?_
   refine WL.v (v_assign rfl rfl) rfl <| WL.nt <| WC.seq <| WC.region <| WL.v (v_move rfl rfl) rfl <| WL.v (v_move rfl rfl) rfl <| WL.call rfl rfl ck_233 (.none rfl) rfl rfl <| ?_
   intro w hS
   refine Calls.then (CmpU_c w (f k) (g k)) hS ?_
   refine WL.v (v_assign rfl rfl) rfl <| WL.nt <| WC.seq <| WC.region <| WL.v (v_move rfl rfl) rfl <| ?_
   refine WL.test (v_neq rfl rfl rfl) (.none rfl) rfl rfl (fun h28 => ?_) (fun h28 => ?_)
   ·
    refine WL.nt <| WC.cond_t rfl <| WC.seq <| WC.region <| WL.v (v_move rfl rfl) rfl <| WL.v (v_assign rfl rfl) rfl <| WL.nt <| WC.ret <| WE.block_ret <| WE.then_ret <| WE.then_ret <| WE.block_ret <| WE.then_ret <| WE.ret1 (P := Tryz.prog) (.inl rfl) Tryz.results318 rfl <| ?_
    have e1 : lexK f g (k + 1) = cmpI (f k) (g k) := (by show (if _ then _ else _) = _; rw [if_neg (by omega)])
    have e2 := lexK_stays (f := f) (g := g) (k := k + 1) (by rw [e1]; exact h28) (8 - k)
    rw [show k + 1 + (8 - k) = 9 by omega] at e2
    exact fun w' h => ⟨by rw [e2, e1], h.frm⟩
   ·
    refine WL.nt <| WC.cond_f rfl <| WC.skip <| WE.block_n <| WE.then_n <| WC.region <| ?_
    refine WL.v (v_add rfl rfl rfl (w_i64 (by omega) (by omega))) rfl ?_
    refine WL.v (v_move rfl rfl) rfl <| WL.nil <| ?_
    exact WE.next (k + 1) (by omega) ⟨by omega, by show (if _ then _ else _) = _; rw [if_neg (by omega)]; exact Classical.not_not.1 h28⟩ (.int rfl (by omega) (.cons rfl (.cons rfl (.cons rfl (.cons rfl .nil))))) (.refl _)
  ·
   refine WL.nt <| WC.seq <| WC.cond_f rfl <| WC.exit <| WE.then_exit <| WE.then_exit <| WE.block_hit <| WE.then_n <| WC.seq <| WC.seq <| WC.region <| WL.v (v_move rfl rfl) rfl <| WL.v (v_len_slice rfl rfl Tryz.underlying450) rfl <| WL.v (v_move rfl rfl) rfl <| ?_
   refine WL.v (v_len_slice rfl rfl Tryz.underlying450) rfl ?_
   refine WL.v ((v_lss rfl rfl rfl).f (by omega)) rfl ?_
   refine WL.nt <| WC.cond_f rfl <| WC.skip <| WE.then_n <| WC.seq <| WC.region <| WL.v (v_assign rfl rfl) rfl <| WL.nt <| WC.ret <| WE.ret1 (P := Tryz.prog) (.inl rfl) Tryz.results318 rfl <| ?_
   obtain rfl : k = 9 := (by omega)
   exact fun w' h => ⟨by rw [h0], h.frm⟩
theorem Or_c (w : World) (b : Nat) (x y : Int) (hx : w.cell? ⟨b, 0, none⟩ = some (.int .i64 x)) (hy : w.cell? ⟨b, 1, none⟩ = some (.int .i64 y)) :
    Calls Tryz.prog 126 #[.slice (some ⟨b, 0, none⟩) 2 2] w fun e w' => e = .returned (.int .i64 (if x ≠ 0 then x else y)) ∧ Frm (fun _ => False) w w' := by
  refine enter Tryz.func126 rfl Tryz.ntmps126 rfl (St.start (fun _ => False) w) ?_
  refine WC.seq <| WC.region <| WL.v (v_assign rfl rfl) rfl <| WL.nt <| WC.seq <| WC.region <| WL.v (v_assign rfl rfl) rfl <| WL.nt <| WC.seq <| WC.seq <| WC.region <| WL.v (v_move rfl rfl) rfl <| WL.v (v_len_slice rfl rfl Tryz.underlying34) rfl <| WL.v (v_move rfl rfl) rfl <| ?_
  refine WL.nt <| WC.block <| ?_
  refine WC.loop (fun k : Nat => [(8, .int .i64 k), (7, .int .i64 2), (6, .slice (some ⟨b, 0, none⟩) 2 2), (3, .int .i64 0)]) (fun _ => []) (fun k => k ≤ 2 ∧ (1 ≤ k → x = 0) ∧ (2 ≤ k → y = 0)) (fun k => 2 - k) 0 ⟨Nat.zero_le _, by omega, by omega⟩ (.cons rfl (.cons rfl (.cons rfl (.cons rfl .nil)))) (.refl _) ?_
  rintro k ⟨hk, h1, h2⟩
  have hz : ∀ j, j < 2 → w.cell? ⟨b, 0 + j * 1, none⟩ = some (.int .i64 (if j = 0 then x else y)) := (by
    intro j hj
    match j, hj with
    | 0, _ => exact hx
    | 1, _ => exact hy)
  refine WC.seq <| WC.region <| ?_
  refine WL.test (v_lss rfl rfl rfl) (.none rfl) rfl rfl (fun h9 => ?_) (fun h9 => ?_)
  ·
   refine WL.nt <| WC.seq <| WC.cond_t rfl <| WC.skip <| WE.then_n <| WC.seq <| WC.block <| WC.seq <| WC.region <| ?_
   refine WL.v (v_indexAddr (lo := k) rfl rfl rfl Tryz.underlying34 sz_3 (by omega) (by omega)) rfl ?_
   refine WL.v (v_load1 rfl rfl one_3 (cellOld (fun h => h) (hz k (by omega)))) rfl ?_
   refine WL.v (v_assign rfl rfl) rfl <| WL.nt <| WC.seq <| WC.region <| WL.v (v_move rfl rfl) rfl <| WL.v (v_move rfl rfl) rfl <| ?_
   refine WL.test (v_neq rfl rfl rfl) (.none rfl) rfl rfl (fun h14 => ?_) (fun h14 => ?_)
   ·
    refine WL.nt <| WC.cond_t rfl <| WC.seq <| WC.region <| WL.v (v_move rfl rfl) rfl <| WL.v (v_assign rfl rfl) rfl <| WL.nt <| WC.ret <| WE.block_ret <| WE.then_ret <| WE.then_ret <| WE.block_ret <| WE.then_ret <| WE.ret1 (P := Tryz.prog) (.inl rfl) Tryz.results126 rfl <| ?_
    have e2 : (if x ≠ 0 then x else y) = (if k = 0 then x else y) := (by
      by_cases e : k = 0
      · rw [if_pos e] at h14 ⊢; rw [if_pos h14]
      · rw [if_neg e, if_neg (fun q => q (h1 (by omega)))])
    exact fun w' h => ⟨by rw [e2], h.frm⟩
   ·
    refine WL.nt <| WC.cond_f rfl <| WC.skip <| WE.block_n <| WE.then_n <| WC.region <| ?_
    refine WL.v (v_add rfl rfl rfl (w_i64 (by omega) (by omega))) rfl ?_
    refine WL.v (v_move rfl rfl) rfl <| WL.nil <| ?_
    exact WE.next (k + 1) (by omega) ⟨by omega, fun _ => by by_cases e : k = 0; (rw [if_pos e] at h14; exact Classical.not_not.1 h14); exact h1 (by omega), fun _ => by rw [if_neg (by omega)] at h14; exact Classical.not_not.1 h14⟩ (.int rfl (by omega) (.cons rfl (.cons rfl (.cons rfl .nil)))) (.refl _)
  ·
   refine WL.nt <| WC.seq <| WC.cond_f rfl <| WC.exit <| WE.then_exit <| WE.then_exit <| WE.block_hit <| WE.then_n <| WC.seq <| WC.region <| WL.v (v_move rfl rfl) rfl <| WL.v (v_assign rfl rfl) rfl <| WL.nt <| WC.ret <| ?_
   refine WE.ret1 (P := Tryz.prog) (.inl rfl) Tryz.results126 rfl ?_
   exact fun w' h => ⟨by rw [h1 (by omega), h2 (by omega)]; rfl, h.frm⟩
def acmp (a b : Ac) : Int := if cmpI a.set b.set ≠ 0 then cmpI a.set b.set else lexK a.val b.val 9
theorem ACmp_c (w : World) (a b : Ac) :
    Calls Tryz.prog 249 #[acV a, acV b] w fun e w' => e = .returned (.int .i64 (acmp a b)) ∧ Frm (fun _ => False) w w' := by
  refine enter Tryz.func249 rfl Tryz.ntmps249 rfl (St.start (fun _ => False) w) ?_
  refine WC.seq <| WC.region <| WL.box rfl rfl rfl (.none rfl) rfl rfl <| ?_
  intro g2 hg2
  refine WL.box rfl rfl rfl (.none rfl) rfl rfl ?_
  intro g3 hg3
  refine WL.v (v_assign rfl rfl) rfl <| WL.nt <| WC.seq <| WC.orders mixed <| ?_
  refine WR.first (g := 7) [0, 2, 5, 6, 7, 8] (by kernel_rfl) (by kernel_rfl) ?_
  refine WP.val (v_fieldAddr0 rfl rfl fld_225_0) (.none rfl) rfl rfl <| WP.val (v_fieldAddr0 rfl rfl fld_225_0) (.none rfl) rfl rfl <| WP.val (v_fieldAddr0 rfl rfl fld_225_1) (.none rfl) rfl rfl <| WP.val (v_slice_arr rfl rfl Tryz.underlying218 sz_23) (.none rfl) rfl rfl <| WP.val (v_fieldAddr0 rfl rfl fld_225_1) (.none rfl) rfl rfl <| WP.val (v_slice_arr rfl rfl Tryz.underlying218 sz_23) (.none rfl) rfl rfl <| WP.nil <| ?_
  refine WR.read (g := 3) [1, 3, 4, 9] (by kernel_rfl) (by kernel_rfl) (by kernel_rfl) (by kernel_rfl) rfl ?_
  refine WQ.val (v_load1 rfl rfl one_3 (cellAt rfl)) (.none rfl) rfl rfl <| WQ.val (v_load1 rfl rfl one_3 (cellAt rfl)) (.none rfl) rfl rfl <| WQ.call _ rfl rfl ck_128 (.none rfl) rfl rfl (fun w hS => Calls.still (CmpI_c w a.set b.set) hS) <| WQ.call _ rfl rfl ck_318 (.none rfl) rfl rfl (fun w hS => Calls.still (SCmp_c w _ _ _ _ a.val b.val (fun i hi => hS.cell (acL_get a hi)) (fun i hi => hS.cell (acL_get b hi))) hS) <| WQ.nilR <| ?_
  refine WR.ones (g := 2) [10] (by kernel_rfl) ?_
  refine WL.buildSlice rfl rfl Tryz.underlying34 sz_3 zero_3 rfl (by decide) rfl (.none rfl) rfl rfl ?_
  intro g15 hg15
  refine WL.nilR ?_
  refine WR.read (g := 0) [11, 12] (by kernel_rfl) (by kernel_rfl) (by kernel_rfl) (by kernel_rfl) rfl ?_
  refine WQ.call _ rfl rfl ck_126 (.none rfl) rfl rfl (fun w hS => Calls.still (Or_c w _ _ _ (hS.cell rfl) (hS.cell rfl)) hS) <| WQ.val (v_assign rfl rfl) (.none rfl) rfl rfl <| WQ.nilR <| ?_
  refine WR.done (by kernel_rfl) ?_
  refine WE.then_n <| WC.ret <| WE.ret1 (P := Tryz.prog) (.inl rfl) Tryz.results249 rfl <| ?_
  exact fun w' h => ⟨rfl, h.frm⟩
end Go.Proofs.YtmhahajadgkolaaGreatDoor
/- match: a match as two lists of numbers; right, On, Exact, Hits. rules.On; carrefourlaw17.right. -/
namespace Go.Proofs.YtmhahajadgkolaaGreatDoor
open Go.RowKit

theorem xorN_le {x y : Int} (hx' : x ≤ 18446744073709551615) (hy' : y ≤ 18446744073709551615) : 0 ≤ xorN x y ∧ xorN x y ≤ 18446744073709551615 := by
  unfold xorN
  have h := Nat.xor_lt_two_pow (x := x.toNat) (y := y.toNat) (n := 64) (by omega) (by omega)
  omega
structure Mt where
  val : Nat → Int
  mask : Nat → Int
def mtL (m : Mt) : List Value := ucs m.val 9 ++ ucs m.mask 9
def mtV (m : Mt) : Value := .agg (mtL m).toArray
structure Mt.In (m : Mt) : Prop where
  val : ∀ k, 0 ≤ m.val k ∧ m.val k ≤ 18446744073709551615
  mask : ∀ k, 0 ≤ m.mask k ∧ m.mask k ≤ 18446744073709551615
theorem mtL_val (m : Mt) {k : Nat} (h : k < 9) : (mtL m)[0 + k * 1]? = some (.int .u64 (m.val k)) := by
  unfold mtL
  rw [show 0 + k * 1 = k by omega, List.getElem?_append_left (by rw [ucs_len]; exact h), ucs_get _ h]
theorem mtL_mask (m : Mt) {k : Nat} (h : k < 9) : (mtL m)[9 + k * 1]? = some (.int .u64 (m.mask k)) := by
  unfold mtL
  rw [show 9 + k * 1 = 9 + k by omega, List.getElem?_append_right (by rw [ucs_len]; omega), ucs_len, show 9 + k - 9 = k by omega, ucs_get _ h]
theorem mtL_setVal {m : Mt} {k : Nat} {x : Int} (h : k < 9) : (mtL m).set (0 + k * 1) (.int .u64 x) = mtL ⟨fun i => if i = k then x else m.val i, m.mask⟩ := by
  unfold mtL
  rw [show 0 + k * 1 = k by omega, List.set_append_left _ _ (by rw [ucs_len]; exact h), ucs_set h]
theorem mtL_setMask {m : Mt} {k : Nat} {x : Int} (h : k < 9) : (mtL m).set (9 + k * 1) (.int .u64 x) = mtL ⟨m.val, fun i => if i = k then x else m.mask i⟩ := by
  unfold mtL
  rw [show 9 + k * 1 = 9 + k by omega, List.set_append_right _ _ (by rw [ucs_len]; omega), ucs_len, show 9 + k - 9 = k by omega, ucs_set h]
theorem mtL_len (m : Mt) : (mtL m).length = 18 := by simp [mtL, ucs_len]
def mtOk (k : Nat) (val mask : Int) : Prop := andNotN mask (fullI k) = 0 ∧ andNotN val mask = 0
instance (k : Nat) (v m : Int) : Decidable (mtOk k v m) := by unfold mtOk; infer_instance
theorem fullI_u64 (k : Nat) : 0 ≤ fullI k ∧ fullI k ≤ 18446744073709551615 := by have := pow_wd k; unfold fullI; omega
theorem MRight_c (w : World) (k : Nat) (hk : k < 9) (val mask : Int) (hv : 0 ≤ val ∧ val ≤ 18446744073709551615) (hm : 0 ≤ mask ∧ mask ≤ 18446744073709551615) (hG : GW w) :
    Calls Tryz.prog 252 #[.int .i64 k, .int .u64 val, .int .u64 mask] w fun e w' => e = .returned (.bool (decide (mtOk k val mask))) ∧ Frm (fun _ => False) w w' := by
  have hf := fullI_u64 k
  refine enter Tryz.func252 rfl Tryz.ntmps252 rfl (St.start (fun _ => False) w) ?_
  refine WC.seq <| WC.region <| WL.v (v_assign rfl rfl) rfl <| WL.nt <| WC.seq <| WC.region <| WL.v (v_move rfl rfl) rfl <| WL.v (v_move rfl rfl) rfl <| WL.call rfl rfl ck_171 (.none rfl) rfl rfl <| ?_
  intro w hS
  refine Calls.then (Full_n w k hk (hG.keep (fun h => h) hS)) hS ?_
  refine WL.v (v_andNot rfl rfl rfl (bits_andNot_u64 hm.1 hm.2 hf.1 hf.2)) rfl ?_
  refine WL.test (v_eql rfl rfl rfl) (.none rfl) rfl rfl (fun h11 => ?_) (fun h11 => ?_)
  ·
   refine WL.v (v_move rfl rfl) rfl <| WL.val (v_move rfl rfl) (.some rfl rfl rfl) rfl rfl <| WL.val (v_move rfl rfl) (.some rfl rfl rfl) rfl rfl <| WL.val (v_andNot rfl rfl rfl (bits_andNot_u64 hv.1 hv.2 hm.1 hm.2)) (.some rfl rfl rfl) rfl rfl <| ?_
   refine WL.test (v_eql rfl rfl rfl) (.some rfl rfl rfl) rfl rfl (fun h16 => ?_) (fun h16 => ?_)
   ·
    refine WL.v (v_pick_t rfl rfl rfl) rfl <| WL.v (v_assign rfl rfl) rfl <| WL.nt <| WC.ret <| WE.ret1 (P := Tryz.prog) (.inl rfl) Tryz.results252 rfl <| ?_
    exact fun w' h => ⟨by rw [decide_eq_true ⟨h11, h16⟩], h.frm⟩
   ·
    refine WL.v (v_pick_t rfl rfl rfl) rfl <| WL.v (v_assign rfl rfl) rfl <| WL.nt <| WC.ret <| WE.ret1 (P := Tryz.prog) (.inl rfl) Tryz.results252 rfl <| ?_
    exact fun w' h => ⟨by rw [decide_eq_false (fun q => h16 q.2)], h.frm⟩
  ·
   refine WL.v (v_move rfl rfl) rfl ?_
   iterate 4 refine WL.sk rfl ?_
   refine WL.v (v_pick_f rfl rfl rfl) rfl <| WL.v (v_assign rfl rfl) rfl <| WL.nt <| WC.ret <| WE.ret1 (P := Tryz.prog) (.inl rfl) Tryz.results252 rfl <| ?_
   exact fun w' h => ⟨by rw [decide_eq_false (fun q => h11 q.1)], h.frm⟩
theorem MField_c (w : World) (k : Nat) (hk : k < 9) :
    Calls Tryz.prog 251 #[.int .i64 k] w fun e w' => e = .returned (.bool true) ∧ Frm (fun _ => False) w w' := by
  refine enter Tryz.func251 rfl Tryz.ntmps251 rfl (St.start (fun _ => False) w) ?_
  refine WC.seq <| WC.region <| WL.v (v_assign rfl rfl) rfl <| WL.nt <| WC.seq <| WC.region <| WL.v (v_move rfl rfl) rfl <| ?_
  refine WL.v ((v_geq rfl rfl rfl).t (by omega)) rfl ?_
  refine WL.v (v_move rfl rfl) rfl <| WL.val (v_move rfl rfl) (.some rfl rfl rfl) rfl rfl <| ?_
  refine WL.val ((v_lss rfl rfl rfl).t (by omega)) (.some rfl rfl rfl) rfl rfl ?_
  refine WL.v (v_pick_t rfl rfl rfl) rfl <| WL.v (v_assign rfl rfl) rfl <| WL.nt <| WC.ret <| WE.ret1 (P := Tryz.prog) (.inl rfl) Tryz.results251 rfl <| ?_
  exact fun w' h => ⟨rfl, h.frm⟩
def Mt.one (k : Nat) (val mask : Int) : Mt := ⟨fun i => if i = k then val else 0, fun i => if i = k then mask else 0⟩
theorem MOn_c (w : World) (k : Nat) (hk : k < 9) (val mask : Int) (hv : 0 ≤ val ∧ val ≤ 18446744073709551615) (hm : 0 ≤ mask ∧ mask ≤ 18446744073709551615) (hok : mtOk k val mask) (hG : GW w) :
    Calls Tryz.prog 168 #[.int .i64 k, .int .u64 val, .int .u64 mask] w fun e w' => e = .returned (.tuple #[mtV (Mt.one k val mask), .int .i64 0]) ∧ Frm (fun _ => False) w w' := by
  refine enter Tryz.func168 rfl Tryz.ntmps168 rfl (St.start (fun _ => False) w) ?_
  refine WC.seq <| WC.region <| WL.alloc rfl zero_220 (.none rfl) rfl rfl <| ?_
  intro g6 hg6
  refine WL.v (v_assign rfl rfl) rfl <| WL.nt <| WC.seq <| WC.seq <| WC.region <| WL.v (v_move rfl rfl) rfl <| WL.call rfl rfl ck_251 (.none rfl) rfl rfl <| ?_
  intro w hS
  refine Calls.then (MField_c w k hk) hS ?_
  refine WL.v (v_not rfl rfl rfl) rfl <| WL.v (v_move rfl rfl) rfl <| WL.val (v_move rfl rfl) (.some rfl rfl rfl) rfl rfl <| WL.val (v_move rfl rfl) (.some rfl rfl rfl) rfl rfl <| WL.val (v_move rfl rfl) (.some rfl rfl rfl) rfl rfl <| WL.call rfl rfl ck_252 (.some rfl rfl rfl) rfl rfl <| ?_
  intro w hS
  refine Calls.then ((MRight_c w k hk val mask hv hm (hG.keep (fun h => h) hS)).mono fun _ _ h => ⟨by rw [h.1, decide_eq_true hok], h.2⟩) hS ?_
  refine WL.val (v_not rfl rfl rfl) (.some rfl rfl rfl) rfl rfl <| WL.v (v_pick_f rfl rfl rfl) rfl <| WL.nt <| WC.cond_f rfl <| WC.skip <| WE.then_n <| WC.seq <| WC.region <| WL.alloc rfl zero_220 (.none rfl) rfl rfl <| ?_
  intro g8 hg8
  refine WL.nt <| WC.seq <| WC.region <| WL.v (v_move rfl rfl) rfl <| WL.v (v_move rfl rfl) rfl <| WL.v (v_fieldAddr0 rfl rfl fld_220_0) rfl <| ?_
  refine WL.v (v_indexAddrA (lo := k) rfl rfl rfl Tryz.underlying218 sz_23 (by omega) (by omega)) rfl ?_
  refine WL.store1 rfl rfl rfl rfl one_23 (by show 0 + k * 1 < 18; omega) (.none rfl) rfl ?_
  refine WL.as (L' := [.row g8 (mtL ⟨fun i => if i = k then val else 0, fun _ => 0⟩), .row g6 (mtL ⟨fun _ => 0, fun _ => 0⟩)]) (by
  have e := mtL_setVal (m := ⟨fun _ => 0, fun _ => 0⟩) (x := val) hk
  exact congrArg (fun z => [Ent.row g8 z, Ent.row g6 (mtL ⟨fun _ => 0, fun _ => 0⟩)]) e) ?_
  refine WL.nt <| WC.seq <| WC.region <| WL.v (v_move rfl rfl) rfl <| WL.v (v_move rfl rfl) rfl <| WL.v (v_fieldAddr0 rfl rfl fld_220_1) rfl <| ?_
  refine WL.v (v_indexAddrA (lo := k) rfl rfl rfl Tryz.underlying218 sz_23 (by omega) (by omega)) rfl ?_
  refine WL.store1 rfl rfl rfl rfl one_23 (by rw [mtL_len]; omega) (.none rfl) rfl ?_
  refine WL.as (L' := [.row g8 (mtL (Mt.one k val mask)), .row g6 (mtL ⟨fun _ => 0, fun _ => 0⟩)]) (by rw [mtL_setMask hk]; rfl) ?_
  refine WL.nt <| WC.seq <| WC.region <| WL.v (v_loadN rfl rfl many_220 rfl allAt) rfl <| WL.storeW rfl rfl rfl rfl many_220 rfl rfl (.none rfl) rfl <| WL.v (v_assign rfl rfl) rfl <| WL.nt <| WC.ret <| WE.ret2 (P := Tryz.prog) (.inl rfl) Tryz.results168 (resRow rfl many_220 rfl) rfl <| ?_
  exact fun w' h => ⟨rfl, h.frm⟩
def Mt.hits (m : Mt) (H : Hd) : Prop := ∀ k, k < 9 → andN (xorN (getF H k) (m.val k)) (m.mask k) = 0
instance (m : Mt) (H : Hd) : Decidable (m.hits H) := by unfold Mt.hits; infer_instance
def Ac.one (k : Nat) (val : Int) : Ac := ⟨(2 : Int) ^ k, fun i => if i = k then val else 0⟩
theorem AOn_c (w : World) (k : Nat) (hk : k < 9) (val : Int) (_h0 : 0 ≤ val) (h1 : val ≤ fullI k) (hG : GW w) :
    Calls Tryz.prog 97 #[.int .i64 k, .int .u64 val] w fun e w' => e = .returned (.tuple #[acV (Ac.one k val), .int .i64 0]) ∧ Frm (fun _ => False) w w' := by
  have hp : (1 : Int) ≤ 2 ^ k ∧ (2 : Int) ^ k ≤ 256 := by
    match k, hk with
    | 0, _ | 1, _ | 2, _ | 3, _ | 4, _ | 5, _ | 6, _ | 7, _ | 8, _ => decide
  refine enter Tryz.func97 rfl Tryz.ntmps97 rfl (St.start (fun _ => False) w) ?_
  refine WC.seq <| WC.region <| WL.alloc rfl zero_225 (.none rfl) rfl rfl <| ?_
  intro g4 hg4
  refine WL.v (v_assign rfl rfl) rfl <| WL.nt <| WC.seq <| WC.seq <| WC.region <| WL.v (v_move rfl rfl) rfl <| ?_
  refine WL.v ((v_lss rfl rfl rfl).f (by omega)) rfl ?_
  refine WL.v (v_move rfl rfl) rfl <| WL.val (v_move rfl rfl) (.some rfl rfl rfl) rfl rfl <| ?_
  refine WL.val ((v_geq rfl rfl rfl).f (by omega)) (.some rfl rfl rfl) rfl rfl ?_
  refine WL.v (v_pick_f rfl rfl rfl) rfl <| WL.v (v_move rfl rfl) rfl <| WL.val (v_move rfl rfl) (.some rfl rfl rfl) rfl rfl <| WL.val (v_move rfl rfl) (.some rfl rfl rfl) rfl rfl <| WL.call rfl rfl ck_171 (.some rfl rfl rfl) rfl rfl <| ?_
  intro w hS
  refine Calls.then (Full_n w k hk (hG.keep (fun h => h) hS)) hS ?_
  refine WL.val ((v_gtr rfl rfl rfl).f (by omega)) (.some rfl rfl rfl) rfl rfl ?_
  refine WL.v (v_pick_f rfl rfl rfl) rfl <| WL.nt <| WC.cond_f rfl <| WC.skip <| WE.then_n <| WC.seq <| WC.region <| WL.v (v_move rfl rfl) rfl <| ?_
  refine WL.v (v_shl (m := k) (c := (2 : Int) ^ k) rfl rfl rfl rfl (by show k ≤ 64; omega) rfl ((congrArg _ (Int.one_mul _)).trans (w_i64 (by omega) (by omega)))) rfl ?_
  refine WL.v (v_build rfl rfl zero_225 plc_225 rfl) rfl <| WL.alloc rfl zero_225 (.none rfl) rfl rfl <| ?_
  intro g6 hg6
  refine WL.storeW rfl rfl rfl rfl many_225 rfl rfl (.none rfl) rfl <| WL.as (L' := [.row g6 (acL ⟨(2 : Int) ^ k, fun _ => 0⟩), .row g4 (acL ⟨0, fun _ => 0⟩)]) rfl <| WL.nt <| WC.seq <| WC.region <| WL.v (v_move rfl rfl) rfl <| WL.v (v_move rfl rfl) rfl <| WL.v (v_fieldAddr0 rfl rfl fld_225_1) rfl <| ?_
  refine WL.v (v_indexAddrA (lo := k) rfl rfl rfl Tryz.underlying218 sz_23 (by omega) (by omega)) rfl ?_
  refine WL.store1 rfl rfl rfl rfl one_23 (by show 1 + k * 1 < (acL _).length; unfold acL; rw [List.length_cons, ucs_len]; omega) (.none rfl) rfl ?_
  refine WL.as (L' := [.row g6 (acL (Ac.one k val)), .row g4 (acL ⟨0, fun _ => 0⟩)]) (by
  rw [show 1 + k * 1 = k + 1 by omega]
  unfold acL
  rw [List.set_cons_succ, ucs_set hk]
  rfl) ?_
  refine WL.nt <| WC.seq <| WC.region <| WL.v (v_loadN rfl rfl many_225 rfl allAt) rfl <| WL.storeW rfl rfl rfl rfl many_225 rfl rfl (.none rfl) rfl <| WL.v (v_assign rfl rfl) rfl <| WL.nt <| WC.ret <| WE.ret2 (P := Tryz.prog) (.inl rfl) Tryz.results97 (resRow rfl many_225 rfl) rfl <| ?_
  exact fun w' h => ⟨rfl, h.frm⟩
end Go.Proofs.YtmhahajadgkolaaGreatDoor
/- rules.List: Find; Run where one act at most is to be done; the document's example of layer 17. -/
namespace Go.Proofs.YtmhahajadgkolaaGreatDoor
open Go.RowKit

theorem rangeIn {p : Nat → Prop} {w0 : World} {L : List Ent} {b off : Nat} {cs : List Value} (hp : ¬ p b) (h : w0.rangeAt b off cs) : ∀ w, St p w0 w L → w.rangeAt b off cs := fun _ hS j v hj => hS.old hp (h j v hj)
structure Ru where
  m : Mt
  ad : Option Addr
  n : Nat
  c : Nat
def ruL (r : Ru) : List Value := mtL r.m ++ [.slice r.ad r.n r.c]
theorem ruL_acts (r : Ru) : (ruL r)[18]? = some (.slice r.ad r.n r.c) := by
  unfold ruL
  rw [List.getElem?_append_right (by rw [mtL_len]; omega), mtL_len]; rfl
theorem ruL_match (r : Ru) : seg (ruL r) 0 18 = mtL r.m := by
  unfold seg ruL
  rw [List.drop_zero, List.take_left' (mtL_len _)]
theorem ruL_len (r : Ru) : (ruL r).length = 19 := by simp [ruL, mtL_len]
/-! ### A sort of one at most, and what stands beside it -/
end Go.Proofs.YtmhahajadgkolaaGreatDoor
/- rules.List: Run where one act at most is to be done; the document's example of layer 17. -/
namespace Go.Proofs.YtmhahajadgkolaaGreatDoor
open Go.RowKit

def hdsL (Hs : List Hd) : List Value := Hs.flatMap hdL
def outs (a : Nat → Ac) (H : Hd) (k : Nat) : List Hd := (List.range k).map fun i => appK (a i) H 9
def mt0 : Mt := ⟨fun _ => 0, fun _ => 0⟩
theorem Hd.zero_in : Hd.zero.In := by constructor <;> (try intro k) <;> first | decide | exact ⟨Int.le_refl _, (by decide : (0 : Int) ≤ 255)⟩
end Go.Proofs.YtmhahajadgkolaaGreatDoor
/- Comparisons in three ways; lists in strict order are told by what is in them. -/
namespace Go.Proofs.YtmhahajadgkolaaGreatDoor
open Go.RowKit

/-- A comparison: below 0, 0, above 0. -/
structure Cm {α : Type} (c : α → α → Int) : Prop where
  refl : ∀ a, c a a = 0
  sgn : ∀ a b, 0 < c a b ↔ c b a < 0
  tr : ∀ a b d, c a b ≤ 0 → c b d ≤ 0 → c a d ≤ 0
section
variable {α β : Type} {c d : α → α → Int}
theorem Cm.zero (h : Cm c) {a b : α} (e : c a b = 0) : c b a = 0 := by have := h.sgn a b; have := h.sgn b a; omega
theorem Cm.lt_le (h : Cm c) {a b e : α} (h1 : c a b < 0) (h2 : c b e ≤ 0) : c a e < 0 := by
  have := h.tr a b e (by omega) h2
  have := h.sgn b a; have := h.sgn e a; have := h.sgn a e
  have : c e a ≤ 0 → c b a ≤ 0 := h.tr b e a h2
  omega
theorem Cm.le_lt (h : Cm c) {a b e : α} (h1 : c a b ≤ 0) (h2 : c b e < 0) : c a e < 0 := by
  have := h.tr a b e h1 (by omega)
  have := h.sgn e b; have := h.sgn e a; have := h.sgn a e
  have : c e a ≤ 0 → c e b ≤ 0 := fun k => h.tr e a b k h1
  omega
theorem Cm.lex (hc : Cm c) (hd : Cm d) : Cm (fun a b => if c a b ≠ 0 then c a b else d a b) := by
  refine ⟨fun a => by rw [if_neg (by rw [hc.refl]; omega), hd.refl], fun a b => ?_, fun a b e h1 h2 => ?_⟩
  · have k1 := hc.sgn a b; have k2 := hc.sgn b a; have k3 := hd.sgn a b
    by_cases h : c a b = 0
    · rw [if_neg (by omega), if_neg (by omega)]; exact k3
    · rw [if_pos h, if_pos (by omega)]; exact k1
  · have l1 : c a b ≤ 0 := by split at h1 <;> omega
    have l2 : c b e ≤ 0 := by split at h2 <;> omega
    by_cases z1 : c a b = 0
    · by_cases z2 : c b e = 0
      · rw [if_neg (by omega)] at h1 h2
        have e1 := hc.tr a b e l1 l2
        have e2 := hc.tr e b a (by have := hc.zero z2; omega) (by have := hc.zero z1; omega)
        have e3 := hc.sgn a e; have e4 := hc.sgn e a
        rw [if_neg (by omega)]
        exact hd.tr a b e h1 h2
      · have := hc.le_lt l1 (show c b e < 0 by omega)
        rw [if_pos (by omega)]; omega
    · have := hc.lt_le (show c a b < 0 by omega) l2
      rw [if_pos (by omega)]; omega
theorem Cm.on (f : β → α) (h : Cm c) : Cm (fun a b => c (f a) (f b)) := ⟨fun _ => h.refl _, fun _ _ => h.sgn _ _, fun _ _ _ => h.tr _ _ _⟩
theorem Cm.triv : Cm (fun (_ _ : α) => 0) := ⟨fun _ => rfl, fun _ _ => by omega, fun _ _ _ _ _ => by omega⟩
/-- Two lists in strict order with the same in them are one. -/
theorem strict_only (h : Cm c) : ∀ (l m : List α), l.Pairwise (fun a b => c a b < 0) → m.Pairwise (fun a b => c a b < 0) → (∀ x, x ∈ l ↔ x ∈ m) → l = m
  | [], [], _, _, _ => rfl
  | [], y :: m, _, _, hm => absurd ((hm y).2 (List.mem_cons_self ..)) (by simp)
  | x :: l, [], _, _, hm => absurd ((hm x).1 (List.mem_cons_self ..)) (by simp)
  | x :: l, y :: m, h1, h2, hm => by
    rw [List.pairwise_cons] at h1 h2
    have irr : ∀ z, ¬ c z z < 0 := fun z => by have := h.refl z; omega
    have e : x = y := by
      rcases List.mem_cons.1 ((hm x).1 (List.mem_cons_self ..)) with e | hx
      · exact e
      · rcases List.mem_cons.1 ((hm y).2 (List.mem_cons_self ..)) with e | hy
        · exact e.symm
        · have a1 := h2.1 x hx; have a2 := h1.1 y hy; have := h.sgn x y; omega
    subst e
    refine congrArg (x :: ·) (strict_only h l m h1.2 h2.2 fun z => ⟨fun hz => ?_, fun hz => ?_⟩)
    · rcases List.mem_cons.1 ((hm z).1 (List.mem_cons_of_mem _ hz)) with e | hz'
      · subst e; exact absurd (h1.1 z hz) (irr z)
      · exact hz'
    · rcases List.mem_cons.1 ((hm z).2 (List.mem_cons_of_mem _ hz)) with e | hz'
      · subst e; exact absurd (h2.1 z hz) (irr z)
      · exact hz'
end
/-- What follows p, each that is as its neighbour ahead left out. -/
def uq {α : Type} (eq : α → α → Bool) : α → List α → List α
  | _, [] => []
  | p, x :: l => if eq x p then uq eq x l else x :: uq eq x l
def uniq {α : Type} (eq : α → α → Bool) : List α → List α
  | [] => []
  | x :: l => x :: uq eq x l
section
variable {α : Type} {eq : α → α → Bool}
theorem uq_snoc (b : α) : ∀ (l : List α) (p : α), uq eq p (l ++ [b]) = uq eq p l ++ if eq b ((p :: l).getLast (List.cons_ne_nil _ _)) then [] else [b]
  | [], p => by
    show (if eq b p then [] else [b]) = [] ++ _
    rw [List.nil_append]; rfl
  | x :: l, p => by
    show (if eq x p then uq eq x (l ++ [b]) else x :: uq eq x (l ++ [b])) = (if eq x p then uq eq x l else x :: uq eq x l) ++ _
    rw [uq_snoc b l x]
    have e : (p :: x :: l).getLast (List.cons_ne_nil _ _) = (x :: l).getLast (List.cons_ne_nil _ _) := rfl
    rw [e]
    split <;> rfl
theorem uq_len : ∀ (l : List α) (p : α), (uq eq p l).length ≤ l.length
  | [], _ => Nat.le_refl _
  | x :: l, p => by
    show (if eq x p then uq eq x l else x :: uq eq x l).length ≤ l.length + 1
    have := uq_len l x
    split
    · omega
    · rw [List.length_cons]; omega
theorem uniq_len (l : List α) : (uniq eq l).length ≤ l.length := by
  cases l with
  | nil => exact Nat.le_refl _
  | cons x l => show (uq eq x l).length + 1 ≤ l.length + 1; have := uq_len (eq := eq) l x; omega
theorem uq_sub : ∀ (l : List α) (p : α), (uq eq p l).Sublist l
  | [], _ => .refl _
  | x :: l, p => by
    show (if eq x p then uq eq x l else x :: uq eq x l).Sublist (x :: l)
    split
    · exact .cons _ (uq_sub l x)
    · exact (uq_sub l x).cons_cons _
theorem uniq_sub (l : List α) : (uniq eq l).Sublist l := by
  cases l with
  | nil => exact .refl _
  | cons x l => exact (uq_sub l x).cons_cons _
/-- One more: it stays out if it is as the last one. -/
theorem uniq_take {l : List α} {m : Nat} {a b : α} (ha : l[m]? = some a) (hb : l[m + 1]? = some b) : uniq eq (l.take (m + 2)) = uniq eq (l.take (m + 1)) ++ if eq b a then [] else [b] := by
  have lb := (List.getElem?_eq_some_iff.1 hb).1
  have e1 : l.take (m + 2) = l.take (m + 1) ++ [b] := by
    rw [List.take_succ_eq_append_getElem lb]
    congr 2
    exact Option.some.inj ((List.getElem?_eq_getElem lb).symm.trans hb)
  have e2 : l.take (m + 1) = l.take m ++ [a] := by
    have la := (List.getElem?_eq_some_iff.1 ha).1
    rw [List.take_succ_eq_append_getElem la]
    congr 2
    exact Option.some.inj ((List.getElem?_eq_getElem la).symm.trans ha)
  rw [e1]
  cases hq : l.take (m + 1) with
  | nil => rw [e2] at hq; simp at hq
  | cons x r =>
    show x :: uq eq x (r ++ [b]) = x :: uq eq x r ++ _
    rw [uq_snoc b r x]
    have e3 : (x :: r).getLast (List.cons_ne_nil _ _) = a := by
      have : ∀ (q : List α) (hq : q ≠ []), q = l.take m ++ [a] → q.getLast hq = a := fun q hn e => by subst e; simp
      exact this _ _ (hq ▸ e2)
    rw [e3]
    rfl
theorem uq_strict {c : α → α → Int} (hc : Cm c) : ∀ (l : List α) (p : α), (p :: l).Pairwise (fun a b => c a b ≤ 0) → (∀ x ∈ l, ∀ y ∈ p :: l, eq x y = false → c y x ≠ 0) → (∀ y ∈ uq eq p l, c p y < 0) ∧ (uq eq p l).Pairwise fun a b => c a b < 0
  | [], _, _, _ => ⟨fun y h => (by cases h), List.Pairwise.nil⟩
  | x :: l, p, h, hn => by
    rw [List.pairwise_cons] at h
    have ih := uq_strict hc l x h.2 (fun z hz y hy => hn z (List.mem_cons_of_mem _ hz) y (List.mem_cons_of_mem _ hy))
    have hpx := h.1 x (List.mem_cons_self ..)
    show (∀ y ∈ (if eq x p then uq eq x l else x :: uq eq x l), c p y < 0) ∧ (if eq x p then uq eq x l else x :: uq eq x l).Pairwise _
    split
    · exact ⟨fun y hy => hc.le_lt hpx (ih.1 y hy), ih.2⟩
    · rename_i he
      have h0 := hn x (List.mem_cons_self ..) p (List.mem_cons_self ..) (by simpa using he)
      refine ⟨fun y hy => ?_, List.pairwise_cons.2 ⟨ih.1, ih.2⟩⟩
      rcases List.mem_cons.1 hy with rfl | hy
      · omega
      · exact hc.le_lt hpx (ih.1 y hy)
/-- In order, what is left is in strict order. -/
theorem uniq_strict {c : α → α → Int} (hc : Cm c) {l : List α} (h : l.Pairwise fun a b => c a b ≤ 0) (hn : ∀ x ∈ l, ∀ y ∈ l, eq x y = false → c y x ≠ 0) : (uniq eq l).Pairwise fun a b => c a b < 0 := by
  cases l with
  | nil => exact List.Pairwise.nil
  | cons x l =>
    have := uq_strict hc l x h (fun z hz y hy => hn z (List.mem_cons_of_mem _ hz) y hy)
    exact List.pairwise_cons.2 this
theorem uq_mem : ∀ (l : List α) (p : α), (∀ x ∈ l, ∀ y ∈ p :: l, eq x y = true → x = y) → ∀ x ∈ l, x ∈ p :: uq eq p l
  | [], _, _, x, h => by cases h
  | z :: l, p, he, x, hx => by
    have ih := uq_mem l z fun x hx y hy => he x (List.mem_cons_of_mem _ hx) y (List.mem_cons_of_mem _ hy)
    have hz : x ∈ z :: uq eq z l := by
      rcases List.mem_cons.1 hx with rfl | hx
      · exact List.mem_cons_self ..
      · exact ih x hx
    show x ∈ p :: (if eq z p then uq eq z l else z :: uq eq z l)
    split
    · rename_i e
      have := he z (List.mem_cons_self ..) p (List.mem_cons_self ..) e
      subst this; exact hz
    · exact List.mem_cons_of_mem _ hz
theorem uniq_mem {l : List α} (he : ∀ x ∈ l, ∀ y ∈ l, eq x y = true → x = y) (x : α) : x ∈ uniq eq l ↔ x ∈ l := by
  refine ⟨fun h => (uniq_sub l).subset h, fun h => ?_⟩
  cases l with
  | nil => cases h
  | cons z l =>
    rcases List.mem_cons.1 h with rfl | h
    · exact List.mem_cons_self ..
    · exact uq_mem l z (fun x hx y hy => he x (List.mem_cons_of_mem _ hx) y hy) x h
end
end Go.Proofs.YtmhahajadgkolaaGreatDoor
/- The engine: a region that draws its order, of which every operation only makes new things: each operation's value is said by itself, and the order does not matter. -/
namespace Go.Proofs.YtmhahajadgkolaaGreatDoor
open Go.RowKit

/-- What is said of a value; it stays true where only new blocks come. -/
structure SpT where
  S : Value → World → Prop
  st : ∀ v w w', S v w → Frm (fun _ => False) w w' → S v w'
def spec (Ss : List SpT) (i : Nat) (v : Value) (w : World) : Prop := match Ss[i]? with | some s => s.S v w | none => True
def Given (Ss : List SpT) (w1 : World) (G : Kn → Prop) : List (Nat × Nat) → Kn → Prop
  | [], l => G l
  | x :: js, l => ∀ v, spec Ss x.1 v w1 → Given Ss w1 G js ((x.2, v) :: l)
abbrev FreeX := Nat × Nat × List (Nat × Nat)
section
variable {P : Program} {os : List Oper} {Q : Exit → Act → World → Prop} {n : Nat} {p : Nat → Prop} {w0 : World} {l : Kn} {L : List Ent}
/-- What an operation must hand on. -/
def FreeK (Ss : List SpT) (i d : Nat) (w1 : World) (n : Nat) (l' : Kn) : Act → World → Prop := fun a' w' => Frm (fun _ => False) w1 w' ∧ ∃ v, spec Ss i v w' ∧ Has n a' ((d, v) :: l')
def FreeStep (P : Program) (os : List Oper) (Q : Exit → Act → World → Prop) (n : Nat) (p : Nat → Prop) (w0 : World) (Ss : List SpT) (l : Kn) (L : List Ent) (x : FreeX) : Prop :=
  ∀ w1, St p w0 w1 L → ∀ lx : Kn, Given Ss w1 (fun l' => WL P os.toArray (RQ (FreeK Ss x.1 x.2.1 w1 n l') (NP Q)) n (fun _ => False) w1 [at_ os x.1] l' []) x.2.2 (l ++ lx)
/-! ### The checks -/
def boundTo (o : Oper) (j : Nat) : Bool := o.after.toList.any fun e => Region.binds .any e && Nat.beq e.on j
def slotIs (os : List Oper) (j d : Nat) : Bool := match os[j]? with | some o => (match o.dst with | some e => Nat.beq e d | none => false) | none => false
def frB1 (os : List Oper) (ks : List Nat) (n : Nat) (k : Nat) (x : FreeX) : Bool :=
  Nat.beq x.1 k && slotIs os k x.2.1 && Nat.blt x.2.1 n && !(ks.contains x.2.1) &&
  (match os[k]? with
   | some o => o.after.toList.all (fun e => Nat.blt e.on k) && x.2.2.all (fun y => boundTo o y.1 && slotIs os y.1 y.2)
   | none => false)
def frB (os : List Oper) (ks : List Nat) (n : Nat) : Nat → List FreeX → List Nat → Bool
  | k, [], _ => Nat.beq k os.length
  | k, x :: X, used => frB1 os ks n k x && !(used.contains x.2.1) && frB os ks n (k + 1) X (x.2.1 :: used)
structure FreeOk (os : List Oper) (ks : List Nat) (n : Nat) (X : List FreeX) : Prop where
  len : X.length = os.length
  one : ∀ (k : Nat) (x : FreeX), X[k]? = some x → frB1 os ks n k x = true
  dif : ∀ (j k : Nat) (x y : FreeX), X[j]? = some x → X[k]? = some y → j ≠ k → x.2.1 ≠ y.2.1
/-- All that is listed, as the frame says. -/
def seen (os : List Oper) (listed : Array Bool) (a : Act) : Nat → Kn
  | 0 => []
  | k + 1 => match os[k]? with
    | some o => (match o.dst with | some d => if listed.getD k false = true then (d, a.tmps.getD d undef) :: seen os listed a k else seen os listed a k | none => seen os listed a k)
    | none => seen os listed a k
/-- What holds on the way. -/
structure FreeInv (os : List Oper) (n : Nat) (p : Nat → Prop) (w0 : World) (Ss : List SpT) (l : Kn) (L : List Ent) (listed : Array Bool) (a : Act) (w : World) : Prop where
  size : listed.size = os.length
  has : Has n a l
  st : St p w0 w L
  sp : ∀ j o d, os[j]? = some o → o.dst = some d → listed.getD j false = true → spec Ss j (a.tmps.getD d undef) w
def left (os : List Oper) (listed : Array Bool) : Nat := ((List.range os.length).filter fun j => !listed.getD j false).length
def outsB (os : List Oper) (outs : List (Nat × Nat)) : Bool := outs.all fun y => slotIs os y.1 y.2
end
end Go.Proofs.YtmhahajadgkolaaGreatDoor
/- The engine: functions of the runtime's own (externs), append to a full slice whose cells are known, x[:hi:max]. -/
namespace Go.Proofs.YtmhahajadgkolaaGreatDoor
open Go.RowKit

/-- What a call has made beside what was there. -/
theorem St.join {p : Nat → Prop} {w0 w1 w' : World} {L M : List Ent} (hS : St p w0 w1 L) (h : St (fun _ => False) w1 w' M) : St p w0 w' (M ++ L) := by
  refine ⟨hS.frm.trans (h.frm.mono (fun _ h => h.elim)), ?_, ?_, ?_⟩
  · intro e he
    rcases List.mem_append.1 he with he | he
    · exact h.holds e he
    · exact Ent.keep (hS.holds e he) (h.frm.block _ (Ent.lt (hS.holds e he)) (fun h => h))
  · rw [List.map_append, List.nodup_append]
    refine ⟨h.dist, hS.dist, ?_⟩
    rintro a ha b hb rfl
    obtain ⟨e, he, e1⟩ := List.mem_map.1 ha
    obtain ⟨e', he', e2⟩ := List.mem_map.1 hb
    have h1 := (h.mine e he).resolve_left (fun h => h)
    have h2 := Ent.lt (hS.holds e' he')
    omega
  · intro e he
    rcases List.mem_append.1 he with he | he
    · exact .inr (Nat.le_trans hS.frm.size ((h.mine e he).resolve_left (fun h => h)))
    · exact hS.mine e he
theorem rgIn {p : Nat → Prop} {w0 : World} {L : List Ent} {b off : Nat} {cs : List Value} (hp : ¬ p b) (h : w0.rangeAt b off cs) : ∀ w, St p w0 w L → w.rangeAt b off cs := fun _ hS j v hj => hS.old hp (h j v hj)
section
variable {P : Program} {C : World → Prop} {ops : Array Oper} {Q : Exit → Act → World → Prop} {n : Nat} {p : Nat → Prop} {w0 : World} {o : Oper} {rest : List Oper} {l : Kn} {L : List Ent}
theorem append_new {t tx e s by_ k c m : Nat} {ad : Option Addr} {xs new zs : List Value} {L0 : List Ent} {w : World} {y : Value} {ty : TypeId} {e' : TypeId}
    (hu : P.underlying t = some (.slice e)) (hux : P.underlying tx = some (.slice e')) (hs : (P.info? e).map (·.size) = some s) (hb : (P.info? e).map (·.bytes) = some by_) (hz : Zero P e zs) (hzl : zs.length = s)
    (hby : 0 < by_) (hroom : ¬ k + m ≤ c) (hxl : xs.length = k * s) (hold : ∀ w', St p w0 w' L0 → (Builtin.firstCells s k (.slice ad k c)).run P w' = .ok xs.toArray w') (hS : St p w0 w L0) (hlen : (Builtin.lenOf y).run P w = .ok m w)
    (hfc : ∀ w', St p w0 w' L0 → (Builtin.firstCells s m y).run P w' = .ok new.toArray w') (hnl : new.length = m * s) (hbig : (3 * (k + m) + 1200) * by_ ≤ 281474976710656) :
    ∃ ad' c' E' w', (Builtin.append_ #[t, tx] ty #[.slice ad k c, y]).run P w = .ok (.slice ad' (k + m) c') w' ∧ Vec s ad' (k + m) c' (xs ++ new) E' ∧ St p w0 w' (E' ++ L0) := by
  have hq : ∃ i, P.info? e = some i ∧ i.bytes = by_ := by
    cases hq : P.info? e with
    | none => simp [hq] at hb
    | some i => exact ⟨i, rfl, by simpa [hq] using hb⟩
  obtain ⟨ti, hi, hib⟩ := hq
  have hask : ∀ (k : Nat) (w : World), (askRoom k).run P w = .ok () w := fun k w => by
    unfold askRoom
    by_cases h : k > roomBytes
    · rw [if_pos h]; rfl
    · rw [if_neg h]; rfl
  have hle := nextslicecap_le (k + m) c (by omega)
  have hmul : Builtin.nextslicecap (k + m) c * by_ ≤ (3 * (k + m) + 1200) * by_ := Nat.mul_le_mul_right by_ hle
  have hcap : ¬ (Builtin.nextslicecap (k + m) c * by_ > 2 ^ 48) := by omega
  obtain ⟨z, hz, hzs⟩ := hz
  have hzc : z.cells = zs.toArray := by rw [← hzs]
  have hd := hS.drew
  let nc := (Question.appendCap (k + m) c e).cut (w.tape w.drawn (.appendCap (k + m) c e))
  have hnc : k + m ≤ nc := by show k + m ≤ (k + m) + _; omega
  let rs := (Builtin.zeroCells zs.toArray (nc - (k + m))).toList
  have hrl : rs.length = (nc - (k + m)) * s := by rw [zeroCells_length]; simp [hzl]
  have hnew : St p w0 (w.drew.alloc (.cells (xs ++ new ++ rs).toArray e)) (.row w.drew.heap.size (xs ++ new ++ rs) :: L0) := St.new hd
  refine ⟨some ⟨w.drew.heap.size, 0, none⟩, nc, [.row w.drew.heap.size (xs ++ new ++ rs)], _, ?_, Vec.row ?_ ?_ hnc, hnew⟩
  · have hcut : (choose (.appendCap (k + m) c e)).run P w = .ok nc w.drew := rfl
    simp only [Builtin.append_, List.getElem?_toArray, List.getElem?_cons_zero, List.getElem?_cons_succ, Sem.run_bind, run_underlying hu, run_underlying hux, Result.andThen_ok, run_sizeOf hs, Sem.run_pure]
    simp only [Bool.false_eq_true, if_false, hlen, Result.andThen_ok, hroom, typeInfo, program, Sem.run, hi, Sem.run_bind, false_or]
    have hby0 : ¬ (by_ = 0) := by omega
    simp only [hby0, and_false, if_false, Result.andThen_ok, Sem.run_pure, hcap, hcut, hask, hold _ hd, hfc _ hd, run_zeroValue hz, hzc, Bool.not_false, if_true, Sem.run_bind, newRow, newObj, Sem.run, hi, hib]
    have ee : xs.toArray ++ new.toArray ++ Builtin.zeroCells zs.toArray (nc - (k + m)) = (xs ++ new ++ rs).toArray := by simp [rs]
    rw [ee]
    rfl
  · rw [Nat.add_mul, List.append_assoc, ← List.append_assoc, List.take_append_of_le_length (by simp; omega), List.take_of_length_le (by simp; omega)]
  · simp only [List.length_append, hxl, hnl, hrl]
    rw [← Nat.add_mul, ← Nat.add_mul]
    congr 1
    omega
section
variable {t tx e s by_ k d m : Nat} {ad : Option Addr} {xs new zs : List Value} {x y : Operand}
/-- append(x, y...) where x has no room, whoever's it is. -/
theorem WL.appendN {sa : Option Addr} {mc c : Nat} (ho : o.op = .call { callee := .builtin .append, args := #[x, y], argTypes := #[t, tx] }) (hx : ev l x = some (.slice ad k c)) (hy : ev l y = some (.slice sa m mc))
    (hu : P.underlying t = some (.slice e)) {e' : TypeId} (hux : P.underlying tx = some (.slice e')) (hs : (P.info? e).map (·.size) = some s) (hb : (P.info? e).map (·.bytes) = some by_) (hz : Zero P e zs) (hzl : zs.length = s) (hby : Nat.blt 0 by_ = true)
    (hroom : ¬ k + m ≤ c) (hcx : 0 < k → ∃ b so, ad = some ⟨b, so, none⟩ ∧ ∀ w, St p w0 w L → w.rangeAt b so xs) (hxl : xs.length = k * s) (hc : 0 < m → ∃ b so, sa = some ⟨b, so, none⟩ ∧ ∀ w, St p w0 w L → w.rangeAt b so new) (hnl : new.length = m * s) (hbig : (3 * (k + m) + 1200) * by_ ≤ 281474976710656)
    (hg : On ops o l) (hd : o.dst = some d) (hn : Nat.blt d n = true)
    (h : ∀ ad' c' E', Vec s ad' (k + m) c' (xs ++ new) E' → WL P ops Q n p w0 rest ((d, .slice ad' (k + m) c') :: l) (E' ++ L)) : WL P ops Q n p w0 (o :: rest) l L := by
  refine WL.op hg hd hn fun a w ha hS => ?_
  have hxy : evs l [x, y] = some [.slice ad k c, .slice sa m mc] := by simp [evs, hx, hy]
  obtain ⟨cc, hr⟩ := run_builtin (P := P) (w := w) (xs := [x, y]) ho hxy ha
  have first : ∀ {q : Option Addr} {j jc : Nat} {us : List Value}, us.length = j * s → (0 < j → ∃ b so, q = some ⟨b, so, none⟩ ∧ ∀ w, St p w0 w L → w.rangeAt b so us) → ∀ w', St p w0 w' L → (Builtin.firstCells s j (.slice q j jc)).run P w' = .ok us.toArray w' := fun {q j jc us} hl hcs w' hS' => by
    by_cases hm : 0 < j
    · obtain ⟨b, so, eq, hcs2⟩ := hcs hm
      rw [eq]
      exact run_loadRange (P := P) hl (hcs2 w' hS')
    · obtain rfl : j = 0 := by omega
      have hn0 : us = [] := List.length_eq_zero_iff.1 (by omega)
      subst hn0
      cases q with
      | none => rfl
      | some q => simp [Builtin.firstCells, loadCells, loadCellsFrom]
  obtain ⟨ad', c', E', w', h1, h2, h3⟩ := append_new (P := P) (ty := o.type) (y := .slice sa m mc) hu hux hs hb hz hzl (by simpa using hby) hroom hxl (fun w' hS' => first hxl hcx w' hS') hS (by simp [Builtin.lenOf]) (fun w' hS' => first hnl hc w' hS') hnl hbig
  refine ⟨_, w', E' ++ L, ?_, h3, h ad' c' E' h2⟩
  rw [hr]
  simp [builtin, h1]
end
end
end Go.Proofs.YtmhahajadgkolaaGreatDoor
/- slices.SortFunc at any element of k cells, whatever their number: the kit's sort as my worlds. -/
namespace Go.Proofs.YtmhahajadgkolaaGreatDoor
open Go.RowKit Go.Sort Go.Shelf

theorem gs_ext : ∀ a b : World, a.heap = b.heap → a.tape = b.tape → a.drawn = b.drawn → a.os = b.os → a.output = b.output → a = b := by
  rintro ⟨⟩ ⟨⟩ h1 h2 h3 h4 h5
  dsimp only at h1 h2 h3 h4 h5
  subst h1 h2 h3 h4 h5
  rfl
theorem Frm.grows {w w' : World} (h : Frm (fun _ => False) w w') : ∃ q os', w' = Go.Sort.grow (w.drewN q) os' := by
  refine ⟨w'.drawn - w.drawn, (w'.heap.toList.drop w.heap.size).toArray, ?_⟩
  have h1 := h.drawn
  have hh : w'.heap = w.heap ++ (w'.heap.toList.drop w.heap.size).toArray := by
    apply Array.ext_getElem?
    intro k
    rw [Array.getElem?_append]
    split
    · rename_i hk; exact h.block k hk (fun h => h)
    · rename_i hk
      simp only [List.getElem?_toArray, List.getElem?_drop, Array.getElem?_toList]
      rw [show w.heap.size + (k - w.heap.size) = k by omega]
  exact gs_ext _ _ hh h.tape (by show w'.drawn = w.drawn + (w'.drawn - w.drawn); omega) h.os h.output
/-- Elements as cells. -/
def encL {α : Type} (enc : α → List Value) : List α → List Value
  | [] => []
  | x :: xs => enc x ++ encL enc xs
theorem encL_len {α : Type} {enc : α → List Value} {k : Nat} (hk : ∀ x, (enc x).length = k) : ∀ xs : List α, (encL enc xs).length = xs.length * k
  | [] => by simp [encL]
  | x :: xs => by
    show (enc x ++ encL enc xs).length = _
    rw [List.length_append, encL_len hk xs, hk, List.length_cons, Nat.add_mul, Nat.one_mul]; omega
theorem encL_seg {α : Type} {enc : α → List Value} {k : Nat} (hk : ∀ x, (enc x).length = k) : ∀ (xs : List α) (i : Nat) (x : α), xs[i]? = some x → ((encL enc xs).drop (i * k)).take k = enc x
  | [], _, _, h => by simp at h
  | y :: xs, 0, x, h => by
    simp only [List.getElem?_cons_zero, Option.some.injEq] at h
    subst h
    show ((enc y ++ encL enc xs).drop (0 * k)).take k = _
    rw [Nat.zero_mul, List.drop_zero, List.take_left' (hk y)]
  | y :: xs, i + 1, x, h => by
    rw [List.getElem?_cons_succ] at h
    show ((enc y ++ encL enc xs).drop ((i + 1) * k)).take k = _
    rw [Nat.add_mul, Nat.one_mul, Nat.add_comm, ← List.drop_drop, List.drop_left' (hk y)]
    exact encL_seg hk xs i x h
section
variable {α : Type} [Inhabited α] {enc : α → List Value} {k : Nat}
theorem gsW_frm (w : World) (blk off m : Nat) (d : Array α) (os : Array Obj) : Frm (fun b => b = blk) w (sortWorldK enc k w blk off m d os) := by
  have hsz : (putRowK enc k (Go.Sort.ahead w m) blk off d).heap.size = w.heap.size := by unfold putRowK; rw [Go.Sort.size_putRow]; rfl
  refine ⟨rfl, rfl, rfl, ?_, ?_, Nat.le_add_right _ _⟩
  · show w.heap.size ≤ ((putRowK enc k (Go.Sort.ahead w m) blk off d).heap ++ os).size
    rw [Array.size_append, hsz]; omega
  · intro j hj hn
    show ((putRowK enc k (Go.Sort.ahead w m) blk off d).heap ++ os)[j]? = _
    rw [Array.getElem?_append_left (by rw [hsz]; exact hj)]
    show (w.heap.modify blk _)[j]? = _
    rw [Array.getElem?_modify, if_neg (fun e => hn e.symm)]
def gsL (enc : α → List Value) (k : Nat) (d : Array α) (cs : List Value) : List Value := (Go.Sort.putCells id 0 (flatK enc k d) cs.toArray).toList
theorem gsL_len (d : Array α) (cs : List Value) : (gsL enc k d cs).length = cs.length := by simp [gsL, Go.Sort.putCells]
theorem encL_get (hk : ∀ x, (enc x).length = k) (hk0 : 0 < k) (d : Array α) {t : Nat} (ht : t < d.size * k) : (encL enc d.toList)[t]? = some ((enc d[t / k]!)[t % k]!) := by
  have hq : t / k < d.size := (Nat.div_lt_iff_lt_mul hk0).2 ht
  have hr : t % k < k := Nat.mod_lt _ hk0
  have e2 : d.toList[t / k]? = some d[t / k]! := by
    rw [Array.getElem?_toList, Array.getElem?_eq_getElem hq, getElem!_pos d (t / k) hq]
  have e3 := encL_seg hk _ _ _ e2
  have e4 : (enc d[t / k]!)[t % k]? = (encL enc d.toList)[t]? := by
    rw [← e3, List.getElem?_take, if_pos hr, List.getElem?_drop]
    congr 1
    exact Nat.div_add_mod' t k
  rw [← e4, getElem!_pos (enc d[t / k]!) (t % k) (by rw [hk]; exact hr)]
  exact List.getElem?_eq_getElem _
theorem gsL_take (hk : ∀ x, (enc x).length = k) (hk0 : 0 < k) (d : Array α) (cs : List Value) (h : d.size * k ≤ cs.length) : (gsL enc k d cs).take (d.size * k) = encL enc d.toList := by
  have hl : (encL enc d.toList).length = d.size * k := by rw [encL_len hk, Array.length_toList]
  apply List.ext_getElem?
  intro t
  by_cases ht : t < d.size * k
  · rw [List.getElem?_take, if_pos ht]
    have e1 : (gsL enc k d cs)[t]? = some ((enc d[t / k]!)[t % k]!) := by
      unfold gsL Go.Sort.putCells
      rw [Array.getElem?_toList, Array.getElem?_mapIdx]
      rw [show cs.toArray[t]? = some (cs[t]'(by omega)) by rw [List.getElem?_toArray]; exact List.getElem?_eq_getElem _]
      simp only [Option.map_some, size_flatK]
      rw [if_pos (by omega), Nat.sub_zero, get_flatK _ _ _ _ ht]
      rfl
    rw [e1, encL_get hk hk0 d ht]
  · rw [List.getElem?_eq_none (by rw [List.length_take]; omega), List.getElem?_eq_none (by rw [hl]; omega)]
theorem gsW_row {w : World} {blk m : Nat} {cs : List Value} {d : Array α} {os : Array Obj} (h : Row w blk cs) : Row (sortWorldK enc k w blk 0 m d os) blk (gsL enc k d cs) := by
  have hlt := h.lt
  obtain ⟨T, lo, hi, hb, hf⟩ := h
  refine ⟨T, lo, hi, ?_, by rw [gsL_len]; exact hf⟩
  have hsz : (putRowK enc k (Go.Sort.ahead w m) blk 0 d).heap.size = w.heap.size := by unfold putRowK; rw [Go.Sort.size_putRow]; rfl
  show ((putRowK enc k (Go.Sort.ahead w m) blk 0 d).heap ++ os)[blk]? = _
  rw [Array.getElem?_append_left (by rw [hsz]; exact hlt)]
  show (w.heap.modify blk _)[blk]? = _
  rw [Array.getElem?_modify, if_pos rfl, hb]
  rfl
theorem gsW_st {p : Nat → Prop} {w0 w : World} {blk m : Nat} {cs : List Value} {d : Array α} {os : Array Obj} {L : List Ent} (hS : St p w0 w (.row blk cs :: L)) : St p w0 (sortWorldK enc k w blk 0 m d os) (.row blk (gsL enc k d cs) :: L) := by
  have hF := gsW_frm (enc := enc) (k := k) w blk 0 m d os
  have hR : Row w blk cs := hS.holds (.row blk cs) (by simp)
  have hm := hS.mine (.row blk cs) (by simp)
  refine ⟨⟨hF.os.trans hS.frm.os, hF.tape.trans hS.frm.tape, hF.output.trans hS.frm.output, Nat.le_trans hS.frm.size hF.size, fun j hj hn => ?_, Nat.le_trans hS.frm.drawn hF.drawn⟩, ?_, hS.dist, ?_⟩
  · have hne : ¬ j = blk := fun e => by
      subst e
      rcases hm with h | h
      · exact hn h
      · exact absurd hj (by show ¬ j < w0.heap.size; have : w0.heap.size ≤ j := h; omega)
    exact (hF.block j (Nat.lt_of_lt_of_le hj hS.frm.size) hne).trans (hS.frm.block j hj hn)
  · intro e he
    rcases List.mem_cons.1 he with rfl | he
    · exact gsW_row hR
    · have hh := hS.holds e (List.mem_cons_of_mem _ he)
      refine Ent.keep hh (hF.block _ (Ent.lt hh) fun e' => ?_)
      have hd := hS.dist
      simp only [List.map_cons, List.nodup_cons] at hd
      exact hd.1 (List.mem_map.2 ⟨e, he, e'⟩)
  · intro e he
    rcases List.mem_cons.1 he with rfl | he
    · exact hm
    · exact hS.mine e (List.mem_cons_of_mem _ he)
/-- Ascending by an order: no later one is less than an earlier one. -/
def AscBy (cf : α → α → Int) (ys : List α) : Prop := ∀ (i j : Nat) (x y : α), ys[i]? = some x → ys[j]? = some y → i < j → ¬ cf y x < 0
theorem gsort_c {P : Program} {ρ : Go.Shelf.Ren} (Ly : SlLaysF0.n6 P ρ) (hk0 : 0 < k) (aE : ∀ w, (isAgg (ρ.t 24)).run P w = .ok true w) (zE : ∀ w, (Go.sizeOf (ρ.t 24)).run P w = .ok k w) (hk : ∀ x, (enc x).length = k) (h1 : ∀ x, ∀ v ∈ enc x, v.oneCell' = true)
    (cf : α → α → Int) (hO : SWO (ltOf cf)) (g : Nat) (cb : Array Value) (eg : ∀ args w, (callFunc g args).run P w = .ok (.enter g args) w) (p : Nat → Prop) (w0 w : World) (L E : List Ent) (ad : Option Addr) (c : Nat) (xs : List α)
    (hcmp : ∀ gb cs, St p w0 w (.row gb cs :: L) → ∀ w', Frm (fun b => b = gb) w w' → ∀ x y, Calls P g (#[.agg (enc x).toArray, .agg (enc y).toArray] ++ cb) w' fun e w'' => e = .returned (.int .i64 (cf x y)) ∧ Frm (fun _ => False) w' w'')
    (hV : Vec k ad xs.length c (encL enc xs) E) (hS : St p w0 w (E ++ L)) (hlen : xs.length < 4611686018427387904) :
    Calls P (ρ.f 6) #[.slice ad xs.length c, .func (.func g) #[] cb] w fun e w' =>
      e = .returned (.tuple #[]) ∧ ∃ ys E', ys.Perm xs ∧ AscBy cf ys ∧ Vec k ad xs.length c (encL enc ys) E' ∧ St p w0 w' (E' ++ L) := by
  rcases hV with ⟨ha, hn, hc, hx, hE⟩ | ⟨gb, cs, rfl, rfl, hx, hcl, hkc⟩
  · have e0 : xs = [] := List.length_eq_zero_iff.1 hn
    subst e0
    refine (Go.Proofs.AnyF.slices_SortFunc_none Ly ad c _ w).mono fun e w' h => ⟨h.1, [], E, .refl _, fun i j A B h => by simp at h, .inl ⟨ha, hn, hc, hx, hE⟩, by rw [h.2]; exact hS⟩
  · have hS' : St p w0 w (.row gb cs :: L) := hS
    have hR : Row w gb cs := hS'.holds (.row gb cs) (by simp)
    have hcs : xs.length * k ≤ cs.length := by rw [hcl]; exact Nat.mul_le_mul_right k hkc
    have hsz : xs.toArray.size = xs.length := by simp
    have hcm : CmpLays P g cb enc k cf gb 0 xs.toArray.size w := fun m os dk hs x y =>
      (hcmp gb cs hS' _ (gsW_frm w gb 0 m dk os) x y).mono fun e w' ⟨he, hF⟩ => ⟨he, hF.grows⟩
    have hH : HoldsK enc k w gb 0 xs.toArray := fun t ht => by
      rw [size_flatK] at ht
      have ht2 : t < cs.length := by rw [hsz] at ht; omega
      rw [Nat.zero_add]
      refine ⟨hR.cell ?_, hR.frozen ht2⟩
      show cs[t]? = some ((flatK enc k xs.toArray)[t]!)
      rw [get_flatK _ _ _ _ ht, ← encL_get hk hk0 _ ht]
      show cs[t]? = (encL enc xs)[t]?
      rw [← hx, List.getElem?_take, if_pos (by rw [← hsz]; exact ht)]
    have key := Go.Proofs.AnyQ.slices_SortFunc Ly k aE zE enc hk h1 cf hO g cb gb 0 c xs.toArray w eg hcm hH hR.lt (by rw [hsz]; exact hlen)
    rw [hsz] at key
    refine key.mono ?_
    rintro e w' ⟨he, d', n, os, ⟨hs1, _, hperm⟩, hsort, rfl⟩
    have hd' : d'.size = xs.length := by rw [hs1, hsz]
    have f1 : d'.extract 0 xs.length = d' := by rw [← hd']; simp
    have f2 : xs.toArray.extract 0 xs.length = xs.toArray := by rw [← hsz]; exact Array.extract_size
    rw [f1, f2] at hperm
    have hrow := gsL_take hk hk0 d' cs (by rw [hd']; exact hcs)
    refine ⟨he, d'.toList, [.row gb (gsL enc k d' cs)], ?_, ?_, ?_, gsW_st hS'⟩
    · exact hperm
    · intro i j A B hi hj hij
      have li := (List.getElem?_eq_some_iff.1 hi).1
      have lj := (List.getElem?_eq_some_iff.1 hj).1
      rw [Array.length_toList] at li lj
      have h := hsort i j (Nat.zero_le _) hij (by rw [← hd']; exact lj)
      rw [Array.getElem?_toList, Array.getElem?_eq_getElem li] at hi
      rw [Array.getElem?_toList, Array.getElem?_eq_getElem lj] at hj
      rw [getElem!_pos d' i li, getElem!_pos d' j lj] at h
      have ea := Option.some.inj hi
      have eb := Option.some.inj hj
      subst ea eb
      exact of_decide_eq_false h
    · exact .inr ⟨gb, gsL enc k d' cs, rfl, rfl, by rw [← hd', hrow], by rw [gsL_len]; exact hcl, hkc⟩
end
end Go.Proofs.YtmhahajadgkolaaGreatDoor
/- make of elements of s cells; clear of a slice; elements laid over others in a block. -/
namespace Go.Proofs.YtmhahajadgkolaaGreatDoor
open Go.RowKit

/-- The same blocks in another order, by counting. -/
theorem St.permX {p : Nat → Prop} {w0 w : World} {L L' : List Ent} (hS : St p w0 w L) (h : ∀ (c : Ent → List Ent → Nat) (k : Ent → Ent → Nat), (∀ e a l, c e (a :: l) = c e l + k e a) → (∀ e l r, c e (l ++ r) = c e l + c e r) → (∀ e, c e [] = 0) → ∀ e, c e L = c e L' := by intro c k h1 h2 h3 e; simp only [h1, h2, h3] <;> omega) : St p w0 w L' := hS.perm (by
  classical
  exact List.perm_iff_count.2 fun e => (h (fun e l => l.count e) (fun e a => if a == e then 1 else 0) (fun _ _ _ => List.count_cons) (fun _ _ _ => List.count_append) (fun _ => List.count_nil) e).symm)
/-- Some of the blocks, in whatever order; Z: the others. -/
theorem St.dropX {p : Nat → Prop} {w0 w : World} {L L' : List Ent} (Z : List Ent) (hS : St p w0 w L) (h : ∀ (c : Ent → List Ent → Nat) (k : Ent → Ent → Nat), (∀ e a l, c e (a :: l) = c e l + k e a) → (∀ e l r, c e (l ++ r) = c e l + c e r) → (∀ e, c e [] = 0) → ∀ e, c e L = c e (L' ++ Z) := by intro c k h1 h2 h3 e; simp only [h1, h2, h3] <;> omega) : St p w0 w L' :=
  (hS.permX (L' := L' ++ Z) h).sub (List.sublist_append_left _ _)
section
variable {P : Program} {ops : Array Oper} {Q : Exit → Act → World → Prop} {n : Nat} {p : Nat → Prop} {w0 : World} {o : Oper} {rest : List Oper} {l : Kn} {L : List Ent}
/-- make([]T, m, c), an element s cells. -/
theorem WL.makeN {t e d m c by_ s : Nat} {x y : Operand} {k k' : IntKind} {A B : Int} {zs : List Value} (ho : o.op = .makeSlice t x y) (hx : ev l x = some (.int k A)) (hy : ev l y = some (.int k' B)) (hA : A = (m : Int)) (hB : B = (c : Int)) (hmc : m ≤ c)
    (hu : P.underlying t = some (.slice e)) (hb : (P.info? e).map (·.bytes) = some by_) (hbig : by_ * c ≤ 281474976710656) (hc63 : c < 2 ^ 62) (hs : (P.info? e).map (·.size) = some s) (hz : Zero P e zs) (hzl : zs.length = s) (hg : On ops o l) (hd : o.dst = some d) (hn : Nat.blt d n = true)
    (h : ∀ g, w0.heap.size ≤ g → WL P ops Q n p w0 rest ((d, .slice (some ⟨g, 0, none⟩) m c) :: l) (.row g (List.replicate c zs).flatten :: L)) : WL P ops Q n p w0 (o :: rest) l L := by
  refine WL.op hg hd hn fun a w ha hS => ?_
  have h1 := ha.ev hx
  have h2 := ha.ev hy
  subst hA hB
  obtain ⟨zz, hz, hzz⟩ := hz
  refine ⟨_, _, _, ?_, St.new (cs := (List.replicate c zs).flatten) (T := e) hS, h _ hS.frm.size⟩
  have hzc : zz.cells = zs.toArray := by rw [← hzz]
  have hwm : IntKind.i64.wrap (m : Int) = m := w_i64 (by omega) (by omega)
  have hwc : IntKind.i64.wrap (c : Int) = c := w_i64 (by omega) (by omega)
  have hsz := run_sizeOf (P := P) hs
  have hq : ∃ i, P.info? e = some i ∧ i.bytes = by_ := by
    cases hq : P.info? e with
    | none => simp [hq] at hb
    | some i => exact ⟨i, rfl, by simpa [hq] using hb⟩
  obtain ⟨i, hi, hib⟩ := hq
  have hnc : ¬ ((by_ : Int) * (c : Int) > 2 ^ 48) := by
    have h := Int.ofNat_le.2 hbig
    rw [Int.natCast_mul] at h
    omega
  have hask : ∀ (k : Nat) (w : World), (askRoom k).run P w = .ok () w := fun k w => by
    unfold askRoom
    by_cases h : k > roomBytes
    · rw [if_pos h]; rfl
    · rw [if_neg h]; rfl
  have hrow := zero_row hzl c
  unfold execOp
  simp only [ho, h1, h2, Instr.makeSlice, Sem.run_bind, run_underlying hu, Result.andThen, asInt, asIntOf, Sem.run_pure, typeInfo, program, Sem.run, hi, hib, hwm, hwc]
  have ht1 : (decide ((c : Int) < 0) || decide ((by_ : Int) * (c : Int) > 2 ^ 48) || decide ((m : Int) < 0) || decide ((m : Int) > (c : Int))) = false := by
    simp only [Bool.or_eq_false_iff, decide_eq_false_iff_not]
    exact ⟨⟨⟨by omega, hnc⟩, by omega⟩, by omega⟩
  simp only [ht1, Bool.false_eq_true, if_false, Int.toNat_natCast]
  by_cases h0 : c * s = 0
  · have hnil : (List.replicate c zs).flatten = [] := List.length_eq_zero_iff.1 (by rw [flat_len hzl]; exact h0)
    have h0' : ∀ f : Nat → Value, Array.map f (Array.range 0) = #[] := fun f => Array.ext (by simp) (fun i h => by simp at h)
    rw [hnil]
    simp [hask, hsz, newRow, newObj, Sem.run, h0, h0']
  · have hr2 : Array.map (fun x => zs[x % zs.length]?.getD default) (Array.range (c * s)) = ((List.replicate c zs).flatten).toArray := by
      rw [← hrow]; simp
    simp [hask, hsz, h0, run_zeroValue hz, hzc, hr2, newRow, newObj, Sem.run]
theorem WL.makeMapN {t d kt et : Nat} {x : Operand} {k : IntKind} {A : Int} (ho : o.op = .makeMap t (some x)) (hx : ev l x = some (.int k A)) (hu : P.underlying t = some (.map kt et)) (hg : On ops o l) (hd : o.dst = some d) (hn : Nat.blt d n = true)
    (h : ∀ g, w0.heap.size ≤ g → WL P ops Q n p w0 rest ((d, .map (some g)) :: l) (.obj g (.map #[] 0) :: L)) : WL P ops Q n p w0 (o :: rest) l L := by
  refine WL.op hg hd hn fun a w ha hS => ?_
  have h1 := ha.ev hx
  refine ⟨_, _, _, ?_, St.newObj (ob := .map #[] 0) hS trivial, h _ hS.frm.size⟩
  unfold execOp
  simp [ho, h1, Instr.makeMap, run_underlying hu, asInt, asIntOf, newObj, Sem.run]
def zrs (zs : List Value) (k : Nat) : List Value := (List.replicate k zs).flatten
theorem zrs_len (zs : List Value) (k : Nat) : (zrs zs k).length = k * zs.length := by unfold zrs; simp
theorem zrs_one {zs : List Value} (h : zs.all one = true) (k : Nat) : (zrs zs k).all one = true := by
  unfold zrs
  rw [List.all_eq_true] at h ⊢
  intro v hv
  obtain ⟨l, hl, hv⟩ := List.mem_flatten.1 hv
  rw [List.eq_of_mem_replicate hl] at hv
  exact h v hv
/-- clear(s): its k elements are zero. -/
theorem WL.clear {t e g off k c s : Nat} {x : Operand} {zs cs : List Value} {L' : List Ent} (ho : o.op = .call { callee := .builtin .clear, args := #[x], argTypes := #[t] }) (hx : ev l x = some (.slice (some ⟨g, off, none⟩) k c))
    (hu : P.underlying t = some (.slice e)) (hz : Zero P e zs) (hzl : zs.length = s) (hall : zs.all one = true) [At L g cs] (hle : off + k * s ≤ cs.length) [Put L g (.row g (splice cs off (zrs zs k))) L'] (hg : On ops o l) (hd : o.dst = none)
    (h : WL P ops Q n p w0 rest l L') : WL P ops Q n p w0 (o :: rest) l L := by
  refine WL.act hg hd fun a w ha hS => ?_
  have hx' : evs l [x] = some [.slice (some ⟨g, off, none⟩) k c] := by simp [evs, hx]
  obtain ⟨cc, hr⟩ := run_builtin (P := P) (w := w) (xs := [x]) ho hx' ha
  obtain ⟨z, hz, hzs⟩ := hz
  have hzc : z.cells = zs.toArray := by rw [← hzs]
  have hl : off + (zrs zs k).length ≤ cs.length := by rw [zrs_len, hzl]; exact hle
  obtain ⟨w', hst, hR', hF⟩ := run_storeCells_row (P := P) (zrs zs k) 0 off cs w (hS.row (g := g)) (by simpa using hl) (zrs_one hall k)
  have hzr : Builtin.zeroCells zs.toArray k = (zrs zs k).toArray := by
    have := zero_row (zs := zs) rfl k
    unfold Builtin.zeroCells zrs
    rw [← this]
    simp
  by_cases h0 : k = 0
  · subst h0
    have e0 : splice cs off (zrs zs 0) = cs := splice_nil cs off
    refine ⟨w, L', .inr ⟨.tuple #[], ?_⟩, hS.put (g := g) (e := .row g (splice cs off (zrs zs 0))) rfl (Frm.refl _ _) (by rw [e0]; exact hS.row (g := g)), h⟩
    rw [hr]
    simp [builtin, Builtin.clear_, run_underlying hu]
  · refine ⟨w', L', .inr ⟨.tuple #[], ?_⟩, hS.put (g := g) (e := .row g (splice cs off (zrs zs k))) rfl hF (show Row _ _ _ by simpa using hR'), h⟩
    obtain ⟨m, rfl⟩ : ∃ m, k = m + 1 := ⟨k - 1, by omega⟩
    rw [hr]
    simp [builtin, Builtin.clear_, run_underlying hu, run_zeroValue hz, hzc, hzr, hst]
section
variable {C : World → Prop}
theorem v_neq_aggE {t yt : TypeId} {x y : Operand} {xs ys : List Value} {ks : List CK} {b : Bool} (ho : o.op = .binOp .neq t x y yt) (hx : ev l x = some (.agg xs.toArray)) (hy : ev l y = some (.agg ys.toArray)) (hE : EqK P 10000 t true ks) (hg : P.eqGuardType P.depth t = false)
    (fx : fitsAll ks xs = true) (fy : fitsAll ks ys = true) (hb : b = true ↔ ¬ xs = ys) : Val P C n l o (.bool b) := by
  cases b with
  | true => exact v_neq_aggT ho hx hy hE hg fx fy (hb.1 rfl)
  | false => exact v_neq_aggF ho hx hy hE hg fx fy (Classical.byContradiction fun h => by have := hb.2 h; cases this)
theorem v_eql_aggD {t yt : TypeId} {x y : Operand} {xs ys : List Value} {ks : List CK} {b : Bool} (ho : o.op = .binOp .eql t x y yt) (hx : ev l x = some (.agg xs.toArray)) (hy : ev l y = some (.agg ys.toArray)) (hE : EqK P 10000 t true ks) (hg : P.eqGuardType P.depth t = false)
    (fx : fitsAll ks xs = true) (fy : fitsAll ks ys = true) (hb : b = true ↔ xs = ys) : Val P C n l o (.bool b) := by
  cases b with
  | false => exact v_eql_aggF ho hx hy hE hg fx fy fun h => by have := hb.2 h; cases this
  | true => exact v_eql_aggT ho hx hy hE hg fx fy (hb.1 rfl)
end
theorem splice_take {cs new : List Value} {k : Nat} (h : k + new.length ≤ cs.length) : (splice cs k new).take k = cs.take k := by
  rw [splice_eq _ _ _ h, List.append_assoc, List.take_left' (by rw [List.length_take]; omega)]
end
/-! ### Elements in a block -/
section
variable {α : Type} {enc : α → List Value} {s : Nat} (hk : ∀ x, (enc x).length = s)
include hk
theorem encL_take : ∀ (ys : List α) (k : Nat) (R : List Value), k ≤ ys.length → (encL enc ys ++ R).take (k * s) = encL enc (ys.take k)
  | ys, 0, R, _ => by rw [Nat.zero_mul]; cases ys <;> rfl
  | [], k + 1, R, h => by simp at h
  | y :: ys, k + 1, R, h => by
    show ((enc y ++ encL enc ys) ++ R).take ((k + 1) * s) = enc y ++ encL enc (ys.take k)
    rw [List.append_assoc, Nat.add_mul, Nat.one_mul, Nat.add_comm, ← hk y, List.take_length_add_append, hk y, encL_take ys k R (by simp at h; omega)]
theorem encL_drop : ∀ (ys : List α) (k : Nat) (R : List Value), k ≤ ys.length → (encL enc ys ++ R).drop (k * s) = encL enc (ys.drop k) ++ R
  | ys, 0, R, _ => by rw [Nat.zero_mul]; cases ys <;> rfl
  | [], k + 1, R, h => by simp at h
  | y :: ys, k + 1, R, h => by
    show ((enc y ++ encL enc ys) ++ R).drop ((k + 1) * s) = encL enc (ys.drop k) ++ R
    rw [List.append_assoc, Nat.add_mul, Nat.one_mul, Nat.add_comm, ← List.drop_drop, List.drop_left' (hk y), encL_drop ys k R (by simp at h; omega)]
/-- An element laid over another one. -/
theorem encL_set (ys : List α) (i : Nat) (x : α) (R : List Value) (h : i < ys.length) : splice (encL enc ys ++ R) (i * s) (enc x) = encL enc (ys.set i x) ++ R := by
  have hl := encL_len hk ys
  have h1 : i * s + s ≤ ys.length * s := by rw [← Nat.succ_mul]; exact Nat.mul_le_mul_right _ h
  rw [splice_eq _ _ _ (by rw [hk, List.length_append]; omega), hk, encL_take hk ys i R (by omega), show i * s + s = (i + 1) * s by rw [Nat.succ_mul], encL_drop hk ys (i + 1) R h]
  have e : ys.set i x = ys.take i ++ x :: ys.drop (i + 1) := by
    rw [List.set_eq_take_append_cons_drop, if_pos h]
  rw [e]
  have : ∀ (xs zs : List α), encL enc (xs ++ zs) = encL enc xs ++ encL enc zs := fun xs zs => by
    induction xs with
    | nil => rfl
    | cons a xs ih => show enc a ++ encL enc (xs ++ zs) = (enc a ++ encL enc xs) ++ encL enc zs; rw [ih, List.append_assoc]
  rw [this]
  show _ = (_ ++ (enc x ++ _)) ++ R
  simp only [List.append_assoc]
theorem encL_at {ys : List α} {i : Nat} {x : α} {R : List Value} (h : ys[i]? = some x) : seg (encL enc ys ++ R) (i * s) s = enc x := by
  have hi := (List.getElem?_eq_some_iff.1 h).1
  unfold seg
  rw [encL_drop hk ys i R (by omega)]
  have e : ys.drop i = x :: ys.drop (i + 1) := by
    rw [List.drop_eq_getElem_cons hi]
    congr 1
    exact Option.some.inj ((List.getElem?_eq_getElem hi).symm.trans h)
  rw [e]
  show ((enc x ++ encL enc (ys.drop (i + 1))) ++ R).take s = enc x
  rw [List.append_assoc, List.take_left' (hk x)]
omit hk in
/-- A slice of one's own: its block's cells are its elements', then others. -/
theorem Vec.split {ad : Option Addr} {c : Nat} {xs : List α} {E : List Ent} (hV : Vec s ad xs.length c (encL enc xs) E) (h : xs ≠ []) : ∃ g R, ad = some ⟨g, 0, none⟩ ∧ E = [.row g (encL enc xs ++ R)] ∧ (encL enc xs ++ R).length = c * s ∧ xs.length ≤ c := by
  rcases hV with ⟨_, hn, _⟩ | ⟨g, cs, rfl, rfl, hx, hl, hc⟩
  · exact absurd (List.length_eq_zero_iff.1 hn) h
  · refine ⟨g, cs.drop (xs.length * s), rfl, ?_, ?_, hc⟩
    · rw [← hx, List.take_append_drop]
    · rw [← hx, List.take_append_drop]; exact hl
end
end Go.Proofs.YtmhahajadgkolaaGreatDoor
/- Rules and entries of a table: as they lie, as data; their orders. -/
namespace Go.Proofs.YtmhahajadgkolaaGreatDoor
open Go.RowKit

theorem cmpI_cm : Cm cmpI := by
  refine ⟨fun a => ?_, fun a b => ?_, fun a b c h1 h2 => ?_⟩ <;> unfold cmpI at * <;> (repeat' (split at *)) <;> omega
theorem cmpI_zero {x y : Int} : cmpI x y = 0 ↔ x = y := by unfold cmpI; split <;> (try split) <;> omega
theorem lexK_cm {α : Type} (f : α → Nat → Int) : ∀ k, Cm (fun a b => lexK (f a) (f b) k)
  | 0 => Cm.triv
  | k + 1 => Cm.lex (lexK_cm f k) (cmpI_cm.on fun a => f a k)
theorem lexK_same {f g : Nat → Int} : ∀ {k}, lexK f g k = 0 → ∀ i, i < k → f i = g i
  | 0, _, i, hi => absurd hi (Nat.not_lt_zero i)
  | k + 1, h, i, hi => by
    have h : (if lexK f g k ≠ 0 then lexK f g k else cmpI (f k) (g k)) = 0 := h
    by_cases e : lexK f g k = 0
    · rw [if_neg (fun q => q e)] at h
      by_cases e2 : i = k
      · subst e2; exact cmpI_zero.1 h
      · exact lexK_same e i (by omega)
    · rw [if_pos e] at h; exact absurd h e
theorem acmp_cm : Cm acmp := Cm.lex (cmpI_cm.on Ac.set) (lexK_cm Ac.val 9)
/-- Numbers behind a field's are 0: so an act is told by its cells. -/
def Ac.Nz (a : Ac) : Prop := ∀ k, 9 ≤ k → a.val k = 0
def Mt.Nz (m : Mt) : Prop := ∀ k, 9 ≤ k → m.val k = 0 ∧ m.mask k = 0
theorem Ac.ext' {a b : Ac} (ha : a.Nz) (hb : b.Nz) (h1 : a.set = b.set) (h2 : ∀ k, k < 9 → a.val k = b.val k) : a = b := by
  cases a; cases b
  dsimp only at h1 h2
  subst h1
  congr 1
  funext k
  by_cases hk : k < 9
  · exact h2 k hk
  · exact (ha k (by omega)).trans (hb k (by omega)).symm
theorem acmp_same {a b : Ac} (ha : a.Nz) (hb : b.Nz) (h : acmp a b = 0) : a = b := by
  unfold acmp at h
  split at h
  · rename_i q; exact absurd h q
  · rename_i q; exact Ac.ext' ha hb (cmpI_zero.1 (by omega)) (lexK_same h)
/-- The order of matches: field by field, the mask first. -/
def mcmpK (m n : Mt) : Nat → Int
  | 0 => 0
  | k + 1 => if mcmpK m n k ≠ 0 then mcmpK m n k else (if cmpI (m.mask k) (n.mask k) ≠ 0 then cmpI (m.mask k) (n.mask k) else cmpI (m.val k) (n.val k))
/-! ### Rules -/
structure RuD where
  m : Mt
  acts : List Ac
structure RuL where
  m : Mt
  ad : Option Addr
  c : Nat
  acts : List Ac
def RuL.d (r : RuL) : RuD := ⟨r.m, r.acts⟩
def RuL.ru (r : RuL) : Ru := ⟨r.m, r.ad, r.acts.length, r.c⟩
def RuL.cells (r : RuL) : List Value := ruL r.ru
theorem RuL.len (r : RuL) : r.cells.length = 19 := ruL_len _
abbrev actsL (xs : List Ac) : List Value := encL acL xs
abbrev rulesL (rs : List RuL) : List Value := encL RuL.cells rs
theorem acL_len (a : Ac) : (acL a).length = 10 := by show (_ :: ucs a.val 9).length = 10; rw [List.length_cons, ucs_len]
theorem actsL_len (xs : List Ac) : (actsL xs).length = xs.length * 10 := encL_len acL_len xs
theorem rulesL_len (rs : List RuL) : (rulesL rs).length = rs.length * 19 := encL_len RuL.len rs
theorem encL_append {α : Type} (enc : α → List Value) : ∀ xs ys : List α, encL enc (xs ++ ys) = encL enc xs ++ encL enc ys
  | [], _ => rfl
  | x :: xs, ys => by show enc x ++ encL enc (xs ++ ys) = (enc x ++ encL enc xs) ++ encL enc ys; rw [encL_append enc xs ys, List.append_assoc]
theorem encL_snoc {α : Type} (enc : α → List Value) (xs : List α) (x : α) : encL enc (xs ++ [x]) = encL enc xs ++ enc x := by rw [encL_append]; show _ ++ (enc x ++ []) = _; rw [List.append_nil]
/-- Cells that can be read, from so far on. -/
def Rg (w : World) (ad : Option Addr) (cs : List Value) : Prop := cs ≠ [] → ∃ b o, ad = some ⟨b, o, none⟩ ∧ w.rangeAt b o cs
theorem Rg.seg {w : World} {b o : Nat} {α : Type} {enc : α → List Value} {k : Nat} (hk : ∀ x, (enc x).length = k) {xs : List α} {i : Nat} {x : α} (h : w.rangeAt b o (encL enc xs)) (hx : xs[i]? = some x) : w.rangeAt b (o + i * k) (enc x) := fun j v hj => by
  have := encL_seg hk xs i x hx
  rw [← this] at hj
  rw [List.getElem?_take] at hj
  split at hj
  · rw [List.getElem?_drop] at hj
    have := h _ _ hj
    rwa [Nat.add_assoc]
  · cases hj
theorem Rg.frm {q : Nat → Prop} {w w' : World} {ad : Option Addr} {cs : List Value} (hF : Frm q w w') (h : Rg w ad cs) (hq : ∀ b o, ad = some ⟨b, o, none⟩ → ¬ q b) : Rg w' ad cs := fun hn => by
  obtain ⟨b, o, e, hr⟩ := h hn
  exact ⟨b, o, e, rgIn (p := q) (L := []) (hq b o e) hr w' ⟨hF, (fun _ h => by cases h), (by simp), (fun _ h => by cases h)⟩⟩
def actErr (xs : List Ac) : Int := if xs.length > 64 then 34 else if ∀ a ∈ xs, a.Ok then 0 else 1
def Mt.Okk (m : Mt) : Prop := ∀ k, k < 9 → mtOk k (m.val k) (m.mask k)
instance (m : Mt) : Decidable m.Okk := by unfold Mt.Okk; infer_instance
def RuD.err (r : RuD) : Int := if r.m.Okk then actErr r.acts else 1
/-- The first error. -/
def errs {α : Type} (f : α → Int) : List α → Int
  | [] => 0
  | x :: xs => if f x ≠ 0 then f x else errs f xs
theorem errs_zero {α : Type} {f : α → Int} : ∀ {xs : List α}, errs f xs = 0 ↔ ∀ x ∈ xs, f x = 0
  | [] => ⟨fun _ _ h => (by cases h), fun _ => rfl⟩
  | x :: xs => by
    show (if f x ≠ 0 then f x else errs f xs) = 0 ↔ _
    by_cases h : f x = 0
    · rw [if_neg (fun q => q h), errs_zero]
      exact ⟨fun k y hy => (by rcases List.mem_cons.1 hy with e | hy; (rw [e]; exact h); exact k y hy), fun k y hy => k y (List.mem_cons_of_mem _ hy)⟩
    · rw [if_pos h]
      exact ⟨fun k => absurd k h, fun k => k x (List.mem_cons_self ..)⟩
/-! ### Entries -/
structure EnD where
  prio : Int
  mark : Int
  r : RuD
structure EnL where
  prio : Int
  mark : Int
  r : RuL
def EnL.d (e : EnL) : EnD := ⟨e.prio, e.mark, e.r.d⟩
def EnL.cells (e : EnL) : List Value := .int .i64 e.prio :: .int .i64 e.mark :: e.r.cells
structure RuD.In (r : RuD) : Prop where
  m : r.m.In
  nz : r.m.Nz
  act : ∀ a ∈ r.acts, a.In ∧ a.Nz
structure EnD.In (e : EnD) : Prop where
  prio : -9223372036854775808 ≤ e.prio ∧ e.prio ≤ 9223372036854775807
  mark : -9223372036854775808 ≤ e.mark ∧ e.mark ≤ 9223372036854775807
  r : e.r.In
def EnD.err (e : EnD) : Int := if 0 ≤ e.prio ∧ e.prio ≤ 1073741824 then e.r.err else 1
/-- The order of entries. -/
def ordE (a b : EnD) : Int := if cmpI b.prio a.prio ≠ 0 then cmpI b.prio a.prio else mcmpK a.r.m b.r.m 9
/-- Acts in order, each once. -/
def NormP (xs ys : List Ac) : Prop := ys.Pairwise (fun a b => acmp a b < 0) ∧ ∀ x, x ∈ ys ↔ x ∈ xs
theorem NormP.one {xs ys zs : List Ac} (h1 : NormP xs ys) (h2 : NormP xs zs) : ys = zs := strict_only acmp_cm ys zs h1.1 h2.1 fun x => (h1.2 x).trans (h2.2 x).symm
end Go.Proofs.YtmhahajadgkolaaGreatDoor
/- match.Check, match.Cmp; rules.List.Check of one rule; an entry's check; the order of entries. -/
namespace Go.Proofs.YtmhahajadgkolaaGreatDoor
open Go.RowKit

theorem splice_all {cs new : List Value} (h : new.length = cs.length) : splice cs 0 new = new := by
  rw [splice_eq _ _ _ (by omega), List.take_zero, List.nil_append, List.drop_eq_nil_of_le (by omega), List.append_nil]
theorem ruC_acts (r : RuL) : r.cells[18]? = some (.slice r.ad r.acts.length r.c) := ruL_acts _
end Go.Proofs.YtmhahajadgkolaaGreatDoor
/- slices.Clone, slices.Compact of rules.Act (printed by gen/slc.py). -/
namespace Go.Proofs.YtmhahajadgkolaaGreatDoor
open Go.RowKit

set_option maxHeartbeats 1000000 in
theorem CloneAc_c (w : World) (ad : Option Addr) (c : Nat) (xs : List Ac) (hr : Rg w ad (encL acL xs)) (hone : (encL acL xs).all one = true) (hn : xs.length ≤ 100000) :
    Calls Tryz.prog 247 #[.slice ad xs.length c] w fun e w' => ∃ ad' c' E, e = .returned (.slice ad' xs.length c') ∧ Vec 10 ad' xs.length c' (encL acL xs) E ∧ St (fun _ => False) w w' E := by
  cases ad with
  | none =>
    obtain rfl : xs = [] := Classical.byContradiction fun h => by
      obtain ⟨b, o, e, _⟩ := hr (fun hn => h (List.length_eq_zero_iff.1 (by have := encL_len acL_len xs; rw [hn] at this; simp at this; omega)))
      cases e
    refine enter Tryz.func247 rfl Tryz.ntmps247 rfl (St.start (fun _ => False) w) ?_
    refine WC.seq <| WC.region <| WL.v (v_assign rfl rfl) rfl <| WL.nt <| WC.seq <| WC.seq <| WC.region <| WL.v (v_move rfl rfl) rfl <| WL.v (v_eql_nil true rfl rfl Tryz.underlying221 rfl) rfl <| WL.nt <| WC.cond_t rfl <| WC.seq <| WC.region <| WL.v (v_assign rfl rfl) rfl <| ?_
    refine WL.nt <| WC.ret <| WE.then_ret <| WE.ret1 (P := Tryz.prog) (.inl rfl) Tryz.results247 rfl <| ?_
    exact fun w' h => ⟨none, 0, [], rfl, Vec.nil 10, h⟩
  | some a =>
    have hl := encL_len acL_len xs
    refine enter Tryz.func247 rfl Tryz.ntmps247 rfl (St.start (fun _ => False) w) ?_
    refine WC.seq <| WC.region <| WL.v (v_assign rfl rfl) rfl <| WL.nt <| WC.seq <| WC.seq <| WC.region <| WL.v (v_move rfl rfl) rfl <| WL.v (v_eql_nil false rfl rfl Tryz.underlying221 rfl) rfl <| WL.nt <| WC.cond_f rfl <| WC.skip <| WE.then_n <| WC.seq <| ?_
    refine WC.region ?_
    refine WL.buildSlice rfl rfl Tryz.underlying221 sz_225 zero_225 rfl (by decide) rfl (.none rfl) rfl rfl ?_
    intro g5 hg5
    refine WL.v (v_move rfl rfl) rfl ?_
    refine WL.appendL rfl rfl rfl Tryz.underlying221 Tryz.underlying221 sz_225 by_225 zero_225 rfl rfl (E := [.row g5 []]) (Vec.row (k := 0) (s := 10) (c := 0) rfl rfl (by omega)) (new := encL acL xs) (fun h => by obtain ⟨b', o', e', hr'⟩ := hr (fun hn => by rw [hn] at hl; simp at hl; omega); exact ⟨b', o', e', rgIn (fun h => h) hr'⟩) hl hone (by omega) (.none rfl) rfl rfl ?_
    intro ad7 c7 E7 hV7 hr7
    refine WL.v (v_assign rfl rfl) rfl <| WL.nt <| WC.ret <| WE.ret1 (P := Tryz.prog) (.inl rfl) Tryz.results247 rfl <| ?_
    exact fun w' h => ⟨ad7, c7, E7, by rw [Nat.zero_add], by simpa using hV7, h.sub (List.sublist_append_left _ _)⟩
structure CsAc where
  k : Nat
  j : Nat
  ys : List Ac
set_option maxHeartbeats 4000000 in
theorem CompactAc_c (p : Nat → Prop) (w0 w : World) (L E : List Ent) (ad : Option Addr) (c : Nat) (xs : List Ac) (eq : Ac → Ac → Bool) (heq : ∀ x y, eq x y = true ↔ acL x = acL y) (hV : Vec 10 ad xs.length c (encL acL xs) E) (hS : St p w0 w (E ++ L)) (hn : xs.length ≤ 100000) :
    Calls Tryz.prog 250 #[.slice ad xs.length c] w fun e w' => ∃ E', e = .returned (.slice ad (uniq eq xs).length c) ∧ Vec 10 ad (uniq eq xs).length c (encL acL (uniq eq xs)) E' ∧ St p w0 w' (E' ++ L) := by
  by_cases h2 : xs.length < 2
  · have e0 : uniq eq xs = xs := (match xs, h2 with | [], _ => rfl | [x], _ => rfl | _ :: _ :: _, h => absurd h (by simp))
    rw [e0]
    refine enter Tryz.func250 rfl Tryz.ntmps250 rfl hS ?_
    refine WC.seq <| WC.region <| WL.v (v_assign rfl rfl) rfl <| WL.nt <| WC.seq <| WC.seq <| WC.region <| WL.v (v_move rfl rfl) rfl <| WL.v (v_len_slice rfl rfl Tryz.underlying221) rfl <| ?_
    refine WL.v ((v_lss rfl rfl rfl).t (by omega)) rfl ?_
    refine WL.nt <| WC.cond_t rfl <| WC.seq <| WC.region <| WL.v (v_move rfl rfl) rfl <| WL.v (v_assign rfl rfl) rfl <| WL.nt <| WC.ret <| WE.then_ret <| WE.ret1 (P := Tryz.prog) (.inl rfl) Tryz.results250 rfl <| ?_
    exact fun w' h => ⟨E, rfl, hV, h⟩
  have hlen := @acL_len
  obtain ⟨g, R, rfl, rfl, hcl, hcap⟩ := hV.split (fun e => h2 (by rw [e]; exact Nat.zero_lt_two))
  have hel := encL_len hlen xs
  rw [List.length_append, hel] at hcl
  refine enter Tryz.func250 rfl Tryz.ntmps250 rfl hS ?_
  refine WC.seq <| WC.region <| WL.v (v_assign rfl rfl) rfl <| WL.nt <| WC.seq <| WC.seq <| WC.region <| WL.v (v_move rfl rfl) rfl <| WL.v (v_len_slice rfl rfl Tryz.underlying221) rfl <| ?_
  refine WL.v ((v_lss rfl rfl rfl).f (by omega)) rfl ?_
  refine WL.nt <| WC.cond_f rfl <| WC.skip <| WE.then_n <| WC.seq <| WC.seq <| WC.region <| WL.v (v_assign rfl rfl) rfl <| WL.nt <| WC.block <| ?_
  refine WC.loop (fun k : Nat => [(3, .int .i64 k), (0, .slice (some ⟨g, 0, none⟩) xs.length c)]) (fun _ => .row g (encL acL xs ++ R) :: L) (fun k => 1 ≤ k ∧ k ≤ xs.length ∧ uniq eq (xs.take k) = xs.take k) (fun k => xs.length - k) 1 ⟨Nat.le_refl _, by omega, by match xs, h2 with | x :: l, _ => rfl⟩ (.cons rfl (.cons rfl .nil)) (.refl _) ?_
  rintro k ⟨hk1, hk, hu⟩
  refine WC.seq <| WC.seq <| WC.region <| WL.v (v_move rfl rfl) rfl <| WL.v (v_move rfl rfl) rfl <| WL.v (v_len_slice rfl rfl Tryz.underlying221) rfl <| ?_
  refine WL.test (v_lss rfl rfl rfl) (.none rfl) rfl rfl (fun h13 => ?_) (fun h13 => ?_)
  ·
   refine WL.nt <| WC.cond_t rfl <| WC.skip <| WE.then_n <| WC.seq <| WC.block <| WC.seq <| ?_
   refine WC.quiet mixed (by kernel_rfl) ?_
   refine WQ.val (v_move rfl rfl) (.none rfl) rfl rfl <| WQ.val (v_move rfl rfl) (.none rfl) rfl rfl <| ?_
   obtain ⟨m, rfl⟩ : ∃ m, k = m + 1 := ⟨k - 1, by omega⟩
   obtain ⟨a, ha⟩ : ∃ a, xs[m]? = some a := ⟨xs[m]'(by omega), List.getElem?_eq_getElem _⟩
   obtain ⟨b, hb⟩ : ∃ b, xs[m + 1]? = some b := ⟨xs[m + 1]'(by omega), List.getElem?_eq_getElem _⟩
   obtain ⟨b25, hb25⟩ : ∃ q, q = eq b a := ⟨_, rfl⟩
   have hbe : b25 = true ↔ acL b = acL a := (by rw [hb25]; exact heq b a)
   have hut := uniq_take (eq := eq) ha hb
   have htk : xs.take (m + 1) ++ [b] = xs.take (m + 2) := (by rw [show m + 2 = (m + 1) + 1 from rfl, List.take_succ_eq_append_getElem (show m + 1 < xs.length by omega)]; exact congrArg (fun z => xs.take (m + 1) ++ [z]) (Option.some.inj (hb.symm.trans (List.getElem?_eq_getElem _))))
   refine WQ.val (v_indexAddr (lo := m + 1) rfl rfl rfl Tryz.underlying221 sz_225 (by omega) (by omega)) (.none rfl) rfl rfl ?_
   refine WQ.val (v_loadN (cs := acL b) rfl rfl many_225 (acL_len b) (segAt (m := 10) (by rw [Nat.zero_add]; exact encL_at hlen hb))) (.none rfl) rfl rfl ?_
   refine WQ.val (v_move rfl rfl) (.none rfl) rfl rfl <| WQ.val (v_move rfl rfl) (.none rfl) rfl rfl <| ?_
   refine WQ.val (v_sub rfl rfl rfl (w_i64 (by omega) (by omega))) (.none rfl) rfl rfl ?_
   refine WQ.val (v_indexAddr (lo := m) rfl rfl rfl Tryz.underlying221 sz_225 (by omega) (by omega)) (.none rfl) rfl rfl ?_
   refine WQ.val (v_loadN (cs := acL a) rfl rfl many_225 (acL_len a) (segAt (m := 10) (by rw [Nat.zero_add]; exact encL_at hlen ha))) (.none rfl) rfl rfl ?_
   refine WQ.val (v_eql_aggD (b := b25) rfl rfl rfl eqk_225 eqg_225 rfl rfl hbe) (.none rfl) rfl rfl ?_
   cases b25
   ·
    refine WQ.nil <| WE.then_n <| WC.cond_f rfl <| WC.skip <| WE.block_n <| WE.then_n <| WC.region <| WL.v (v_move rfl rfl) rfl <| ?_
    refine WL.v (v_add rfl rfl rfl (w_i64 (by omega) (by omega))) rfl ?_
    refine WL.v (v_assign rfl rfl) rfl <| WL.nil <| ?_
    exact WE.next (m + 2) (by omega) ⟨by omega, by omega, by rw [hut, ← hb25, if_neg (by decide), hu]; exact htk⟩ (.int rfl (by omega) (.cons rfl .nil)) (.refl _)
   ·
    refine WQ.nil <| WE.then_n <| WC.cond_t rfl <| WC.seq <| WC.region <| WL.v (v_move rfl rfl) rfl <| WL.v (v_move rfl rfl) rfl <| ?_
    refine WL.v (v_slice_loS (lo := m + 1) rfl rfl rfl Tryz.underlying221 sz_225 (by omega) (by omega) (by omega)) rfl ?_
    refine WL.v (v_assign rfl rfl) rfl <| WL.nt <| WC.seq <| WC.seq <| WC.region <| WL.v (v_assign rfl rfl) rfl <| WL.nt <| WC.block <| ?_
    refine WC.loop (fun x : CsAc => [(3, .int .i64 x.k), (5, .int .i64 x.j), (4, .slice (some ⟨g, 0 + (m + 1) * 10, none⟩) (xs.length - (m + 1)) (c - (m + 1))), (0, .slice (some ⟨g, 0, none⟩) xs.length c)]) (fun x => .row g (encL acL x.ys ++ R) :: L) (fun x => x.ys.length = xs.length ∧ 1 ≤ x.j ∧ m + 1 + x.j ≤ xs.length ∧ x.k ≤ m + x.j ∧ x.ys.take x.k = uniq eq (xs.take (m + 1 + x.j)) ∧ ∀ i, m + x.j ≤ i → x.ys[i]? = xs[i]?) (fun x => xs.length - x.j) ⟨m + 1, 1, xs⟩ ⟨rfl, Nat.le_refl _, by dsimp only; omega, Nat.le_refl _, by dsimp only; rw [show m + 1 + 1 = m + 2 from rfl, hut, ← hb25, if_pos rfl, hu, List.append_nil], fun i _ => rfl⟩ (.int rfl (by first | rfl | (dsimp only; omega)) (.int rfl rfl (.cons rfl (.cons rfl .nil)))) (.refl _) ?_
    rintro ⟨k, j, ys⟩ ⟨hyl, hj1, hj, hkj, hut', hys⟩
    dsimp only at hyl hj1 hj hkj hut' hys
    dsimp only
    refine WC.seq <| WC.seq <| WC.region <| WL.v (v_move rfl rfl) rfl <| WL.v (v_move rfl rfl) rfl <| WL.v (v_len_slice rfl rfl Tryz.underlying221) rfl <| ?_
    refine WL.test (v_lss rfl rfl rfl) (.none rfl) rfl rfl (fun h32 => ?_) (fun h32 => ?_)
    ·
     refine WL.nt <| WC.cond_t rfl <| WC.skip <| WE.then_n <| WC.seq <| WC.block <| WC.seq <| ?_
     refine WC.quiet mixed (by kernel_rfl) ?_
     refine WQ.val (v_move rfl rfl) (.none rfl) rfl rfl <| WQ.val (v_move rfl rfl) (.none rfl) rfl rfl <| ?_
     obtain ⟨i, rfl⟩ : ∃ i, j = i + 1 := ⟨j - 1, by omega⟩
     obtain ⟨a', ha'⟩ : ∃ a, xs[m + 1 + i]? = some a := ⟨xs[m + 1 + i]'(by omega), List.getElem?_eq_getElem _⟩
     obtain ⟨b', hb'⟩ : ∃ b, xs[m + 1 + i + 1]? = some b := ⟨xs[m + 1 + i + 1]'(by omega), List.getElem?_eq_getElem _⟩
     obtain ⟨b44, hb44⟩ : ∃ q, q = !eq b' a' := ⟨_, rfl⟩
     have hbe' : b44 = true ↔ ¬ acL b' = acL a' := (by rw [hb44, ← heq]; simp)
     have hb44' : eq b' a' = !b44 := (by rw [hb44]; simp)
     have hut2 := uniq_take (eq := eq) ha' hb'
     have ya : ys[m + 1 + i]? = some a' := (by rw [hys _ (by omega)]; exact ha')
     have yb : ys[m + 1 + i + 1]? = some b' := (by rw [hys _ (by omega)]; exact hb')
     refine WQ.val (v_indexAddr (lo := i + 1) rfl rfl rfl Tryz.underlying221 sz_225 (by omega) (by omega)) (.none rfl) rfl rfl ?_
     refine WQ.val (v_loadN (cs := acL b') rfl rfl many_225 (acL_len b') (segAt (m := 10) (by rw [show 0 + (m + 1) * 10 + (i + 1) * 10 = (m + 1 + i + 1) * 10 by omega]; exact encL_at hlen yb))) (.none rfl) rfl rfl ?_
     refine WQ.val (v_move rfl rfl) (.none rfl) rfl rfl <| WQ.val (v_move rfl rfl) (.none rfl) rfl rfl <| ?_
     refine WQ.val (v_sub rfl rfl rfl (w_i64 (by omega) (by omega))) (.none rfl) rfl rfl ?_
     refine WQ.val (v_indexAddr (lo := i) rfl rfl rfl Tryz.underlying221 sz_225 (by omega) (by omega)) (.none rfl) rfl rfl ?_
     refine WQ.val (v_loadN (cs := acL a') rfl rfl many_225 (acL_len a') (segAt (m := 10) (by rw [show 0 + (m + 1) * 10 + i * 10 = (m + 1 + i) * 10 by omega]; exact encL_at hlen ya))) (.none rfl) rfl rfl ?_
     refine WQ.val (v_neq_aggE (b := b44) rfl rfl rfl eqk_225 eqg_225 rfl rfl hbe') (.none rfl) rfl rfl ?_
     cases b44
     ·
      refine WQ.nil <| WE.then_n <| WC.cond_f rfl <| WC.skip <| WE.block_n <| WE.then_n <| WC.region <| WL.v (v_move rfl rfl) rfl <| ?_
      refine WL.v (v_add rfl rfl rfl (w_i64 (by omega) (by omega))) rfl ?_
      refine WL.v (v_assign rfl rfl) rfl <| WL.nil <| ?_
      exact WE.next ⟨k, i + 2, ys⟩ (by dsimp only; omega) ⟨hyl, by dsimp only; omega, by dsimp only; omega, by dsimp only; omega, by
      dsimp only
      rw [show m + 1 + (i + 2) = m + 1 + i + 2 by omega, hut2, hb44', if_pos (show (!false) = true from rfl), List.append_nil, show m + 1 + i + 1 = m + 1 + (i + 1) by omega]; exact hut', fun q hq => by dsimp only at hq ⊢; exact hys q (by omega)⟩ (.int rfl rfl (.int rfl (by dsimp only; omega) (.cons rfl (.cons rfl .nil)))) (.refl _)
     ·
      refine WQ.nil <| WE.then_n <| WC.cond_t rfl <| WC.seq <| WC.region <| WL.v (v_move rfl rfl) rfl <| WL.v (v_move rfl rfl) rfl <| WL.v (v_move rfl rfl) rfl <| WL.v (v_move rfl rfl) rfl <| ?_
      refine WL.v (v_indexAddr (lo := i + 1) rfl rfl rfl Tryz.underlying221 sz_225 (by omega) (by omega)) rfl ?_
      refine WL.v (v_loadN (cs := acL b') rfl rfl many_225 (acL_len b') (segAt (m := 10) (by rw [show 0 + (m + 1) * 10 + (i + 1) * 10 = (m + 1 + i + 1) * 10 by omega]; exact encL_at hlen yb))) rfl ?_
      refine WL.v (v_indexAddr (lo := k) rfl rfl rfl Tryz.underlying221 sz_225 (by omega) (by omega)) rfl ?_
      refine WL.storeN rfl rfl rfl rfl many_225 rfl (by rw [List.length_append, encL_len hlen, hyl]; omega) (.none rfl) rfl ?_
      refine WL.as (L' := .row g (encL acL (ys.set k b') ++ R) :: L) (by rw [Nat.zero_add, encL_set hlen ys k b' R (by omega)]) ?_
      refine WL.nt <| WC.region <| WL.v (v_move rfl rfl) rfl <| ?_
      refine WL.v (v_add rfl rfl rfl (w_i64 (by omega) (by omega))) rfl ?_
      refine WL.v (v_assign rfl rfl) rfl <| WL.nil <| WE.block_n <| WE.then_n <| WC.region <| WL.v (v_move rfl rfl) rfl <| ?_
      refine WL.v (v_add rfl rfl rfl (w_i64 (by omega) (by omega))) rfl ?_
      refine WL.v (v_assign rfl rfl) rfl <| WL.nil <| ?_
      exact WE.next ⟨k + 1, i + 2, ys.set k b'⟩ (by dsimp only; omega) ⟨by dsimp only; rw [List.length_set]; exact hyl, by dsimp only; omega, by dsimp only; omega, by dsimp only; omega, by
      dsimp only
      rw [show m + 1 + (i + 2) = m + 1 + i + 2 by omega, hut2, hb44', if_neg (show ¬ (!true) = true by decide), show m + 1 + i + 1 = m + 1 + (i + 1) by omega, ← hut', List.take_succ_eq_append_getElem (by rw [List.length_set]; omega), List.take_set_of_le (Nat.le_refl _), List.getElem_set_self], fun q hq => by dsimp only at hq ⊢; rw [List.getElem?_set_ne (by omega)]; exact hys q (by omega)⟩ (.int rfl (by dsimp only; omega) (.int rfl (by dsimp only; omega) (.cons rfl (.cons rfl .nil)))) (.refl _)
    ·
     refine WL.nt <| WC.cond_f rfl <| WC.exit <| WE.then_exit <| WE.then_exit <| WE.block_hit <| WE.then_n <| WC.seq <| WC.region <| WL.v (v_move rfl rfl) rfl <| WL.v (v_move rfl rfl) rfl <| ?_
     refine WL.v (v_slice_loS (lo := k) rfl rfl rfl Tryz.underlying221 sz_225 (by omega) (by omega) (by omega)) rfl ?_
     refine WL.clear (s := 10) rfl rfl Tryz.underlying221 zero_225 rfl rfl (by rw [List.length_append, encL_len hlen, hyl]; omega) (.none rfl) rfl ?_
     refine WL.nt <| WC.seq <| WC.region <| WL.v (v_move rfl rfl) rfl <| WL.v (v_move rfl rfl) rfl <| ?_
     refine WL.v (v_slice_hi (hi := k) rfl rfl rfl Tryz.underlying221 sz_225 (by omega) (by omega)) rfl ?_
     refine WL.v (v_assign rfl rfl) rfl <| WL.nt <| WC.ret <| WE.block_ret <| WE.then_ret <| WE.then_ret <| WE.block_ret <| WE.then_ret <| WE.ret1 (P := Tryz.prog) (.inl rfl) Tryz.results250 rfl <| ?_
     obtain rfl : j = xs.length - (m + 1) := (by omega)
     have e1 : uniq eq xs = ys.take k := (by rw [hut', show m + 1 + (xs.length - (m + 1)) = xs.length by omega, List.take_length])
     have e2 : (uniq eq xs).length = k := (by rw [e1, List.length_take]; omega)
     refine fun w' h => ⟨[.row g _], by rw [e2], ?_, h⟩
     rw [e2, e1]
     refine Vec.row ?_ ?_ (by omega)
     · rw [Nat.zero_add, splice_take (by rw [zrs_len, List.length_append, encL_len hlen, hyl]; show _ + (xs.length - k) * 10 ≤ _; omega)]
       exact encL_take hlen ys k R (by omega)
     · rw [splice_length _ _ _ (by rw [zrs_len, List.length_append, encL_len hlen, hyl]; show _ + (xs.length - k) * 10 ≤ _; omega), List.length_append, encL_len hlen, hyl]
       exact hcl
  ·
   refine WL.nt <| WC.cond_f rfl <| WC.exit <| WE.then_exit <| WE.then_exit <| WE.block_hit <| WE.then_n <| WC.seq <| WC.region <| WL.v (v_move rfl rfl) rfl <| WL.v (v_assign rfl rfl) rfl <| WL.nt <| WC.ret <| WE.ret1 (P := Tryz.prog) (.inl rfl) Tryz.results250 rfl <| ?_
   have e1 : uniq eq xs = xs := (by have := hu; rwa [show k = xs.length by omega, List.take_length] at this)
   rw [e1]
   exact fun w' h => ⟨_, rfl, Vec.row (by rw [encL_take hlen xs xs.length R (Nat.le_refl _), List.take_length]) (by rw [List.length_append, hel]; exact hcl) hcap, h⟩
end Go.Proofs.YtmhahajadgkolaaGreatDoor
/- The kit's laying SlLaysF0.n6 at this seat's functions. Printed by wip/tools/lays.py. -/
namespace Go.Proofs.YtmhahajadgkolaaGreatDoor
open Go.RowKit Go.Shelf

def ren248 : Ren := ⟨fun n => match n with | 6 => 248 | 14 => 317 | 15 => 125 | 20 => 349 | 21 => 350 | 22 => 351 | 23 => 352 | 24 => 353 | 25 => 354 | 26 => 355 | 27 => 356 | 28 => 220 | 29 => 221 | 46 => 365 | 47 => 283 | 48 => 284 | 49 => 366 | 50 => 367 | 57 => 372 | n => n, fun n => match n with | 0 => 0 | 3 => 3 | 4 => 4 | 5 => 5 | 9 => 9 | 22 => 221 | 24 => 225 | 25 => 377 | 39 => 182 | 45 => 354 | 46 => 355 | 50 => 119 | 53 => 29 | 55 => 23 | 66 => 424 | 70 => 428 | 76 => 467 | 77 => 202 | n => n, fun n => n⟩
set_option maxRecDepth 100000 in
theorem lays248 : SlLaysF0.n6 Tryz.prog ren248 where
  mixed := mixed
  f6 := ⟨Tryz.f248.name, by decide, Tryz.func248.trans (congrArg some (by kernel_rfl))⟩
  f14 := ⟨Tryz.f317.name, by decide, Tryz.func317.trans (congrArg some (by kernel_rfl))⟩
  f15 := Tryz.func125.trans (congrArg some (by kernel_rfl))
  f20 := ⟨Tryz.f349.name, by decide, Tryz.func349.trans (congrArg some (by kernel_rfl))⟩
  f21 := ⟨Tryz.f350.name, by decide, Tryz.func350.trans (congrArg some (by kernel_rfl))⟩
  f22 := ⟨Tryz.f351.name, by decide, Tryz.func351.trans (congrArg some (by kernel_rfl))⟩
  f23 := ⟨Tryz.f352.name, by decide, Tryz.func352.trans (congrArg some (by kernel_rfl))⟩
  f24 := ⟨Tryz.f353.name, by decide, Tryz.func353.trans (congrArg some (by kernel_rfl))⟩
  f25 := ⟨Tryz.f354.name, by decide, Tryz.func354.trans (congrArg some (by kernel_rfl))⟩
  f26 := ⟨Tryz.f355.name, by decide, Tryz.func355.trans (congrArg some (by kernel_rfl))⟩
  f27 := ⟨Tryz.f356.name, by decide, Tryz.func356.trans (congrArg some (by kernel_rfl))⟩
  f28 := Tryz.func220.trans (congrArg some (by kernel_rfl))
  f29 := Tryz.func221.trans (congrArg some (by kernel_rfl))
  f46 := ⟨Tryz.f365.name, by decide, Tryz.func365.trans (congrArg some (by kernel_rfl))⟩
  f47 := Tryz.func283.trans (congrArg some (by kernel_rfl))
  f48 := Tryz.func284.trans (congrArg some (by kernel_rfl))
  f49 := ⟨Tryz.f366.name, by decide, Tryz.func366.trans (congrArg some (by kernel_rfl))⟩
  f50 := ⟨Tryz.f367.name, by decide, Tryz.func367.trans (congrArg some (by kernel_rfl))⟩
  f57 := ⟨Tryz.f372.name, by decide, Tryz.func372.trans (congrArg some (by kernel_rfl))⟩
  t0 := Tryz.underlying0
  a0 := Tryz.isAgg0
  z0 := Tryz.sizeOf0
  v0 := Tryz.zeroValue0
  t3 := Tryz.underlying3
  a3 := Tryz.isAgg3
  z3 := Tryz.sizeOf3
  v3 := Tryz.zeroValue3
  t4 := Tryz.underlying4
  a4 := Tryz.isAgg4
  z4 := Tryz.sizeOf4
  v4 := Tryz.zeroValue4
  t5 := Tryz.underlying5
  a5 := Tryz.isAgg5
  z5 := Tryz.sizeOf5
  v5 := Tryz.zeroValue5
  t9 := Tryz.underlying9
  a9 := Tryz.isAgg9
  z9 := Tryz.sizeOf9
  v9 := Tryz.zeroValue9
  t22 := Tryz.underlying221
  a22 := Tryz.isAgg221
  z22 := Tryz.sizeOf221
  v22 := Tryz.zeroValue221
  t25 := Tryz.underlying377
  a25 := Tryz.isAgg377
  z25 := Tryz.sizeOf377
  v25 := Tryz.zeroValue377
  t39 := Tryz.underlying182
  a39 := Tryz.isAgg182
  z39 := Tryz.sizeOf182
  v39 := Tryz.zeroValue182
  t45 := Tryz.underlying354
  a45 := Tryz.isAgg354
  z45 := Tryz.sizeOf354
  v45 := Tryz.zeroValue354
  t46 := Tryz.underlying355
  a46 := Tryz.isAgg355
  z46 := Tryz.sizeOf355
  v46 := Tryz.zeroValue355
  t50 := Tryz.underlying119
  a50 := Tryz.isAgg119
  z50 := Tryz.sizeOf119
  v50 := Tryz.zeroValue119
  t53 := Tryz.underlying29
  a53 := Tryz.isAgg29
  z53 := Tryz.sizeOf29
  v53 := Tryz.zeroValue29
  t55 := Tryz.underlying23
  a55 := Tryz.isAgg23
  z55 := Tryz.sizeOf23
  v55 := Tryz.zeroValue23
  t66 := Tryz.underlying424
  a66 := Tryz.isAgg424
  z66 := Tryz.sizeOf424
  v66 := Tryz.zeroValue424
  t70 := Tryz.underlying428
  a70 := Tryz.isAgg428
  z70 := Tryz.sizeOf428
  v70 := Tryz.zeroValue428
  t76 := Tryz.underlying467
  a76 := Tryz.isAgg467
  z76 := Tryz.sizeOf467
  v76 := Tryz.zeroValue467
  t77 := Tryz.underlying202
  a77 := Tryz.isAgg202
  z77 := Tryz.sizeOf202
  v77 := Tryz.zeroValue202
end Go.Proofs.YtmhahajadgkolaaGreatDoor
/- rules.Norm: acts in order, each once. -/
namespace Go.Proofs.YtmhahajadgkolaaGreatDoor
open Go.RowKit Go.Sort

theorem swo_of {α : Type} {c : α → α → Int} (h : Cm c) : Go.Sort.SWO (ltOf c) := by
  constructor
  · intro x; unfold ltOf; exact decide_eq_false (by have := h.refl x; omega)
  · intro x y z h1 h2; unfold ltOf at *; have a := of_decide_eq_true h1; have b := of_decide_eq_true h2; exact decide_eq_true (h.lt_le a (by omega))
  · intro x y z h1 h2
    unfold ltOf at *
    have a := of_decide_eq_false h1; have b := of_decide_eq_false h2
    refine decide_eq_false fun k => ?_
    have s1 := h.sgn x y; have s2 := h.sgn y x; have s3 := h.sgn z y; have s4 := h.sgn y z; have s5 := h.sgn x z; have s6 := h.sgn z x
    have t1 : c y x ≤ 0 := by omega
    have t2 : c z y ≤ 0 := by omega
    have := h.tr z y x t2 t1
    omega
theorem asc_le {α : Type} {c : α → α → Int} (h : Cm c) {ys : List α} (ha : AscBy c ys) : ys.Pairwise fun a b => c a b ≤ 0 := by
  rw [List.pairwise_iff_getElem]
  intro i j hi hj hij
  have := ha i j _ _ (List.getElem?_eq_getElem hi) (List.getElem?_eq_getElem hj) hij
  have s := h.sgn ys[i] ys[j]
  omega
instance : Inhabited Ac := ⟨⟨0, fun _ => 0⟩⟩
theorem acL_one (a : Ac) : ∀ v ∈ acL a, v.oneCell' = true := fun v hv => by
  rcases List.mem_cons.1 hv with rfl | hv
  · rfl
  · obtain ⟨i, _, rfl⟩ := List.mem_map.1 hv; rfl
theorem one_of {v : Value} (h : v.oneCell' = true) : one v = true := by cases v <;> first | rfl | (simp [Value.oneCell'] at h)
theorem encL_one {α : Type} {enc : α → List Value} (h : ∀ x, ∀ v ∈ enc x, v.oneCell' = true) : ∀ xs : List α, (encL enc xs).all one = true
  | [] => rfl
  | x :: xs => by
    show (enc x ++ encL enc xs).all one = true
    rw [List.all_append, encL_one h xs, Bool.and_true]
    exact List.all_eq_true.2 fun v hv => one_of (h x v hv)
theorem SortAc_c (p : Nat → Prop) (w0 w : World) (L E : List Ent) (ad : Option Addr) (c : Nat) (xs : List Ac) (hV : Vec 10 ad xs.length c (actsL xs) E) (hS : St p w0 w (E ++ L)) (hlen : xs.length < 1000000) :
    Calls Tryz.prog 248 #[.slice ad xs.length c, .func (.func 249) #[] #[]] w fun e w' =>
      e = .returned (.tuple #[]) ∧ ∃ ys E', ys.Perm xs ∧ (ys.Pairwise fun a b => acmp a b ≤ 0) ∧ Vec 10 ad xs.length c (actsL ys) E' ∧ St p w0 w' (E' ++ L) := by
  refine (gsort_c (P := Tryz.prog) lays248 (by omega) Tryz.isAgg225 Tryz.sizeOf225 acL_len acL_one acmp (swo_of acmp_cm) 249 #[] ck_249 p w0 w L E ad c xs (fun gb cs _ w' _ x y => ACmp_c w' x y) hV hS (by omega)).mono ?_
  rintro e w' ⟨he, ys, E', hp, ha, hV', hS'⟩
  exact ⟨he, ys, E', hp, asc_le acmp_cm ha, hV', hS'⟩
open Classical in
noncomputable def acEq (a b : Ac) : Bool := decide (acL a = acL b)
theorem acEq_iff (a b : Ac) : acEq a b = true ↔ acL a = acL b := by unfold acEq; simp
theorem acL_same {a b : Ac} (ha : a.Nz) (hb : b.Nz) (h : acL a = acL b) : a = b := by
  have h1 : (Value.int .i64 a.set) = .int .i64 b.set := (List.cons.inj h).1
  have h2 : ucs a.val 9 = ucs b.val 9 := (List.cons.inj h).2
  refine Ac.ext' ha hb (by injection h1) fun k hk => ?_
  have this : (ucs a.val 9)[k]? = (ucs b.val 9)[k]? := congrArg (fun z : List Value => z[k]?) h2
  rw [ucs_get _ hk, ucs_get _ hk] at this
  injection this with this
  injection this
theorem acmp_cells {a b : Ac} (h : acL a ≠ acL b) (ha : a.Nz) (hb : b.Nz) : acmp a b ≠ 0 := fun e => h (by rw [acmp_same ha hb e])
theorem normP_uniq {xs ys : List Ac} (hp : ys.Perm xs) (ha : ys.Pairwise fun a b => acmp a b ≤ 0) (hN : ∀ x ∈ xs, x.Nz) : NormP xs (uniq acEq ys) := by
  have hN' : ∀ x ∈ ys, x.Nz := fun x hx => hN x (hp.mem_iff.1 hx)
  refine ⟨uniq_strict acmp_cm ha fun x hx y hy e => ?_, fun x => (uniq_mem (fun x hx y hy e => acL_same (hN' x hx) (hN' y hy) ((acEq_iff x y).1 e)) x).trans hp.mem_iff⟩
  exact acmp_cells (fun k => by rw [(acEq_iff x y).2 k.symm] at e; cases e) (hN' y hy) (hN' x hx)
/-- What Norm hands back: a list of its own. -/
def NormC (w w' : World) (xs : List Ac) (e : Ending) : Prop := ∃ ad' c' E ys, e = .returned (.slice ad' ys.length c') ∧ NormP xs ys ∧ ys.length ≤ xs.length ∧ Vec 10 ad' ys.length c' (actsL ys) E ∧ St (fun _ => False) w w' E
theorem Norm_c (w : World) (ad : Option Addr) (c : Nat) (xs : List Ac) (hr : Rg w ad (actsL xs)) (hN : ∀ x ∈ xs, x.Nz) (hn : xs.length ≤ 100000) :
    Calls Tryz.prog 167 #[.slice ad xs.length c] w fun e w' => NormC w w' xs e := by
  refine enter Tryz.func167 rfl Tryz.ntmps167 rfl (St.start (fun _ => False) w) ?_
  refine WC.seq <| WC.region <| WL.v (v_assign rfl rfl) rfl <| WL.nt <| WC.seq <| WC.region <| WL.v (v_move rfl rfl) rfl <| WL.call rfl rfl ck_247 (.none rfl) rfl rfl <| ?_
  intro w1 hS
  refine (CloneAc_c w1 ad c xs (hr.frm hS.frm (fun _ _ _ h => h)) (encL_one acL_one xs) hn).mono ?_
  rintro e w' ⟨ad1, c1, E1, rfl, hV1, hS'⟩
  refine ⟨_, _, rfl, hS.join hS', ?_⟩
  refine WL.v (v_assign rfl rfl) rfl <| WL.nt <| WC.seq <| WC.region <| WL.v (v_move rfl rfl) rfl <| WL.call rfl rfl ck_248 (.none rfl) rfl rfl <| ?_
  intro w1 hS
  refine (SortAc_c (fun _ => False) _ w1 [] E1 ad1 c1 xs hV1 hS (by omega)).mono ?_
  rintro e w' ⟨rfl, ys, E2, hp, ha, hV2, hS'⟩
  refine ⟨_, _, rfl, hS', ?_⟩
  refine WL.nt <| WC.seq <| WC.region <| WL.v (v_move rfl rfl) rfl <| WL.call rfl rfl ck_250 (.none rfl) rfl rfl <| ?_
  intro w1 hS
  rw [← hp.length_eq] at hV2
  rw [← hp.length_eq]
  refine (CompactAc_c (fun _ => False) _ w1 [] E2 ad1 c1 ys acEq acEq_iff hV2 hS (by rw [hp.length_eq]; exact hn)).mono ?_
  rintro e w' ⟨E3, rfl, hV3, hS'⟩
  refine ⟨_, _, rfl, hS', ?_⟩
  refine WL.v (v_assign rfl rfl) rfl <| WL.nt <| WC.ret <| WE.ret1 (P := Tryz.prog) (.inl rfl) Tryz.results167 rfl <| ?_
  exact fun w' h => ⟨ad1, c1, E3, uniq acEq ys, rfl, normP_uniq hp ha hN, by have := uniq_len (eq := acEq) ys; rw [hp.length_eq] at this; exact this, hV3, by simpa using h⟩
end Go.Proofs.YtmhahajadgkolaaGreatDoor
/- table: what Change and Take make of a table, as data; entries put in one by one, or all at once, are one table; what was taken out is as if it had never been put in. -/
namespace Go.Proofs.YtmhahajadgkolaaGreatDoor
open Go.RowKit

def insA (x : Ac) : List Ac → List Ac
  | [] => [x]
  | y :: l => if acmp x y < 0 then x :: y :: l else if acmp x y = 0 then y :: l else y :: insA x l
def normF : List Ac → List Ac
  | [] => []
  | x :: l => insA x (normF l)
theorem insA_sub (x z : Ac) : ∀ l : List Ac, z ∈ insA x l → z = x ∨ z ∈ l
  | [], h => .inl (List.mem_singleton.1 h)
  | y :: l, h => by
    unfold insA at h
    split at h
    · exact List.mem_cons.1 h
    split at h
    · exact .inr h
    · rcases List.mem_cons.1 h with rfl | h
      · exact .inr (List.mem_cons_self ..)
      · exact (insA_sub x z l h).imp id (List.mem_cons_of_mem _)
theorem insA_len (x : Ac) : ∀ l : List Ac, (insA x l).length ≤ l.length + 1
  | [] => Nat.le_refl _
  | y :: l => by
    unfold insA
    split
    · exact Nat.le_refl _
    split
    · exact Nat.le_succ _
    · exact Nat.succ_le_succ (insA_len x l)
theorem insA_mem {x : Ac} (hx : x.Nz) : ∀ {l : List Ac}, (∀ y ∈ l, y.Nz) → ∀ z, z ∈ insA x l ↔ z = x ∨ z ∈ l
  | [], _, z => by unfold insA; simp
  | y :: l, hl, z => by
    refine ⟨insA_sub x z _, fun h => ?_⟩
    unfold insA
    split
    · exact List.mem_cons.2 h
    split
    · rename_i h0
      have e := acmp_same hx (hl y (List.mem_cons_self ..)) h0
      subst e
      rcases h with rfl | h
      · exact List.mem_cons_self ..
      · exact h
    · have ih := insA_mem hx (l := l) (fun y hy => hl y (List.mem_cons_of_mem _ hy)) z
      rcases h with rfl | h
      · exact List.mem_cons_of_mem _ (ih.2 (.inl rfl))
      · rcases List.mem_cons.1 h with rfl | h
        · exact List.mem_cons_self ..
        · exact List.mem_cons_of_mem _ (ih.2 (.inr h))
theorem insA_strict (x : Ac) : ∀ {l : List Ac}, l.Pairwise (fun a b => acmp a b < 0) → (insA x l).Pairwise fun a b => acmp a b < 0
  | [], _ => List.pairwise_singleton _ _
  | y :: l, h => by
    have h' := List.pairwise_cons.1 h
    unfold insA
    split
    · rename_i h0
      refine List.pairwise_cons.2 ⟨fun z hz => ?_, h⟩
      rcases List.mem_cons.1 hz with rfl | hz
      · exact h0
      · have := h'.1 z hz; exact acmp_cm.lt_le h0 (by omega)
    split
    · exact h
    · rename_i h0 h1
      refine List.pairwise_cons.2 ⟨fun z hz => ?_, insA_strict x h'.2⟩
      rcases insA_sub x z l hz with rfl | hz
      · have := acmp_cm.sgn z y; omega
      · exact h'.1 z hz
theorem normF_sub : ∀ {xs : List Ac} {z : Ac}, z ∈ normF xs → z ∈ xs
  | [], _, h => by cases h
  | x :: l, z, h => by
    rcases insA_sub x z _ h with rfl | h
    · exact List.mem_cons_self ..
    · exact List.mem_cons_of_mem _ (normF_sub h)
theorem normF_len : ∀ xs : List Ac, (normF xs).length ≤ xs.length
  | [] => Nat.le_refl _
  | x :: l => Nat.le_trans (insA_len x _) (Nat.succ_le_succ (normF_len l))
theorem normF_P : ∀ {xs : List Ac}, (∀ x ∈ xs, x.Nz) → NormP xs (normF xs)
  | [], _ => ⟨List.Pairwise.nil, fun _ => Iff.rfl⟩
  | x :: l, h => by
    have ih := normF_P (xs := l) fun y hy => h y (List.mem_cons_of_mem _ hy)
    refine ⟨insA_strict x ih.1, fun z => (insA_mem (h x (List.mem_cons_self ..)) (fun y hy => h y (List.mem_cons_of_mem _ (normF_sub hy))) z).trans ?_⟩
    rw [ih.2, List.mem_cons]
theorem normF_of {xs ys : List Ac} (hN : ∀ x ∈ xs, x.Nz) (h : NormP xs ys) : normF xs = ys := NormP.one (normF_P hN) h
def EnD.norm (e : EnD) : EnD := ⟨e.prio, e.mark, e.r.m, normF e.r.acts⟩
def Strict (T : List EnD) : Prop := T.Pairwise fun a b => ordE a b < 0
def Apart (T : List EnD) : Prop := T.Pairwise fun a b => ordE a b ≠ 0
def leftD (T : List EnD) (outs : List Int) : List EnD := T.filter fun e => decide (e.mark ∉ outs)
/-- What Change answers, and the table behind it. -/
structure ChangeP (most : Int) (T : List EnD) (outs : List Int) (ins : List EnD) (code : Int) (T' : List EnD) : Prop where
  err : errs EnD.err ins ≠ 0 → code = errs EnD.err ins
  full : errs EnD.err ins = 0 → (ins.length : Int) > most - (leftD T outs).length → code = 30
  have_ : errs EnD.err ins = 0 → (ins.length : Int) ≤ most - (leftD T outs).length → ¬ Apart (leftD T outs ++ ins.map EnD.norm) → code = 5
  ok : errs EnD.err ins = 0 → (ins.length : Int) ≤ most - (leftD T outs).length → Apart (leftD T outs ++ ins.map EnD.norm) → code = 0
  not : code ≠ 0 → T' = T
  yes : code = 0 → Strict T' ∧ T'.Perm (leftD T outs ++ ins.map EnD.norm)
end Go.Proofs.YtmhahajadgkolaaGreatDoor
/- table: without, merge. -/
namespace Go.Proofs.YtmhahajadgkolaaGreatDoor
open Go.RowKit

/-- A table as it lies. -/
structure TbL where
  most : Int
  ad : Option Addr
  c : Nat
  es : List EnL
def TbL.cells (t : TbL) : List Value := [.int .i64 t.most, .slice t.ad t.es.length t.c]
def TbL.d (t : TbL) : List EnD := t.es.map EnL.d
/-- A rule's acts lie in blocks of K. -/
def RuOwn (K : List Ent) (r : RuL) : Prop := ∃ E, Vec 10 r.ad r.acts.length r.c (actsL r.acts) E ∧ ∀ x ∈ E, x ∈ K
def EnsOwn (K : List Ent) (es : List EnL) : Prop := ∀ e ∈ es, RuOwn K e.r
theorem RuOwn.sub {K K' : List Ent} {r : RuL} (h : RuOwn K r) (hs : ∀ x ∈ K, x ∈ K') : RuOwn K' r := let ⟨E, h1, h2⟩ := h; ⟨E, h1, fun x hx => hs x (h2 x hx)⟩
theorem Vec.rg {s : Nat} {ad : Option Addr} {k c : Nat} {xs : List Value} {E : List Ent} {w : World} (hV : Vec s ad k c xs E) (hw : ∀ e ∈ E, e.holds w) : Rg w ad xs := fun hn => by
  rcases hV with ⟨_, _, _, h, _⟩ | ⟨g, cs, rfl, rfl, hx, hl, hk⟩
  · exact absurd h hn
  · refine ⟨g, 0, rfl, fun j v hj => ?_⟩
    have hR : Row w g cs := hw (.row g cs) (List.mem_singleton.2 rfl)
    rw [Nat.zero_add]
    refine hR.cell ?_
    rw [← hx, List.getElem?_take] at hj
    split at hj
    · exact hj
    · cases hj
end Go.Proofs.YtmhahajadgkolaaGreatDoor
/- The engine: a region that draws its order: what reads only what nobody in the region writes is taken first, although calls come between (the kit's held orders). -/
namespace Go.Proofs.YtmhahajadgkolaaGreatDoor
open Go.RowKit

section
variable {P : Program} {ops : Array Oper} {Q : Exit → Act → World → Prop} {n : Nat} {p : Nat → Prop} {w0 : World} {o : Oper} {rest os : List Oper} {l : Kn} {L L0 : List Ent} {K : Act → World → Prop}
/-- What is left of the region, as what follows. -/
def RestH (P : Program) (os : List Oper) (Q : Exit → Act → World → Prop) (p : Nat → Prop) (w0 : World) (L0 : List Ent) (g : Nat) (listed : Array Bool) : Act → World → Prop := fun a w => wpAnyH P .any os.toArray (NP Q) (fun w => St p w0 w L0) g listed a w
/-- What is left of a region, of which these are done; the blocks L0 stay as they are. -/
def WRH (P : Program) (os : List Oper) (Q : Exit → Act → World → Prop) (n : Nat) (p : Nat → Prop) (w0 : World) (L0 : List Ent) (g : Nat) (listed : Array Bool) (l : Kn) (L : List Ent) : Prop :=
  ∀ a w, Has n a l → St p w0 w L → RestH P os Q p w0 L0 g listed a w
theorem WC.held {id : Nat} (L0 : List Ent) (hm : P.follows .mixedOrders = true) (h : WRH P os Q n p w0 L0 os.length (Array.replicate os.length false) l L) : WC P (.region id os.toArray true) Q n p w0 l L := fun a w ha hS =>
  Code.wp_mono NP.imp (wp_region_held (S := fun w => St p w0 w L0) hm (by have h1 := h a w.drew ha hS.drew; unfold RestH at h1; simpa using h1))
def wpHeld (P : Program) (ops : Array Oper) (S : World → Prop) (K : Act → Prop) : List Oper → Act → Prop
  | [], a => K a
  | o :: rest, a => ∃ v, YieldsIf P ops S o v a ∧ wpHeld P ops S K rest (a.put o.dst v)
def WH (P : Program) (ops : Array Oper) (K : Act → World → Prop) (n : Nat) (p : Nat → Prop) (w0 : World) (L0 : List Ent) (rest : List Oper) (l : Kn) (L : List Ent) : Prop :=
  ∀ a, Has n a l → wpHeld P ops (fun w => St p w0 w L0) (fun a' => ∀ w, St p w0 w L → K a' w) rest a
theorem anyH_of_held {K : Act → Prop} {S : World → Prop} {w : World} {g : Nat} (hsel : Region.noSelect os.toArray = true) (hw : S w) : ∀ (js : List Nat) (listed : Array Bool) (a : Act), takesB .any os.toArray js listed = true →
    wpHeld P os.toArray S K (js.map (at_ os)) a → (∀ a, K a → wpAnyH P .any os.toArray (NP Q) S g (marks listed js) a w) → wpAnyH P .any os.toArray (NP Q) S (js.length + g) listed a w
  | [], listed, a, _, h, hK => by simpa [marks] using hK a h
  | i :: is, listed, a, hB, h, hK => by
    simp only [takesB, Bool.and_eq_true] at hB
    obtain ⟨⟨hr, hf⟩, hB'⟩ := hB
    obtain ⟨v, hy, h'⟩ := h
    have hr' : i ∈ Region.ready .any os.toArray listed := by simpa using hr
    rw [List.length_cons, show is.length + 1 + g = (is.length + g) + 1 by omega]
    exact wpAnyH_take (at_some hr') hsel hf hr (fun c a w hh => hh) hy hw (anyH_of_held hsel hw is _ _ hB' h' hK)
theorem WRH.first {listed : Array Bool} {g : Nat} (js : List Nat) (hsel : Region.noSelect os.toArray = true) (hB : takesB .any os.toArray js listed = true) (keep : ∀ w, St p w0 w L → St p w0 w L0)
    (h : WH P os.toArray (RestH P os Q p w0 L0 g (marks listed js)) n p w0 L0 (js.map (at_ os)) l L) : WRH P os Q n p w0 L0 (js.length + g) listed l L := fun a w ha hS =>
  anyH_of_held (K := fun a' => ∀ w, St p w0 w L → RestH P os Q p w0 L0 g (marks listed js) a' w) hsel (keep w hS) js listed a hB (h a ha) (fun _ h => h w hS)
theorem WRH.each {g : Nat} {listed : Array Bool} (rs : List Nat) (hr : Region.ready .any os.toArray listed = rs) (hne : rs ≠ [])
    (h : AllOf (fun i => WL P os.toArray (RQ (fun a' w' => St p w0 w' L0 ∧ RestH P os Q p w0 L0 g (listed.setIfInBounds i true) a' w') (NP Q)) n p w0 [at_ os i] l L) rs) : WRH P os Q n p w0 L0 (g + 1) listed l L := fun a w ha hS => by
  refine wpAnyH_all hr hne fun i hi => ?_
  have ho := at_some (listed := listed) (i := i) (by rw [hr]; exact hi)
  have h' : wpList P os.toArray (RQ (fun a' w' => St p w0 w' L0 ∧ RestH P os Q p w0 L0 g (listed.setIfInBounds i true) a' w') (NP Q)) [at_ os i] a w := h.get i hi a w ha hS
  unfold wpOp
  simp only [ho]
  unfold wpList at h'
  split
  · rename_i hwd
    rw [if_pos hwd] at h'
    exact (h'.imp wpRQ (fun h => ⟨h.1, RQ.out h.2⟩)).imp (Oper.wp_mono fun a' w' h => h) id
  · rename_i hwd
    rw [if_neg hwd] at h'
    exact h'
theorem WRH.one {g : Nat} {listed : Array Bool} (i : Nat) (hr : Region.ready .any os.toArray listed = [i])
    (h : WL P os.toArray (RQ (fun a' w' => St p w0 w' L0 ∧ RestH P os Q p w0 L0 g (listed.setIfInBounds i true) a' w') (NP Q)) n p w0 [at_ os i] l L) : WRH P os Q n p w0 L0 (g + 1) listed l L :=
  WRH.each [i] hr (by simp) h
theorem WRH.done {listed : Array Bool} (hB : Region.ready .any os.toArray listed = []) (h : WE Q .normal n p w0 l L) : WRH P os Q n p w0 L0 0 listed l L := fun a w ha hS => ⟨hB, h a w ha hS⟩
theorem WH.nil {listed : Array Bool} {g : Nat} (h : WRH P os Q n p w0 L0 g listed l L) : WH P os.toArray (RestH P os Q p w0 L0 g listed) n p w0 L0 [] l L := fun a ha w hS => h a w ha hS
theorem WL.nilH {listed : Array Bool} {g : Nat} (keep : ∀ w, St p w0 w L → St p w0 w L0) (h : WRH P os Q n p w0 L0 g listed l L) : WL P os.toArray (RQ (fun a' w' => St p w0 w' L0 ∧ RestH P os Q p w0 L0 g listed a' w') (NP Q)) n p w0 [] l L := fun a w ha hS => ⟨keep w hS, h a w ha hS⟩
theorem WH.val {d : Nat} {v : Value} (hv : Val P (fun w => St p w0 w L0) n l o v) (hg : On ops o l) (hd : o.dst = some d) (hn : Nat.blt d n = true)
    (h : WH P ops K n p w0 L0 rest ((d, v) :: l) L) : WH P ops K n p w0 L0 (o :: rest) l L := fun a ha =>
  ⟨v, .inl ⟨hg.ok ha, fun w hw => hv a w ha hw⟩, h _ (ha.put_any hd hn v)⟩
end
end Go.Proofs.YtmhahajadgkolaaGreatDoor
/- sdx: an exchange at which nobody is there: what server.New makes. -/
namespace Go.Proofs.YtmhahajadgkolaaGreatDoor
open Go.RowKit

theorem ssys_c (w : World) (x : Int) : Calls Tryz.prog 47 #[.int .i64 x] w fun e w' => e = .returned (.bool (decide (1 ≤ x ∧ x ≤ 65535))) ∧ Frm (fun _ => False) w w' := by
  refine enter Tryz.func47 rfl Tryz.ntmps47 rfl (St.start (fun _ => False) w) ?_
  refine WC.seq <| WC.region <| WL.v (v_assign rfl rfl) rfl <| WL.nt <| WC.seq <| WC.region <| WL.v (v_move rfl rfl) rfl <| ?_
  refine WL.test (v_geq rfl rfl rfl) (.none rfl) rfl rfl (fun h4 => ?_) (fun h4 => ?_)
  ·
   refine WL.v (v_move rfl rfl) rfl <| WL.val (v_move rfl rfl) (.some rfl rfl rfl) rfl rfl <| WL.val (v_leq rfl rfl rfl) (.some rfl rfl rfl) rfl rfl <| WL.v (v_pick_t rfl rfl rfl) rfl <| WL.v (v_assign rfl rfl) rfl <| WL.nt <| WC.ret <| WE.ret1 (P := Tryz.prog) (.inl rfl) Tryz.results47 rfl <| ?_
   exact fun w' h => ⟨by rw [show decide (1 ≤ x ∧ x ≤ 65535) = decide (x ≤ 65535) from decide_eq_decide.2 ⟨fun k => k.2, fun k => ⟨h4, k⟩⟩], h.frm⟩
  ·
   refine WL.v (v_move rfl rfl) rfl ?_
   iterate 2 refine WL.sk rfl ?_
   refine WL.v (v_pick_f rfl rfl rfl) rfl <| WL.v (v_assign rfl rfl) rfl <| WL.nt <| WC.ret <| WE.ret1 (P := Tryz.prog) (.inl rfl) Tryz.results47 rfl <| ?_
   exact fun w' h => ⟨by rw [dF (fun k => h4 k.1)], h.frm⟩
theorem zero_242 : Zero Tryz.prog 242 (.int .i64 0 :: List.replicate 256 (.bool false)) := Zero.mk (z := .agg (.int .i64 0 :: List.replicate 256 (.bool false)).toArray) (by kernel_rfl) rfl
theorem fillHd (m : Nat) (a : Int) (zs : List Value) : fillL (fun i => [(0, 1), (1, m)][i]?) (.int .i64 0 :: zs) [(0, .int .i64 a)] = some (.int .i64 a :: zs) := by
  show some (Value.int .i64 a :: splice zs 0 []) = _
  rw [splice_nil]
theorem xnew_c (w : World) (own : Int) : Calls Tryz.prog 48 #[.int .i64 own] w fun e w' => (∃ g, e = .returned (.pointer (some ⟨g, 0, none⟩))) ∧ Frm (fun _ => False) w w' := by
  refine enter Tryz.func48 rfl Tryz.ntmps48 rfl (St.start (fun _ => False) w) ?_
  refine WC.seq <| WC.region <| WL.v (v_assign rfl rfl) rfl <| WL.nt <| WC.seq <| WC.region <| WL.v (v_move rfl rfl) rfl <| ?_
  refine WL.v (v_and rfl rfl rfl (mask_i64' (i := 16) (m := 65536) (by decide) (by decide) (by decide))) rfl ?_
  refine WL.v ((v_build rfl rfl zero_242 plc_242 (fillHd 256 _ _))) rfl <| WL.box rfl rfl rfl (.none rfl) rfl rfl <| ?_
  intro g6 hg6
  refine WL.v (v_assign rfl rfl) rfl <| WL.nt <| WC.ret <| WE.ret1 (P := Tryz.prog) (.inl rfl) Tryz.results48 rfl <| ?_
  exact fun w' h => ⟨⟨_, rfl⟩, h.frm⟩
theorem tnew_c (w : World) (q : Int) : Calls Tryz.prog 106 #[.int .i64 q] w fun e w' => ∃ g, ∃ q2 : Int, e = .returned (.pointer (some ⟨g, 0, none⟩)) ∧ St (fun _ => False) w w' [.row g [.pointer none, .int .i64 q2, .int .i64 0]] := by
  refine enter Tryz.func106 rfl Tryz.ntmps106 rfl (St.start (fun _ => False) w) ?_
  refine WC.seq <| WC.region <| WL.v (v_assign rfl rfl) rfl <| WL.nt <| WC.seq <| WC.region <| WL.v (v_move rfl rfl) rfl <| WL.v (v_max rfl rfl rfl) rfl <| WL.v (v_min rfl rfl rfl) rfl <| WL.v (v_build rfl rfl zero_333 plc_333 rfl) rfl <| WL.box rfl rfl rfl (.none rfl) rfl rfl <| ?_
  intro g7 hg7
  refine WL.v (v_assign rfl rfl) rfl <| WL.nt <| WC.ret <| WE.ret1 (P := Tryz.prog) (.inl rfl) Tryz.results106 rfl <| ?_
  exact fun w' h => ⟨_, _, rfl, h⟩
theorem anew_c (w : World) (k own q : Int) : Calls Tryz.prog 49 #[.int .i64 k, .int .i64 own, .int .i64 q] w fun e w' => ∃ r t, ∃ q1 q2 : Int, e = .returned (.pointer (some ⟨r, 0, none⟩)) ∧ St (fun _ => False) w w' [.row r [.int .i64 k, .int .i64 own, .int .i64 q1, .pointer (some ⟨t, 0, none⟩)], .row t [.pointer none, .int .i64 q2, .int .i64 0]] := by
  refine enter Tryz.func49 rfl Tryz.ntmps49 rfl (St.start (fun _ => False) w) ?_
  refine WC.seq <| WC.region <| WL.v (v_assign rfl rfl) rfl <| WL.nt <| WC.seq <| WC.region <| WL.v (v_move rfl rfl) rfl <| WL.v (v_max rfl rfl rfl) rfl <| WL.v (v_min rfl rfl rfl) rfl <| WL.v (v_assign rfl rfl) rfl <| WL.nt <| WC.seq <| WC.region <| WL.v (v_move rfl rfl) rfl <| ?_
  refine WL.v (v_move rfl rfl) rfl <| WL.v (v_move rfl rfl) rfl <| WL.v (v_move rfl rfl) rfl <| WL.call rfl rfl ck_106 (.none rfl) rfl rfl <| ?_
  intro w1 hS
  refine (tnew_c w1 _).mono ?_
  rintro e w' ⟨t, q2, rfl, hS'⟩
  refine ⟨_, _, rfl, hS.join hS', ?_⟩
  refine WL.v (v_build rfl rfl zero_246 plc_246 rfl) rfl <| WL.box rfl rfl rfl (.none rfl) rfl rfl <| ?_
  intro g16 hg16
  refine WL.v (v_assign rfl rfl) rfl <| WL.nt <| WC.ret <| WE.ret1 (P := Tryz.prog) (.inl rfl) Tryz.results49 rfl <| ?_
  exact fun w' h => ⟨_, t, _, q2, rfl, h⟩
end Go.Proofs.YtmhahajadgkolaaGreatDoor
/- The engine: a region in two phases that draws the first one's order: what is read of blocks that nobody writes in the first phase is taken first; the second phase may write them. -/
namespace Go.Proofs.YtmhahajadgkolaaGreatDoor
open Go.RowKit

section
variable {P : Program} {ops : Array Oper} {Q : Exit → Act → World → Prop} {n : Nat} {p : Nat → Prop} {w0 : World} {o : Oper} {rest os : List Oper} {l : Kn} {L L0 : List Ent} {K : Act → World → Prop} {S : World → Prop} {m : Nat}
/-- Whatever order comes: behind each operation below m the world is in S. -/
def TwoP (P : Program) (ops : Array Oper) (Q : Exit → Act → World → Prop) (S : World → Prop) (m : Nat) : Nat → Array Bool → Act → World → Prop
  | 0, listed, a, w => Region.ready .any ops listed = [] ∧ Q .normal a w
  | g + 1, listed, a, w => (Region.ready .any ops listed = [] → Q .normal a w) ∧ ∀ i ∈ Region.ready .any ops listed, wpOp P ops Q i (fun a' w' => (i < m → S w') ∧ TwoP P ops Q S m g (listed.setIfInBounds i true) a' w') a w
theorem TwoP.any : ∀ (g : Nat) (listed : Array Bool) (a : Act) (w : World), TwoP P ops Q S m g listed a w → wpAny P .any ops Q g listed a w
  | 0, _, _, _, h => h
  | g + 1, _, _, _, h => ⟨h.1, fun i hi => wpOp_mono (fun a' w' k => TwoP.any g _ a' w' k.2) (h.2 i hi)⟩
/-- Whoever belongs to the second phase waits for i. -/
def waitB (ops : Array Oper) (m i : Nat) : Bool := (List.range ops.size).all fun k => Nat.blt k m || (match ops[k]? with | some o => boundTo o i | none => true)
theorem waitB_spec {i k : Nat} {o : Oper} (h : waitB ops m i = true) (ho : ops[k]? = some o) (hk : ¬ k < m) : ∃ e ∈ o.after, Region.binds .any e = true ∧ e.on = i := by
  have h1 := List.all_eq_true.1 h k (List.mem_range.2 (Array.getElem?_eq_some_iff.1 ho).1)
  rw [ho, Bool.or_eq_true] at h1
  rcases h1 with h1 | h1
  · exact absurd (by simpa using h1) hk
  · obtain ⟨e, he, hb⟩ := List.any_eq_true.1 h1
    rw [Bool.and_eq_true] at hb
    exact ⟨e, by simpa using he, hb.1, Nat.eq_of_beq_eq_true hb.2⟩
theorem ready_un {i : Nat} {listed : Array Bool} (hi : i ∈ Region.ready .any ops listed) : listed.getD i false = false := by
  have h0 := (mem_ready.1 hi).1
  rw [Array.getD_eq_getD_getElem?] at h0 ⊢
  cases h : listed[i]? with
  | none => rfl
  | some b => rw [h] at h0; exact h0
theorem TwoP.first {i : Nat} {oi : Oper} {v : Value} (hi : ops[i]? = some oi) (hsel : Region.noSelect ops = true) (hw8 : waitB ops m i = true)
    (hQ : ∀ c a w, Q (.panic c) (a.put oi.dst v) w → Q (.panic c) a w) : ∀ (g : Nat) (listed : Array Bool) (a : Act) (w : World),
      (∀ j oj, ops[j]? = some oj → j ≠ i → listed.getD j true = false → (∀ e ∈ oj.after, Region.binds .any e = true → e.on ≠ i) → oi.apart ops oj = true) →
      i ∈ Region.ready .any ops listed → YieldsIf P ops S oi v a → S w → TwoP P ops Q S m g (listed.setIfInBounds i true) (a.put oi.dst v) w → TwoP P ops Q S m (g + 1) listed a w
  | g, listed, a, w, hf, hr, hy, hS, H => by
    refine ⟨fun h => (by rw [h] at hr; cases hr), fun j hj => ?_⟩
    by_cases hji : j = i
    · subst hji
      exact hy.wpOp hi hS ⟨fun _ => hS, H⟩
    · cases g with
      | zero =>
        have := ready_mono hj hji
        rw [H.1] at this
        cases this
      | succ g =>
        obtain ⟨hjun, oj, hoj, hall⟩ := mem_ready.1 hj
        have hnot : ∀ e ∈ oj.after, Region.binds .any e = true → e.on ≠ i := fun e he hb heq => by
          have h1 := hall e he hb
          rw [heq, ready_un hr] at h1
          cases h1
        have hjm : j < m := Decidable.byContradiction fun hk => by
          obtain ⟨e, he, hb, hon⟩ := waitB_spec hw8 hoj hk
          exact hnot e he hb hon
        have h2 := wpOp_putIf hoj (hf j oj hoj hji hjun hnot) (fun cs b => Region.noSelect_spec hsel i oi cs b hi) (fun cs b => Region.noSelect_spec hsel j oj cs b hoj) hQ hy (H.2 j (ready_mono hj hji))
        refine wpOp_mono (fun a' w' h3 => ⟨h3.2.1, TwoP.first hi hsel hw8 hQ g _ a' w' (fun k ok hk hki hun hno => hf k ok hk hki ?_ hno) (ready_mono hr (Ne.symm hji)) h3.1 (h3.2.1 hjm) ?_⟩) h2
        · by_cases hjk : j = k
          · subst hjk; exact hjun
          · rw [getD_set_ne true hjk] at hun; exact hun
        · rw [Array.setIfInBounds_comm _ _ hji]
          exact h3.2.2
/-- What is left of the region, as what follows. -/
def RestT (P : Program) (os : List Oper) (Q : Exit → Act → World → Prop) (p : Nat → Prop) (w0 : World) (L0 : List Ent) (m g : Nat) (listed : Array Bool) : Act → World → Prop := fun a w => TwoP P os.toArray (NP Q) (fun w => St p w0 w L0) m g listed a w
def WRT (P : Program) (os : List Oper) (Q : Exit → Act → World → Prop) (n : Nat) (p : Nat → Prop) (w0 : World) (L0 : List Ent) (m g : Nat) (listed : Array Bool) (l : Kn) (L : List Ent) : Prop :=
  ∀ a w, Has n a l → St p w0 w L → RestT P os Q p w0 L0 m g listed a w
theorem WC.heldT {id : Nat} (m : Nat) (L0 : List Ent) (hm : P.follows .mixedOrders = true) (h : WRT P os Q n p w0 L0 m os.length (Array.replicate os.length false) l L) : WC P (.region id os.toArray true) Q n p w0 l L := fun a w ha hS =>
  Code.wp_mono NP.imp (wp_region_any hm (by have h1 := TwoP.any _ _ _ _ (h a w.drew ha hS.drew); simpa using h1))
def waitZ (ops : Array Oper) (m : Nat) (js : List Nat) : Bool := js.all (waitB ops m)
theorem twoP_of_held {K : Act → Prop} {w : World} {g : Nat} (hsel : Region.noSelect os.toArray = true) (hw : S w) : ∀ (js : List Nat) (listed : Array Bool) (a : Act), takesB .any os.toArray js listed = true → waitZ os.toArray m js = true →
    wpHeld P os.toArray S K (js.map (at_ os)) a → (∀ a, K a → TwoP P os.toArray (NP Q) S m g (marks listed js) a w) → TwoP P os.toArray (NP Q) S m (js.length + g) listed a w
  | [], listed, a, _, _, h, hK => by simpa [marks] using hK a h
  | i :: is, listed, a, hB, hZ, h, hK => by
    simp only [takesB, Bool.and_eq_true] at hB
    simp only [waitZ, List.all_cons, Bool.and_eq_true] at hZ
    obtain ⟨⟨hr, hf⟩, hB'⟩ := hB
    obtain ⟨v, hy, h'⟩ := h
    have hr' : i ∈ Region.ready .any os.toArray listed := by simpa using hr
    rw [List.length_cons, show is.length + 1 + g = (is.length + g) + 1 by omega]
    exact TwoP.first (at_some hr') hsel hZ.1 (fun c a w hh => hh) _ listed a w (Region.free_spec (at_some hr') hf) hr' hy hw (twoP_of_held hsel hw is _ _ hB' hZ.2 h' hK)
theorem WRT.first {listed : Array Bool} {g : Nat} (js : List Nat) (hsel : Region.noSelect os.toArray = true) (hB : takesB .any os.toArray js listed = true) (hZ : waitZ os.toArray m js = true) (keep : ∀ w, St p w0 w L → St p w0 w L0)
    (h : WH P os.toArray (RestT P os Q p w0 L0 m g (marks listed js)) n p w0 L0 (js.map (at_ os)) l L) : WRT P os Q n p w0 L0 m (js.length + g) listed l L := fun a w ha hS =>
  twoP_of_held (K := fun a' => ∀ w, St p w0 w L → RestT P os Q p w0 L0 m g (marks listed js) a' w) hsel (keep w hS) js listed a hB hZ (h a ha) (fun _ h => h w hS)
theorem WRT.each {g : Nat} {listed : Array Bool} (rs : List Nat) (hr : Region.ready .any os.toArray listed = rs) (hne : rs ≠ [])
    (h : AllOf (fun i => WL P os.toArray (RQ (fun a' w' => (i < m → St p w0 w' L0) ∧ RestT P os Q p w0 L0 m g (listed.setIfInBounds i true) a' w') (NP Q)) n p w0 [at_ os i] l L) rs) : WRT P os Q n p w0 L0 m (g + 1) listed l L := fun a w ha hS => by
  refine ⟨fun h0 => absurd (hr ▸ h0) hne, fun i hi => ?_⟩
  rw [hr] at hi
  have ho := at_some (listed := listed) (i := i) (by rw [hr]; exact hi)
  have h' := h.get i hi a w ha hS
  unfold wpOp
  simp only [ho]
  unfold wpList at h'
  split
  · rename_i hwd
    rw [if_pos hwd] at h'
    exact (h'.imp wpRQ (fun h => ⟨h.1, RQ.out h.2⟩)).imp (Oper.wp_mono fun a' w' h => h) id
  · rename_i hwd
    rw [if_neg hwd] at h'
    exact h'
theorem WRT.one {g : Nat} {listed : Array Bool} (i : Nat) (hr : Region.ready .any os.toArray listed = [i])
    (h : WL P os.toArray (RQ (fun a' w' => (i < m → St p w0 w' L0) ∧ RestT P os Q p w0 L0 m g (listed.setIfInBounds i true) a' w') (NP Q)) n p w0 [at_ os i] l L) : WRT P os Q n p w0 L0 m (g + 1) listed l L :=
  WRT.each [i] hr (by simp) h
theorem WRT.done {listed : Array Bool} (hB : Region.ready .any os.toArray listed = []) (h : WE Q .normal n p w0 l L) : WRT P os Q n p w0 L0 m 0 listed l L := fun a w ha hS => ⟨hB, h a w ha hS⟩
theorem WRT.to {g : Nat} {listed : Array Bool} {l' : Kn} {L' : List Ent} (h : WRT P os Q n p w0 L0 m g listed l' L') (hl : Sub l l') (hs : ∀ w, St p w0 w L → St p w0 w L') : WRT P os Q n p w0 L0 m g listed l L := fun a w ha hS => h a w (ha.sub hl) (hs w hS)
theorem WRT.cut {ι : Type} {g g' : Nat} {listed listed' : Array Bool} (lI : ι → Kn) (LI : ι → List Ent) (good : ι → Prop) (h1 : (∀ i, good i → WRT P os Q n p w0 L0 m g' listed' (lI i) (LI i)) → WRT P os Q n p w0 L0 m g listed l L) (h2 : ∀ i, good i → WRT P os Q n p w0 L0 m g' listed' (lI i) (LI i)) : WRT P os Q n p w0 L0 m g listed l L := h1 h2
theorem WH.nilT {listed : Array Bool} {g : Nat} (h : WRT P os Q n p w0 L0 m g listed l L) : WH P os.toArray (RestT P os Q p w0 L0 m g listed) n p w0 L0 [] l L := fun a ha w hS => h a w ha hS
theorem WL.nilT {i : Nat} {listed : Array Bool} {g : Nat} (keep : ∀ w, St p w0 w L → St p w0 w L0) (h : WRT P os Q n p w0 L0 m g listed l L) : WL P os.toArray (RQ (fun a' w' => (i < m → St p w0 w' L0) ∧ RestT P os Q p w0 L0 m g listed a' w') (NP Q)) n p w0 [] l L := fun a w ha hS => ⟨fun _ => keep w hS, h a w ha hS⟩
theorem WL.nilT2 {i : Nat} {listed : Array Bool} {g : Nat} (hi : Nat.ble m i = true) (h : WRT P os Q n p w0 L0 m g listed l L) : WL P os.toArray (RQ (fun a' w' => (i < m → St p w0 w' L0) ∧ RestT P os Q p w0 L0 m g listed a' w') (NP Q)) n p w0 [] l L := fun a w ha hS => ⟨fun h => absurd (show m ≤ i by simpa using hi) (by omega), h a w ha hS⟩
end
end Go.Proofs.YtmhahajadgkolaaGreatDoor
/- sdx: what server.New makes, or why it makes nothing. -/
namespace Go.Proofs.YtmhahajadgkolaaGreatDoor
open Go.RowKit

def sdL (a : Int × Int) : List Value := [.int .i64 a.1, .int .u32 a.2]
theorem sdL_len (a : Int × Int) : (sdL a).length = 2 := rfl
def okSd (a : Int × Int) : Prop := (1 ≤ a.1 ∧ a.1 ≤ 65535) ∧ a.2 ≠ 0
instance (a : Int × Int) : Decidable (okSd a) := by unfold okSd; infer_instance
/-- Why there is no server. -/
def srvE (own : Int) (ss : List (Int × Int)) : Int := if ¬ (1 ≤ own ∧ own ≤ 65535) ∨ ss.length = 0 then 1 else if 16 < ss.length then 3 else if ∀ a ∈ ss, okSd a then 0 else 1
/-- A participant without routes, as it lies. -/
def MRd (w : World) (m : Nat × Nat × Nat) : Prop := w.cell? ⟨m.1, 3, none⟩ = some (.pointer (some ⟨m.2.1, 0, none⟩)) ∧ w.cell? ⟨m.2.1, 3, none⟩ = some (.pointer (some ⟨m.2.2, 0, none⟩)) ∧ w.cell? ⟨m.2.2, 0, none⟩ = some (.pointer none)
abbrev ptsL (ms : List (Nat × Nat × Nat)) : List Value := ms.map fun m => .pointer (some ⟨m.1, 0, none⟩)
theorem ptsL_app (a b : List (Nat × Nat × Nat)) : ptsL (a ++ b) = ptsL a ++ ptsL b := List.map_append ..
structure SvRd (w : World) (gs n : Nat) : Prop where
  ex : ∃ ad c ms, w.cell? ⟨gs, 0, none⟩ = some (.slice ad n c) ∧ ms.length = n ∧ Rg w ad (ptsL ms) ∧ ∀ m ∈ ms, MRd w m
structure SvS where
  k : Nat
  ad : Option Addr
  c : Nat
  E : List Ent
  ms : List (Nat × Nat × Nat)
  M : List Ent
theorem srvE_bad {own : Int} {ss : List (Int × Int)} {k : Nat} {a : Int × Int} (hx : ss[k]? = some a) (h : ¬ okSd a) (h2 : ¬ 16 < ss.length) : srvE own ss = 1 := by
  unfold srvE
  split
  · rfl
  · rw [if_neg (show ¬ ∀ a ∈ ss, okSd a from fun k => h (k a (List.mem_of_getElem? hx)))]
theorem snew_c (w : World) (own q : Int) (sa : Option Addr) (sc : Nat) (ss : List (Int × Int)) (hR : Rg w sa (encL sdL ss)) (hn : ss.length ≤ 1000) :
    Calls Tryz.prog 15 #[.int .i64 own, .slice sa ss.length sc, .int .i64 q] w fun e w' => ∃ v M, e = .returned (.tuple #[v, .int .i64 (srvE own ss)]) ∧ (srvE own ss ≠ 0 → v = .pointer none) ∧ (srvE own ss = 0 → ∃ gs, v = .pointer (some ⟨gs, 0, none⟩) ∧ ∀ w2, (∀ e ∈ M, e.holds w2) → SvRd w2 gs ss.length) ∧ St (fun _ => False) w w' M := by
  refine enter Tryz.func15 rfl Tryz.ntmps15 rfl (St.start (fun _ => False) w) ?_
  refine WC.seq <| WC.region <| WL.v (v_assign rfl rfl) rfl <| WL.v (v_assign rfl rfl) rfl <| WL.nt <| WC.seq <| WC.seq <| WC.region <| WL.v (v_move rfl rfl) rfl <| WL.call rfl rfl ck_47 (.none rfl) rfl rfl <| ?_
  intro w hS
  refine Calls.then (ssys_c w own) hS ?_
  generalize h12 : decide (1 ≤ own ∧ own ≤ 65535) = b12
  cases b12
  ·
   refine WL.v (v_not rfl rfl rfl) rfl <| WL.v (v_move rfl rfl) rfl <| ?_
   iterate 3 refine WL.sk rfl ?_
   refine WL.v (v_pick_t rfl rfl rfl) rfl <| WL.nt <| WC.cond_t rfl <| WC.seq <| WC.region <| WL.v (v_assign rfl rfl) rfl <| WL.v (v_assign rfl rfl) rfl <| WL.nt <| WC.ret <| WE.then_ret <| WE.ret2 (P := Tryz.prog) (.inl rfl) Tryz.results15 rfl rfl <| ?_
   have e : srvE own ss = 1 := (by unfold srvE; rw [if_pos (.inl (of_decide_eq_false h12))])
   rw [e]
   exact fun w' h => ⟨_, [], rfl, fun _ => rfl, fun k => (by cases k), h⟩
  ·
   refine WL.v (v_not rfl rfl rfl) rfl <| WL.v (v_move rfl rfl) rfl <| WL.val (v_move rfl rfl) (.some rfl rfl rfl) rfl rfl <| WL.val (v_len_slice rfl rfl Tryz.underlying48) (.some rfl rfl rfl) rfl rfl <| ?_
   refine WL.test (v_eql rfl rfl rfl) (.some rfl rfl rfl) rfl rfl (fun h17 => ?_) (fun h17 => ?_)
   ·
    refine WL.v (v_pick_f rfl rfl rfl) rfl <| WL.nt <| WC.cond_t rfl <| WC.seq <| WC.region <| WL.v (v_assign rfl rfl) rfl <| WL.v (v_assign rfl rfl) rfl <| WL.nt <| WC.ret <| WE.then_ret <| WE.ret2 (P := Tryz.prog) (.inl rfl) Tryz.results15 rfl rfl <| ?_
    have e : srvE own ss = 1 := (by unfold srvE; rw [if_pos (.inr (by omega))])
    rw [e]
    exact fun w' h => ⟨_, [], rfl, fun _ => rfl, fun k => (by cases k), h⟩
   ·
    refine WL.v (v_pick_f rfl rfl rfl) rfl <| WL.nt <| WC.cond_f rfl <| WC.skip <| WE.then_n <| WC.seq <| WC.seq <| WC.region <| WL.v (v_move rfl rfl) rfl <| WL.v (v_len_slice rfl rfl Tryz.underlying48) rfl <| ?_
    refine WL.test (v_gtr rfl rfl rfl) (.none rfl) rfl rfl (fun h21 => ?_) (fun h21 => ?_)
    ·
     refine WL.nt <| WC.cond_t rfl <| WC.seq <| WC.region <| WL.v (v_assign rfl rfl) rfl <| WL.v (v_assign rfl rfl) rfl <| WL.nt <| WC.ret <| WE.then_ret <| WE.ret2 (P := Tryz.prog) (.inl rfl) Tryz.results15 rfl rfl <| ?_
     have e : srvE own ss = 3 := (by unfold srvE; rw [if_neg (by have := of_decide_eq_true h12; omega), if_pos (by omega)])
     rw [e]
     exact fun w' h => ⟨_, [], rfl, fun _ => rfl, fun k => (by cases k), h⟩
    ·
     refine WL.nt <| WC.cond_f rfl <| WC.skip <| WE.then_n <| WC.seq <| WC.region <| WL.v (v_move rfl rfl) rfl <| WL.call rfl rfl ck_48 (.none rfl) rfl rfl <| ?_
     intro w1 hS
     refine (xnew_c w1 own).mono ?_
     rintro e w' ⟨⟨gF, rfl⟩, hF⟩
     refine ⟨_, _, rfl, hS.ext hF, ?_⟩
     refine WL.v (v_build rfl rfl zero_147 plc_147 rfl) rfl <| WL.box rfl rfl rfl (.none rfl) rfl rfl <| ?_
     intro g25 hg25
     refine WL.v (v_assign rfl rfl) rfl <| WL.nt <| WC.seq <| WC.seq <| WC.region <| WL.v (v_move rfl rfl) rfl <| WL.v (v_len_slice rfl rfl Tryz.underlying48) rfl <| WL.v (v_move rfl rfl) rfl <| WL.nt <| WC.block <| ?_
     refine WC.loop (fun x : SvS => [(28, .int .i64 x.k), (27, .int .i64 ss.length), (26, .slice sa ss.length sc), (8, .pointer (some ⟨g25, 0, none⟩)), (0, .int .i64 own), (2, .int .i64 q)]) (fun x => .row g25 [.slice x.ad x.k x.c, .pointer (some ⟨gF, 0, none⟩)] :: (x.E ++ x.M)) (fun x => x.k ≤ ss.length ∧ Vec 1 x.ad x.k x.c (ptsL x.ms) x.E ∧ (∀ w2, (∀ e ∈ x.M, e.holds w2) → ∀ m ∈ x.ms, MRd w2 m) ∧ ∀ a ∈ ss.take x.k, okSd a) (fun x => ss.length - x.k) ⟨0, none, 0, [], [], []⟩ ⟨Nat.zero_le _, Vec.nil 1, fun _ _ _ h => (by cases h), fun _ h => (by cases h)⟩ (.cons rfl (.cons rfl (.cons rfl (.cons rfl (.cons rfl (.cons rfl .nil)))))) (.refl _) ?_
     rintro ⟨k, ad, c, E, ms, M⟩ ⟨hk, hV, hM, hok⟩
     dsimp only at hk hV hM hok
     dsimp only
     refine WC.seq <| WC.region <| ?_
     refine WL.test (v_lss rfl rfl rfl) (.none rfl) rfl rfl (fun h29 => ?_) (fun h29 => ?_)
     ·
      refine WL.nt <| WC.seq <| WC.cond_t rfl <| WC.skip <| WE.then_n <| WC.seq <| WC.block <| WC.seq <| WC.region <| WL.v (v_move rfl rfl) rfl <| ?_
      obtain ⟨a, hx⟩ : ∃ x, ss[k]? = some x := ⟨ss[k]'(by omega), List.getElem?_eq_getElem _⟩
      obtain ⟨b1, o1, ea1, r1⟩ := hR (by intro hh; have := encL_len sdL_len ss; rw [hh] at this; simp at this; omega)
      refine WL.v ((v_indexAddr (b := b1) (off := o1) (lo := k) rfl (by show some (Value.slice sa _ _) = _; rw [ea1]) rfl Tryz.underlying48 sz_137 rfl (by omega))) rfl ?_
      refine WL.v (v_loadN (cs := sdL a) rfl rfl many_137 (sdL_len a) (rgIn (fun h => h) (Rg.seg sdL_len r1 hx))) rfl <| WL.alloc rfl zero_137 (.none rfl) rfl rfl <| ?_
      intro g10 hg10
      refine WL.v (v_assign rfl rfl) rfl <| WL.storeW rfl rfl rfl rfl many_137 rfl rfl (.none rfl) rfl <| WL.nt <| WC.seq <| WC.seq <| WC.region <| WL.v (v_fieldAddr0 rfl rfl fld_137_0) rfl <| WL.v (v_load1 rfl rfl one_3 (cellAt rfl)) rfl <| WL.call rfl rfl ck_47 (.none rfl) rfl rfl <| ?_
      intro w hS
      refine Calls.then (ssys_c w a.1) hS ?_
      generalize h35 : decide (1 ≤ a.1 ∧ a.1 ≤ 65535) = b35
      cases b35
      ·
       refine WL.v (v_not rfl rfl rfl) rfl <| WL.v (v_move rfl rfl) rfl <| ?_
       iterate 3 refine WL.sk rfl ?_
       refine WL.v (v_pick_t rfl rfl rfl) rfl <| WL.nt <| WC.cond_t rfl <| WC.seq <| WC.region <| WL.v (v_assign rfl rfl) rfl <| WL.v (v_assign rfl rfl) rfl <| WL.nt <| WC.ret <| WE.then_ret <| WE.block_ret <| WE.then_ret <| WE.then_ret <| WE.block_ret <| ?_
       refine WE.then_ret <| WE.ret2 (P := Tryz.prog) (.inl rfl) Tryz.results15 rfl rfl <| ?_
       rw [srvE_bad hx (fun k => absurd k.1 (of_decide_eq_false h35)) (by omega)]
       exact fun w' h => ⟨_, [], rfl, fun _ => rfl, fun k => (by cases k), h.sub (List.nil_sublist _)⟩
      ·
       refine WL.v (v_not rfl rfl rfl) rfl <| WL.v (v_move rfl rfl) rfl <| WL.val (v_fieldAddr0 rfl rfl fld_137_1) (.some rfl rfl rfl) rfl rfl <| WL.val (v_load1 rfl rfl one_30 (cellAt rfl)) (.some rfl rfl rfl) rfl rfl <| ?_
       refine WL.test (v_eql rfl rfl rfl) (.some rfl rfl rfl) rfl rfl (fun h40 => ?_) (fun h40 => ?_)
       ·
        refine WL.v (v_pick_f rfl rfl rfl) rfl <| WL.nt <| WC.cond_t rfl <| WC.seq <| WC.region <| WL.v (v_assign rfl rfl) rfl <| WL.v (v_assign rfl rfl) rfl <| WL.nt <| WC.ret <| WE.then_ret <| WE.block_ret <| WE.then_ret <| WE.then_ret <| WE.block_ret <| ?_
        refine WE.then_ret <| WE.ret2 (P := Tryz.prog) (.inl rfl) Tryz.results15 rfl rfl <| ?_
        rw [srvE_bad hx (fun k => k.2 h40) (by omega)]
        exact fun w' h => ⟨_, [], rfl, fun _ => rfl, fun k => (by cases k), h.sub (List.nil_sublist _)⟩
       ·
        refine WL.v (v_pick_f rfl rfl rfl) rfl <| WL.nt <| WC.cond_f rfl <| WC.skip <| WE.then_n <| WC.heldT 16 ([.row g10 (sdL a), .row g25 [.slice ad k c, .pointer (some ⟨gF, 0, none⟩)]]) mixed <| ?_
        refine WRT.first (g := 10) [0, 1, 2, 3, 4, 5, 6, 7, 8] (by kernel_rfl) (by kernel_rfl) (by kernel_rfl) (fun w hS => hS.sub (by repeat (first | exact List.Sublist.refl _ | exact List.nil_sublist _ | refine List.Sublist.cons_cons _ ?_ | refine List.Sublist.cons _ ?_ | refine List.sublist_append_of_sublist_right ?_))) ?_
        refine WH.val (v_move rfl rfl) (.none rfl) rfl rfl <| WH.val (v_move rfl rfl) (.none rfl) rfl rfl <| WH.val (v_nilCheck rfl rfl) (.none rfl) rfl rfl <| WH.val (v_fieldAddr0 rfl rfl fld_147_0) (.none rfl) rfl rfl <| WH.val (v_load1 rfl rfl one_145 (cellAt (v := .slice ad k c) rfl)) (.none rfl) rfl rfl <| WH.val (v_loadN rfl rfl many_137 rfl allAt) (.none rfl) rfl rfl <| WH.val (v_move rfl rfl) (.none rfl) rfl rfl <| WH.val (v_move rfl rfl) (.none rfl) rfl rfl <| WH.val (v_move rfl rfl) (.none rfl) rfl rfl <| WH.nilT <| ?_
        refine WRT.cut (g' := 7) (listed' := marks (Array.replicate 19 false) [0, 1, 2, 3, 4, 5, 6, 7, 8, 9, 10, 11]) (fun x : Nat × Nat × Int × Int × Nat × Nat => [(53, .map (some x.2.2.2.2.2)), (52, .map (some x.2.2.2.2.1)), (51, .pointer (some ⟨x.1, 0, none⟩)), (47, .agg (sdL a).toArray), (46, .slice ad k c), (42, .pointer (some ⟨g25, 0, none⟩)), (28, .int .i64 k), (27, .int .i64 ss.length), (26, .slice sa ss.length sc), (8, .pointer (some ⟨g25, 0, none⟩)), (0, .int .i64 own), (2, .int .i64 q)]) (fun x => .row g10 (sdL a) :: .row g25 [.slice ad k c, .pointer (some ⟨gF, 0, none⟩)] :: (E ++ (.row x.1 [.int .i64 k, .int .i64 own, .int .i64 x.2.2.1, .pointer (some ⟨x.2.1, 0, none⟩)] :: .row x.2.1 [.pointer none, .int .i64 x.2.2.2.1, .int .i64 0] :: .obj x.2.2.2.2.1 (.map #[] 0) :: .obj x.2.2.2.2.2 (.map #[] 0) :: M))) (fun _ => True) (fun hcut => ?_) ?_
        ·
         refine WRT.each (g := 9) [9, 10, 11] (by kernel_rfl) (by decide) ?_
         refine ⟨?_, ⟨?_, ?_⟩⟩
         ·
          refine WL.call rfl rfl ck_49 (.none rfl) rfl rfl ?_
          intro w1 hS
          refine (anew_c w1 k own q).mono ?_
          rintro e w' ⟨r, t, q1, q2, rfl, hS'⟩
          refine ⟨_, _, rfl, hS.join hS', ?_⟩
          refine WL.nilT (fun w hS => hS.sub (by repeat (first | exact List.Sublist.refl _ | exact List.nil_sublist _ | refine List.Sublist.cons_cons _ ?_ | refine List.Sublist.cons _ ?_ | refine List.sublist_append_of_sublist_right ?_))) ?_
          refine WRT.each (g := 8) [10, 11] (by kernel_rfl) (by decide) ?_
          refine ⟨?_, ?_⟩
          ·
           refine WL.makeMap rfl (.none rfl) rfl rfl ?_
           intro g52 hg52
           refine WL.nilT (fun w hS => hS.sub (by repeat (first | exact List.Sublist.refl _ | exact List.nil_sublist _ | refine List.Sublist.cons_cons _ ?_ | refine List.Sublist.cons _ ?_ | refine List.sublist_append_of_sublist_right ?_))) ?_
           refine WRT.one (g := 7) 11 (by kernel_rfl) ?_
           refine WL.makeMap rfl (.none rfl) rfl rfl ?_
           intro g53 hg53
           refine WL.nilT (fun w hS => hS.sub (by repeat (first | exact List.Sublist.refl _ | exact List.nil_sublist _ | refine List.Sublist.cons_cons _ ?_ | refine List.Sublist.cons _ ?_ | refine List.sublist_append_of_sublist_right ?_))) ?_
           exact (hcut (r, t, q1, q2, g52, g53) trivial).to (.cons rfl (.cons rfl (.cons rfl (.cons rfl (.cons rfl (.cons rfl (.cons rfl (.cons rfl (.cons rfl (.cons rfl (.cons rfl (.cons rfl .nil)))))))))))) (fun w hS => hS.permX)
          ·
           refine WL.makeMap rfl (.none rfl) rfl rfl ?_
           intro g53 hg53
           refine WL.nilT (fun w hS => hS.sub (by repeat (first | exact List.Sublist.refl _ | exact List.nil_sublist _ | refine List.Sublist.cons_cons _ ?_ | refine List.Sublist.cons _ ?_ | refine List.sublist_append_of_sublist_right ?_))) ?_
           refine WRT.one (g := 7) 10 (by kernel_rfl) ?_
           refine WL.makeMap rfl (.none rfl) rfl rfl ?_
           intro g52 hg52
           refine WL.nilT (fun w hS => hS.sub (by repeat (first | exact List.Sublist.refl _ | exact List.nil_sublist _ | refine List.Sublist.cons_cons _ ?_ | refine List.Sublist.cons _ ?_ | refine List.sublist_append_of_sublist_right ?_))) ?_
           exact (hcut (r, t, q1, q2, g52, g53) trivial).to (.cons rfl (.cons rfl (.cons rfl (.cons rfl (.cons rfl (.cons rfl (.cons rfl (.cons rfl (.cons rfl (.cons rfl (.cons rfl (.cons rfl .nil)))))))))))) (fun w hS => hS.permX)
         ·
          refine WL.makeMap rfl (.none rfl) rfl rfl ?_
          intro g52 hg52
          refine WL.nilT (fun w hS => hS.sub (by repeat (first | exact List.Sublist.refl _ | exact List.nil_sublist _ | refine List.Sublist.cons_cons _ ?_ | refine List.Sublist.cons _ ?_ | refine List.sublist_append_of_sublist_right ?_))) ?_
          refine WRT.each (g := 8) [9, 11] (by kernel_rfl) (by decide) ?_
          refine ⟨?_, ?_⟩
          ·
           refine WL.call rfl rfl ck_49 (.none rfl) rfl rfl ?_
           intro w1 hS
           refine (anew_c w1 k own q).mono ?_
           rintro e w' ⟨r, t, q1, q2, rfl, hS'⟩
           refine ⟨_, _, rfl, hS.join hS', ?_⟩
           refine WL.nilT (fun w hS => hS.sub (by repeat (first | exact List.Sublist.refl _ | exact List.nil_sublist _ | refine List.Sublist.cons_cons _ ?_ | refine List.Sublist.cons _ ?_ | refine List.sublist_append_of_sublist_right ?_))) ?_
           refine WRT.one (g := 7) 11 (by kernel_rfl) ?_
           refine WL.makeMap rfl (.none rfl) rfl rfl ?_
           intro g53 hg53
           refine WL.nilT (fun w hS => hS.sub (by repeat (first | exact List.Sublist.refl _ | exact List.nil_sublist _ | refine List.Sublist.cons_cons _ ?_ | refine List.Sublist.cons _ ?_ | refine List.sublist_append_of_sublist_right ?_))) ?_
           exact (hcut (r, t, q1, q2, g52, g53) trivial).to (.cons rfl (.cons rfl (.cons rfl (.cons rfl (.cons rfl (.cons rfl (.cons rfl (.cons rfl (.cons rfl (.cons rfl (.cons rfl (.cons rfl .nil)))))))))))) (fun w hS => hS.permX)
          ·
           refine WL.makeMap rfl (.none rfl) rfl rfl ?_
           intro g53 hg53
           refine WL.nilT (fun w hS => hS.sub (by repeat (first | exact List.Sublist.refl _ | exact List.nil_sublist _ | refine List.Sublist.cons_cons _ ?_ | refine List.Sublist.cons _ ?_ | refine List.sublist_append_of_sublist_right ?_))) ?_
           refine WRT.one (g := 7) 9 (by kernel_rfl) ?_
           refine WL.call rfl rfl ck_49 (.none rfl) rfl rfl ?_
           intro w1 hS
           refine (anew_c w1 k own q).mono ?_
           rintro e w' ⟨r, t, q1, q2, rfl, hS'⟩
           refine ⟨_, _, rfl, hS.join hS', ?_⟩
           refine WL.nilT (fun w hS => hS.sub (by repeat (first | exact List.Sublist.refl _ | exact List.nil_sublist _ | refine List.Sublist.cons_cons _ ?_ | refine List.Sublist.cons _ ?_ | refine List.sublist_append_of_sublist_right ?_))) ?_
           exact (hcut (r, t, q1, q2, g52, g53) trivial).to (.cons rfl (.cons rfl (.cons rfl (.cons rfl (.cons rfl (.cons rfl (.cons rfl (.cons rfl (.cons rfl (.cons rfl (.cons rfl (.cons rfl .nil)))))))))))) (fun w hS => hS.permX)
         ·
          refine WL.makeMap rfl (.none rfl) rfl rfl ?_
          intro g53 hg53
          refine WL.nilT (fun w hS => hS.sub (by repeat (first | exact List.Sublist.refl _ | exact List.nil_sublist _ | refine List.Sublist.cons_cons _ ?_ | refine List.Sublist.cons _ ?_ | refine List.sublist_append_of_sublist_right ?_))) ?_
          refine WRT.each (g := 8) [9, 10] (by kernel_rfl) (by decide) ?_
          refine ⟨?_, ?_⟩
          ·
           refine WL.call rfl rfl ck_49 (.none rfl) rfl rfl ?_
           intro w1 hS
           refine (anew_c w1 k own q).mono ?_
           rintro e w' ⟨r, t, q1, q2, rfl, hS'⟩
           refine ⟨_, _, rfl, hS.join hS', ?_⟩
           refine WL.nilT (fun w hS => hS.sub (by repeat (first | exact List.Sublist.refl _ | exact List.nil_sublist _ | refine List.Sublist.cons_cons _ ?_ | refine List.Sublist.cons _ ?_ | refine List.sublist_append_of_sublist_right ?_))) ?_
           refine WRT.one (g := 7) 10 (by kernel_rfl) ?_
           refine WL.makeMap rfl (.none rfl) rfl rfl ?_
           intro g52 hg52
           refine WL.nilT (fun w hS => hS.sub (by repeat (first | exact List.Sublist.refl _ | exact List.nil_sublist _ | refine List.Sublist.cons_cons _ ?_ | refine List.Sublist.cons _ ?_ | refine List.sublist_append_of_sublist_right ?_))) ?_
           exact (hcut (r, t, q1, q2, g52, g53) trivial).to (.cons rfl (.cons rfl (.cons rfl (.cons rfl (.cons rfl (.cons rfl (.cons rfl (.cons rfl (.cons rfl (.cons rfl (.cons rfl (.cons rfl .nil)))))))))))) (fun w hS => hS.permX)
          ·
           refine WL.makeMap rfl (.none rfl) rfl rfl ?_
           intro g52 hg52
           refine WL.nilT (fun w hS => hS.sub (by repeat (first | exact List.Sublist.refl _ | exact List.nil_sublist _ | refine List.Sublist.cons_cons _ ?_ | refine List.Sublist.cons _ ?_ | refine List.sublist_append_of_sublist_right ?_))) ?_
           refine WRT.one (g := 7) 9 (by kernel_rfl) ?_
           refine WL.call rfl rfl ck_49 (.none rfl) rfl rfl ?_
           intro w1 hS
           refine (anew_c w1 k own q).mono ?_
           rintro e w' ⟨r, t, q1, q2, rfl, hS'⟩
           refine ⟨_, _, rfl, hS.join hS', ?_⟩
           refine WL.nilT (fun w hS => hS.sub (by repeat (first | exact List.Sublist.refl _ | exact List.nil_sublist _ | refine List.Sublist.cons_cons _ ?_ | refine List.Sublist.cons _ ?_ | refine List.sublist_append_of_sublist_right ?_))) ?_
           exact (hcut (r, t, q1, q2, g52, g53) trivial).to (.cons rfl (.cons rfl (.cons rfl (.cons rfl (.cons rfl (.cons rfl (.cons rfl (.cons rfl (.cons rfl (.cons rfl (.cons rfl (.cons rfl .nil)))))))))))) (fun w hS => hS.permX)
        ·
         rintro ⟨r, t, q1, q2, g52, g53⟩ _
         dsimp only
         refine WRT.first (g := 6) [12] (by kernel_rfl) (by kernel_rfl) (by kernel_rfl) (fun w hS => hS.sub (by repeat (first | exact List.Sublist.refl _ | exact List.nil_sublist _ | refine List.Sublist.cons_cons _ ?_ | refine List.Sublist.cons _ ?_ | refine List.sublist_append_of_sublist_right ?_))) ?_
         refine WH.val (v_build rfl rfl zero_154 plc_154 rfl) (.none rfl) rfl rfl <| WH.nilT <| ?_
         refine WRT.one (g := 5) 13 (by kernel_rfl) ?_
         refine WL.box rfl rfl rfl (.none rfl) rfl rfl ?_
         intro g55 hg55
         refine WL.nilT (fun w hS => hS.sub (by repeat (first | exact List.Sublist.refl _ | exact List.nil_sublist _ | refine List.Sublist.cons_cons _ ?_ | refine List.Sublist.cons _ ?_ | refine List.sublist_append_of_sublist_right ?_))) ?_
         refine WRT.one (g := 4) 14 (by kernel_rfl) ?_
         refine WL.buildSlice rfl rfl Tryz.underlying145 sz_148 zero_148 rfl (by decide) rfl (.none rfl) rfl rfl ?_
         intro g56 hg56
         refine WL.as (L' := .row g56 [.pointer (some ⟨g55, 0, none⟩)] :: .row g55 [.int .i64 a.1, .int .u32 a.2, .bool false, .pointer (some ⟨r, 0, none⟩), .map (some g52), .map (some g53)] :: .row g10 (sdL a) :: .row g25 [.slice ad k c, .pointer (some ⟨gF, 0, none⟩)] :: (E ++ (.row r [.int .i64 k, .int .i64 own, .int .i64 q1, .pointer (some ⟨t, 0, none⟩)] :: .row t [.pointer none, .int .i64 q2, .int .i64 0] :: .obj g52 (.map #[] 0) :: .obj g53 (.map #[] 0) :: M))) rfl <| WL.to (L' := E ++ (.row g56 [.pointer (some ⟨g55, 0, none⟩)] :: .row g10 (sdL a) :: .row g25 [.slice ad k c, .pointer (some ⟨gF, 0, none⟩)] :: .row g55 [.int .i64 a.1, .int .u32 a.2, .bool false, .pointer (some ⟨r, 0, none⟩), .map (some g52), .map (some g53)] :: .row r [.int .i64 k, .int .i64 own, .int .i64 q1, .pointer (some ⟨t, 0, none⟩)] :: .row t [.pointer none, .int .i64 q2, .int .i64 0] :: .obj g52 (.map #[] 0) :: .obj g53 (.map #[] 0) :: M)) (fun w hS => hS.permX) <| ?_
         refine WL.nilT (fun w hS => hS.sub (by repeat (first | exact List.Sublist.refl _ | exact List.nil_sublist _ | refine List.Sublist.cons_cons _ ?_ | refine List.Sublist.cons _ ?_ | refine List.sublist_append_of_sublist_right ?_))) ?_
         refine WRT.one (g := 3) 15 (by kernel_rfl) ?_
         refine WL.appendL rfl rfl rfl Tryz.underlying145 Tryz.underlying145 sz_148 by_148 zero_148 rfl rfl hV (new := [.pointer (some ⟨g55, 0, none⟩)]) (fun _ => ⟨g56, 0, rfl, fun w hS => allAt (g := g56) w hS⟩) rfl rfl (by omega) (.none rfl) rfl rfl ?_
         intro ad57 c57 E57 hV57 hr57
         refine WL.nilT (fun w hS => hS.sub (by repeat (first | exact List.Sublist.refl _ | exact List.nil_sublist _ | refine List.Sublist.cons_cons _ ?_ | refine List.Sublist.cons _ ?_ | refine List.sublist_append_of_sublist_right ?_))) ?_
         refine WRT.one (g := 2) 16 (by kernel_rfl) ?_
         refine WL.v (v_nilCheck rfl rfl) rfl <| WL.nilT2 rfl <| ?_
         refine WRT.one (g := 1) 17 (by kernel_rfl) ?_
         refine WL.v (v_fieldAddr0 rfl rfl fld_147_0) rfl <| WL.nilT2 rfl <| ?_
         refine WRT.one (g := 0) 18 (by kernel_rfl) ?_
         refine WL.store1 rfl rfl rfl rfl one_145 (Nat.le_of_ble_eq_true rfl) (.none rfl) rfl <| WL.as (L' := E57 ++ (.row g56 [.pointer (some ⟨g55, 0, none⟩)] :: .row g10 (sdL a) :: .row g25 [.slice ad57 (k + 1) c57, .pointer (some ⟨gF, 0, none⟩)] :: .row g55 [.int .i64 a.1, .int .u32 a.2, .bool false, .pointer (some ⟨r, 0, none⟩), .map (some g52), .map (some g53)] :: .row r [.int .i64 k, .int .i64 own, .int .i64 q1, .pointer (some ⟨t, 0, none⟩)] :: .row t [.pointer none, .int .i64 q2, .int .i64 0] :: .obj g52 (.map #[] 0) :: .obj g53 (.map #[] 0) :: M)) rfl <| WL.to (L' := .row g25 [.slice ad57 (k + 1) c57, .pointer (some ⟨gF, 0, none⟩)] :: (E57 ++ (.row g56 [.pointer (some ⟨g55, 0, none⟩)] :: .row g55 [.int .i64 a.1, .int .u32 a.2, .bool false, .pointer (some ⟨r, 0, none⟩), .map (some g52), .map (some g53)] :: .row g10 (sdL a) :: .row r [.int .i64 k, .int .i64 own, .int .i64 q1, .pointer (some ⟨t, 0, none⟩)] :: .row t [.pointer none, .int .i64 q2, .int .i64 0] :: .obj g52 (.map #[] 0) :: .obj g53 (.map #[] 0) :: M))) (fun w hS => hS.permX) <| WL.nilT2 rfl <| ?_
         refine WRT.done (by kernel_rfl) ?_
         refine WE.block_n <| WE.then_n <| WC.region <| ?_
         refine WL.v (v_add rfl rfl rfl ((show _ = ((k + 1 : Nat) : Int) from (w_i64 (by omega) (by omega)).trans (by omega)))) rfl ?_
         refine WL.v (v_move rfl rfl) rfl <| WL.nil <| ?_
         exact WE.next ⟨k + 1, ad57, c57, E57, ms ++ [(g55, r, t)], _⟩ (by dsimp only; omega) ⟨by dsimp only; omega, by dsimp only; rw [ptsL_app]; exact hV57, fun w2 hw m hm => by
         rcases List.mem_append.1 hm with hm | hm
         · exact hM w2 (fun e he => hw e (by simp [he])) m hm
         · rw [List.mem_singleton.1 hm]
           exact ⟨Row.cell (hw _ (.tail _ (.head _))) rfl, Row.cell (hw _ (.tail _ (.tail _ (.tail _ (.head _))))) rfl, Row.cell (hw _ (.tail _ (.tail _ (.tail _ (.tail _ (.head _)))))) rfl⟩, fun a' ha' => by
         rw [List.take_add_one, hx] at ha'
         rcases List.mem_append.1 ha' with h | h
         · exact hok a' h
         · rw [List.mem_singleton.1 h]
           exact ⟨of_decide_eq_true h35, h40⟩⟩ (.cons rfl (.cons rfl (.cons rfl (.cons rfl (.cons rfl (.cons rfl .nil)))))) (.refl _)
     ·
      refine WL.nt <| WC.seq <| WC.cond_f rfl <| WC.exit <| WE.then_exit <| WE.then_exit <| WE.block_hit <| WE.then_n <| WC.seq <| WC.region <| WL.v (v_move rfl rfl) rfl <| WL.v (v_assign rfl rfl) rfl <| WL.v (v_assign rfl rfl) rfl <| WL.nt <| ?_
      refine WC.ret <| WE.ret2 (P := Tryz.prog) (.inl rfl) Tryz.results15 rfl rfl <| ?_
      obtain rfl : k = ss.length := (by omega)
      rw [List.take_length] at hok
      have e : srvE own ss = 0 := (by
        have := of_decide_eq_true h12
        unfold srvE
        rw [if_neg (by omega), if_neg (by omega), if_pos hok])
      rw [e]
      exact fun w' h => ⟨_, _, rfl, fun k => absurd rfl k, fun _ => ⟨g25, rfl, fun w2 hw => ⟨ad, c, ms, Row.cell (hw (.row g25 [.slice ad ss.length c, .pointer (some ⟨gF, 0, none⟩)]) (.head _)) rfl, by have := hV.len.1; rw [List.length_map] at this; omega, hV.rg fun e he => hw e (by simp [he]), hM w2 fun e he => hw e (by simp [he])⟩⟩, h⟩
end Go.Proofs.YtmhahajadgkolaaGreatDoor
/- sdx: going through maps that are empty; tags.New, arp.New; what is asked of an exchange with nobody. -/
namespace Go.Proofs.YtmhahajadgkolaaGreatDoor
open Go.RowKit

section
variable {P : Program} {C : World → Prop} {ops : Array Oper} {Q : Exit → Act → World → Prop} {n d : Nat} {p : Nat → Prop} {w0 : World} {o : Oper} {rest : List Oper} {l : Kn} {L : List Ent} {x : Operand} {t kt et : TypeId}
/-- An empty map lies there. -/
def Emp (w : World) (g : Nat) : Prop := w.heap[g]? = some (.map #[] 0)
theorem Emp.frm {w w' : World} {g : Nat} (h : Emp w g) (hF : Frm (fun _ => False) w w') : Emp w' g := hF.keep_obj (fun h => h) h
theorem WL.rangeE {g : Nat} (ho : o.op = .range t x) (hx : ev l x = some (.map (some g))) (hu : P.underlying t = some (.map kt et)) (hm : ∀ w, St p w0 w L → Emp w g) (hg : On ops o l) (hd : o.dst = some d) (hn : Nat.blt d n = true)
    (h : ∀ r, w0.heap.size ≤ r → WL P ops Q n p w0 rest ((d, .pointer (some ⟨r, 0, none⟩)) :: l) (.obj r (.mapIter (some g) 0 #[] 0) :: L)) : WL P ops Q n p w0 (o :: rest) l L := by
  refine WL.op hg hd hn fun a w ha hS => ?_
  refine ⟨_, _, _, ?_, St.newObj (ob := .mapIter (some g) 0 #[] 0) hS trivial, h _ hS.frm.size⟩
  have h1 := ha.ev hx
  unfold execOp
  simp [ho, h1, Instr.range, run_underlying hu, MapKept.run_getObj_map (hm w hS), newObj, Sem.run, Result.andThen]
theorem WL.nextE {r g : Nat} {F : Ent → List Ent} (ho : o.op = .next x false) (hx : ev l x = some (.pointer (some ⟨r, 0, none⟩))) [hL : Loc L r (.obj r (.mapIter (some g) 0 #[] 0)) F] (hm : ∀ w, St p w0 w L → Emp w g)
    (hg : On ops o l) (hd : o.dst = some d) (hn : Nat.blt d n = true)
    (h : WL P ops Q n p w0 rest ((d, .tuple #[.bool false]) :: l) L) : WL P ops Q n p w0 (o :: rest) l L := by
  refine WL.op hg hd hn fun a w ha hS => ?_
  obtain ⟨A', B', rfl, rfl⟩ := hL.ok
  have h1 := ha.ev hx
  have hi := (hS.holds (.obj r (.mapIter (some g) 0 #[] 0)) (by simp)).1
  rcases run_next (P := P) (ty := o.type) hi (hm w hS) ⟨fun e he => by simp at he, by simp⟩ with ⟨hall, w', hw', hr⟩ | ⟨e, w', he, _⟩
  · refine ⟨_, w', _, ?_, ?_, h⟩
    · unfold execOp; simp [ho, h1, hr]
    · rcases hw' with rfl | rfl
      · exact hS
      · exact hS.drew
  · simp at he
end
end Go.Proofs.YtmhahajadgkolaaGreatDoor
/- The evaluator: values whose blocks are numbered as they come, and where these blocks lie; pure operations by the model's own run. -/
namespace Go.Proofs.YtmhahajadgkolaaGreatDoor
open Go.RowKit

/-! ### Values without blocks -/
mutual
def plainB : Value → Bool
  | .bool _ | .int _ _ | .string _ | .pointer none | .slice none _ _ | .map none | .nilFunc | .nilIface => true
  | .iface _ v => plainB v
  | .agg cs => plainA cs
  | .tuple vs => plainA vs
  | .func _ fi ca => plainA fi && plainA ca
  | _ => false
def plainA : Array Value → Bool
  | ⟨l⟩ => plainL l
def plainL : List Value → Bool
  | [] => true
  | v :: vs => plainB v && plainL vs
end
theorem plainA_mk (l : List Value) : plainA l.toArray = plainL l := by rw [plainA]
/-- Where a block lies, and how many elements it has room for (open blocks). -/
abbrev Rn := Nat → Option (Nat × Nat)
def Rn.le (R R' : Rn) : Prop := ∀ k x, R k = some x → R' k = some x
theorem Rn.le.refl (R : Rn) : R.le R := fun _ _ h => h
theorem Rn.le.trans {R R' R'' : Rn} (h : R.le R') (h' : R'.le R'') : R.le R'' := fun k x hk => h' k x (h k x hk)
def Rn.set (R : Rn) (n : Nat) (x : Nat × Nat) : Rn := fun k => if k = n then some x else R k
theorem Rn.set_le {R : Rn} {n : Nat} {x : Nat × Nat} (h : R n = none) : R.le (R.set n x) := fun k y hk => by
  unfold Rn.set
  rw [if_neg (fun e => by rw [e, h] at hk; cases hk)]
  exact hk
theorem Rn.set_self (R : Rn) (n : Nat) (x : Nat × Nat) : R.set n x n = some x := if_pos rfl
/-- The room of an open block is not known: counted down from here. -/
def openCap : Nat := 2305843009213693952
def capR (q c : Nat) : Nat := if c < 1152921504606846976 then c else q - (openCap - c)
mutual
inductive VR (R : Rn) : Value → Value → Prop
  | plain {v : Value} : plainB v = true → VR R v v
  | ptr {k o b q : Nat} : R k = some (b, q) → VR R (.pointer (some ⟨k, o, none⟩)) (.pointer (some ⟨b, o, none⟩))
  | slice {k o b q n c : Nat} : R k = some (b, q) → n ≤ capR q c → VR R (.slice (some ⟨k, o, none⟩) n c) (.slice (some ⟨b, o, none⟩) n (capR q c))
  | empty {a : Addr} {c : Nat} : VR R (.slice (some ⟨0, 0, some 0⟩) 0 0) (.slice (some a) 0 c)
  | map {k b q : Nat} : R k = some (b, q) → VR R (.map (some k)) (.map (some b))
  | func {f : Fn} {fi ca fi' ca' : List Value} : VRs R fi fi' → VRs R ca ca' → VR R (.func f fi.toArray ca.toArray) (.func f fi'.toArray ca'.toArray)
  | iface {t : TypeId} {v v' : Value} : VR R v v' → VR R (.iface t v) (.iface t v')
  | agg {cs cs' : List Value} : VRs R cs cs' → VR R (.agg cs.toArray) (.agg cs'.toArray)
  | tuple {cs cs' : List Value} : VRs R cs cs' → VR R (.tuple cs.toArray) (.tuple cs'.toArray)
inductive VRs (R : Rn) : List Value → List Value → Prop
  | nil : VRs R [] []
  | cons {v v' : Value} {vs vs' : List Value} : VR R v v' → VRs R vs vs' → VRs R (v :: vs) (v' :: vs')
end
theorem VRs.plain {R : Rn} : ∀ {vs : List Value}, plainL vs = true → VRs R vs vs
  | [], _ => .nil
  | v :: vs, h => by
    unfold plainL at h
    rw [Bool.and_eq_true] at h
    exact .cons (.plain h.1) (VRs.plain h.2)
mutual
theorem VR.mono {R R' : Rn} (h : R.le R') : ∀ {v v' : Value}, VR R v v' → VR R' v v'
  | _, _, .plain e => .plain e
  | _, _, .ptr e => .ptr (h _ _ e)
  | _, _, .slice e e' => .slice (h _ _ e) e'
  | _, _, .empty => .empty
  | _, _, .map e => .map (h _ _ e)
  | _, _, .func a b => .func (VRs.mono h a) (VRs.mono h b)
  | _, _, .iface a => .iface (VR.mono h a)
  | _, _, .agg a => .agg (VRs.mono h a)
  | _, _, .tuple a => .tuple (VRs.mono h a)
theorem VRs.mono {R R' : Rn} (h : R.le R') : ∀ {v v' : List Value}, VRs R v v' → VRs R' v v'
  | _, _, .nil => .nil
  | _, _, .cons a b => .cons (VR.mono h a) (VRs.mono h b)
end
mutual
theorem VR.same {R : Rn} : ∀ {v v' : Value}, VR R v v' → plainB v = true → v' = v
  | _, _, .plain _, _ => rfl
  | _, _, .ptr _, h => by cases h
  | _, _, .slice _ _, h => by cases h
  | _, _, .empty, h => by cases h
  | _, _, .map _, h => by cases h
  | _, _, .func a b, h => by
    simp only [plainB, plainA_mk, Bool.and_eq_true] at h
    rw [VRs.same a h.1, VRs.same b h.2]
  | _, _, .iface a, h => by rw [VR.same a (by simpa only [plainB] using h)]
  | _, _, .agg a, h => by rw [VRs.same a (by simpa only [plainB, plainA_mk] using h)]
  | _, _, .tuple a, h => by rw [VRs.same a (by simpa only [plainB, plainA_mk] using h)]
theorem VRs.same {R : Rn} : ∀ {v v' : List Value}, VRs R v v' → plainL v = true → v' = v
  | _, _, .nil, _ => rfl
  | _, _, .cons a b, h => by
    simp only [plainL, Bool.and_eq_true] at h
    rw [VR.same a h.1, VRs.same b h.2]
end
theorem VRs.length {R : Rn} : ∀ {vs vs' : List Value}, VRs R vs vs' → vs'.length = vs.length
  | _, _, .nil => rfl
  | _, _, .cons _ h => by rw [List.length_cons, List.length_cons, VRs.length h]
theorem VRs.get {R : Rn} : ∀ {vs vs' : List Value} {i : Nat} {v : Value}, VRs R vs vs' → vs[i]? = some v → ∃ v', vs'[i]? = some v' ∧ VR R v v'
  | _, _, _, _, .nil, h => by cases h
  | _, _, 0, _, .cons (v' := v') a _, h => by
    rw [List.getElem?_cons_zero] at h
    injection h with h
    subst h
    exact ⟨v', rfl, a⟩
  | _, _, i + 1, _, .cons _ b, h => by
    rw [List.getElem?_cons_succ] at h
    obtain ⟨v', h1, h2⟩ := VRs.get b h
    exact ⟨v', by rw [List.getElem?_cons_succ]; exact h1, h2⟩
theorem VRs.app {R : Rn} : ∀ {a a' b b' : List Value}, VRs R a a' → VRs R b b' → VRs R (a ++ b) (a' ++ b')
  | _, _, _, _, .nil, h => h
  | _, _, _, _, .cons x h, h' => .cons x (VRs.app h h')
theorem VRs.drop {R : Rn} : ∀ {a a' : List Value} (k : Nat), VRs R a a' → VRs R (a.drop k) (a'.drop k)
  | _, _, 0, h => h
  | _, _, _ + 1, .nil => .nil
  | _, _, k + 1, .cons _ h => VRs.drop k h
theorem VRs.take {R : Rn} : ∀ {a a' : List Value} (k : Nat), VRs R a a' → VRs R (a.take k) (a'.take k)
  | _, _, 0, _ => .nil
  | _, _, _ + 1, .nil => .nil
  | _, _, k + 1, .cons x h => .cons x (VRs.take k h)
theorem VRs.set {R : Rn} : ∀ {a a' : List Value} (k : Nat) {v v' : Value}, VRs R a a' → VR R v v' → VRs R (a.set k v) (a'.set k v')
  | _, _, _, _, _, .nil, _ => .nil
  | _, _, 0, _, _, .cons _ h, x => .cons x h
  | _, _, k + 1, _, _, .cons y h, x => .cons y (VRs.set k h x)
theorem VRs.splice {R : Rn} : ∀ {a a' : List Value} (k : Nat) {v v' : List Value}, VRs R a a' → VRs R v v' → VRs R (splice a k v) (splice a' k v')
  | _, _, k, _, _, .nil, .nil => by cases k <;> exact .nil
  | _, _, k, _, _, .nil, .cons x h => by cases k <;> exact .nil
  | _, _, k, _, _, .cons y h, .nil => by rw [splice_nil, splice_nil]; exact .cons y h
  | _, _, 0, _, _, .cons _ h, .cons x h' => .cons x (VRs.splice 0 h h')
  | _, _, k + 1, _, _, .cons y h, .cons x h' => .cons y (VRs.splice k h (.cons x h'))
/-! ### What a value is, taken apart -/
section
variable {R : Rn}
theorem VR.int_inv {k : IntKind} {n : Int} {v : Value} (h : VR R (.int k n) v) : v = .int k n := by cases h; rfl
theorem VR.bool_inv {b : Bool} {v : Value} (h : VR R (.bool b) v) : v = .bool b := by cases h; rfl
theorem VR.ptr_inv {a : Addr} {v : Value} (h : VR R (.pointer (some a)) v) : ∃ b q, a.spot = none ∧ R a.block = some (b, q) ∧ v = .pointer (some ⟨b, a.off, none⟩) := by
  cases h with
  | plain e => cases e
  | ptr e => exact ⟨_, _, rfl, e, rfl⟩
theorem VR.slice_inv {a : Addr} {n c : Nat} {v : Value} (hs : a.spot = none) (h : VR R (.slice (some a) n c) v) : ∃ b q, a.spot = none ∧ R a.block = some (b, q) ∧ n ≤ capR q c ∧ v = .slice (some ⟨b, a.off, none⟩) n (capR q c) := by
  cases h with
  | plain e => cases e
  | slice e e' => exact ⟨_, _, rfl, e, e', rfl⟩
  | empty => cases hs
/-- .. its length. -/
theorem VR.slice_len {a : Option Addr} {n c : Nat} {v : Value} (h : VR R (.slice a n c) v) : ∃ a' c', v = .slice a' n c' ∧ (a' = none ↔ a = none) := by
  cases h with
  | plain e => exact ⟨_, _, rfl, Iff.rfl⟩
  | slice e e' => exact ⟨_, _, rfl, by simp⟩
  | empty => exact ⟨_, _, rfl, by simp⟩
theorem VR.snil_inv {n c : Nat} {v : Value} (h : VR R (.slice none n c) v) : v = .slice none n c := by cases h; rfl
theorem VR.map_inv {k : Nat} {v : Value} (h : VR R (.map (some k)) v) : ∃ b q, R k = some (b, q) ∧ v = .map (some b) := by
  cases h with
  | plain e => cases e
  | map e => exact ⟨_, _, e, rfl⟩
theorem VR.mnil_inv {v : Value} (h : VR R (.map none) v) : v = .map none := by cases h; rfl
theorem plainA_toList {cs : Array Value} (h : plainA cs = true) : plainL cs.toList = true := by cases cs; exact h
theorem VR.agg_inv {cs : Array Value} {v : Value} (h : VR R (.agg cs) v) : ∃ cs', v = .agg cs'.toArray ∧ VRs R cs.toList cs' := by
  cases h with
  | plain e => exact ⟨cs.toList, by simp, VRs.plain (plainA_toList (by simpa [plainB] using e))⟩
  | agg e => exact ⟨_, rfl, e⟩
theorem VR.tuple_inv {cs : Array Value} {v : Value} (h : VR R (.tuple cs) v) : ∃ cs', v = .tuple cs'.toArray ∧ VRs R cs.toList cs' := by
  cases h with
  | plain e => exact ⟨cs.toList, by simp, VRs.plain (plainA_toList (by simpa [plainB] using e))⟩
  | tuple e => exact ⟨_, rfl, e⟩
theorem VR.func_inv {f : Fn} {fi ca : Array Value} {v : Value} (h : VR R (.func f fi ca) v) : ∃ fi' ca', v = .func f (List.toArray fi') (List.toArray ca') ∧ VRs R fi.toList fi' ∧ VRs R ca.toList ca' := by
  cases h with
  | plain e =>
    simp only [plainB, Bool.and_eq_true] at e
    exact ⟨fi.toList, ca.toList, by simp, VRs.plain (plainA_toList e.1), VRs.plain (plainA_toList e.2)⟩
  | func a b => exact ⟨_, _, rfl, a, b⟩
end
/-! ### Pure runs -/
def pureE {α : Type} (P : Program) : Sem α → Option α
  | .pure a => some a
  | .program k => pureE P (k P)
  | .mark _ k => pureE P k
  | _ => none
theorem pureE_run {α : Type} {P : Program} {w : World} : ∀ {t : Sem α} {a : α}, pureE P t = some a → t.run P w = .ok a w
  | .pure _, _, h => by cases h; rfl
  | .program k, _, h => pureE_run (t := k P) h
  | .mark _ k, _, h => pureE_run (t := k) h
  | .load .., _, h => by cases h
  | .store .., _, h => by cases h
  | .new .., _, h => by cases h
  | .shape .., _, h => by cases h
  | .freeze .., _, h => by cases h
  | .frozen .., _, h => by cases h
  | .getObj .., _, h => by cases h
  | .setObj .., _, h => by cases h
  | .choose .., _, h => by cases h
  | .sys .., _, h => by cases h
  | .halt .., _, h => by cases h
end Go.Proofs.YtmhahajadgkolaaGreatDoor
/- The evaluator: its memory, a tree of blocks by number. -/
namespace Go.Proofs.YtmhahajadgkolaaGreatDoor
open Go.RowKit

/-- A block: cells (open: its elements' size; it may go on behind what is known), a map of a key's type (it: the iterator that goes through it, which map is of one entry at most; whether the entry was seen), an iterator. -/
inductive VO where
  | row (cs : List Value) (op : Option Nat)
  | map (kt : Nat) (es : List (Value × Value)) (it : Option (Nat × Bool))
  | iter (m : Option Nat)
inductive Tr where
  | e
  | l (v : VO)
  | n (a b : Tr)
def Tr.get : Nat → Tr → Nat → Option VO
  | _, .e, _ => none
  | 0, .l v, _ => some v
  | d + 1, .n a b, k => cond (Nat.beq (k % 2) 0) (Tr.get d a (k / 2)) (Tr.get d b (k / 2))
  | _, _, _ => none
def Tr.put : Nat → Tr → Nat → Option VO → Tr
  | 0, _, _, v => match v with | some v => .l v | none => .e
  | d + 1, .n a b, k, v => cond (Nat.beq (k % 2) 0) (.n (Tr.put d a (k / 2) v) b) (.n a (Tr.put d b (k / 2) v))
  | d + 1, _, k, v => cond (Nat.beq (k % 2) 0) (.n (Tr.put d .e (k / 2) v) .e) (.n .e (Tr.put d .e (k / 2) v))
theorem Tr.get_e (d k : Nat) : Tr.get d .e k = none := by cases d <;> rfl
theorem Tr.get_put : ∀ (d : Nat) (t : Tr) (k : Nat) (v : Option VO), Tr.get d (Tr.put d t k v) k = v
  | 0, t, k, v => by cases v <;> rfl
  | d + 1, t, k, v => by
    cases t with
    | n a b =>
      unfold Tr.put
      cases h : Nat.beq (k % 2) 0
      · simp only [cond_false, Tr.get, h]; exact Tr.get_put d b (k / 2) v
      · simp only [cond_true, Tr.get, h]; exact Tr.get_put d a (k / 2) v
    | e =>
      unfold Tr.put
      cases h : Nat.beq (k % 2) 0
      · simp only [cond_false, Tr.get, h]; exact Tr.get_put d .e (k / 2) v
      · simp only [cond_true, Tr.get, h]; exact Tr.get_put d .e (k / 2) v
    | l u =>
      unfold Tr.put
      cases h : Nat.beq (k % 2) 0
      · simp only [cond_false, Tr.get, h]; exact Tr.get_put d .e (k / 2) v
      · simp only [cond_true, Tr.get, h]; exact Tr.get_put d .e (k / 2) v
theorem Tr.get_put_ne : ∀ (d : Nat) (t : Tr) (j k : Nat) (v : Option VO), j ≠ k → j < 2 ^ d → k < 2 ^ d → Tr.get d (Tr.put d t k v) j = Tr.get d t j
  | 0, t, j, k, v, h, hj, hk => by simp at hj hk; omega
  | d + 1, t, j, k, v, h, hj, hk => by
    have hj2 : j / 2 < 2 ^ d := by rw [Nat.pow_succ] at hj; omega
    have hk2 : k / 2 < 2 ^ d := by rw [Nat.pow_succ] at hk; omega
    have key : ∀ (a b : Tr), Tr.get (d + 1) (cond (Nat.beq (k % 2) 0) (.n (Tr.put d a (k / 2) v) b) (.n a (Tr.put d b (k / 2) v))) j = Tr.get (d + 1) (.n a b) j := fun a b => by
      cases h1 : Nat.beq (k % 2) 0 <;> cases h2 : Nat.beq (j % 2) 0 <;> simp only [cond_false, cond_true, Tr.get, h2]
      · have e1 : k % 2 ≠ 0 := fun e => by rw [e] at h1; cases h1
        have e2 : j % 2 ≠ 0 := fun e => by rw [e] at h2; cases h2
        exact Tr.get_put_ne d b _ _ v (by omega) hj2 hk2
      · have e1 := Nat.eq_of_beq_eq_true h1
        have e2 := Nat.eq_of_beq_eq_true h2
        exact Tr.get_put_ne d a _ _ v (by omega) hj2 hk2
    have ke : Tr.get (d + 1) (cond (Nat.beq (k % 2) 0) (.n (Tr.put d .e (k / 2) v) .e) (.n .e (Tr.put d .e (k / 2) v))) j = none := by
      rw [key]
      simp only [Tr.get, Tr.get_e]
      cases Nat.beq (j % 2) 0 <;> rfl
    cases t with
    | n a b => exact key a b
    | e => exact ke.trans (Tr.get_e _ _).symm
    | l u => exact ke
/-- The memory: so many numbers are given away. -/
structure Hp where
  n : Nat
  t : Tr
def hpD : Nat := 14
def hpM : Nat := 16384
def Hp.get (H : Hp) (k : Nat) : Option VO := cond (Nat.blt k hpM) (Tr.get hpD H.t k) none
def Hp.put (H : Hp) (k : Nat) (v : Option VO) : Hp := ⟨H.n, Tr.put hpD H.t k v⟩
def Hp.new (H : Hp) (v : VO) : Hp := ⟨H.n + 1, Tr.put hpD H.t H.n (some v)⟩
theorem Hp.get_lt {H : Hp} {k : Nat} {v : VO} (h : H.get k = some v) : k < hpM := by
  unfold Hp.get at h
  cases hb : Nat.blt k hpM
  · rw [hb] at h; cases h
  · simpa using hb
theorem Hp.get_put {H : Hp} {k : Nat} (hk : k < hpM) (v : Option VO) : (H.put k v).get k = v := by
  unfold Hp.get Hp.put
  rw [show Nat.blt k hpM = true by simpa using hk]
  exact Tr.get_put ..
theorem Hp.get_put_ne {H : Hp} {j k : Nat} (hk : k < hpM) (h : j ≠ k) (v : Option VO) : (H.put k v).get j = H.get j := by
  unfold Hp.get Hp.put
  cases hb : Nat.blt j hpM
  · rfl
  · exact Tr.get_put_ne _ _ _ _ _ h (show j < hpM by simpa using hb) hk
theorem Hp.get_new {H : Hp} (hk : H.n < hpM) (v : VO) : (H.new v).get H.n = some v := Hp.get_put (H := H) hk (some v)
theorem Hp.get_new_ne {H : Hp} {j : Nat} (hk : H.n < hpM) (h : j ≠ H.n) (v : VO) : (H.new v).get j = H.get j := Hp.get_put_ne (H := H) hk h (some v)
end Go.Proofs.YtmhahajadgkolaaGreatDoor
/- The evaluator: what its memory and frame say of the true ones; operations that only yield a value. -/
namespace Go.Proofs.YtmhahajadgkolaaGreatDoor
open Go.RowKit

/-- base: blocks below it are only read; gl: the globals' numbers. -/
structure Ev where
  base : Nat
  gl : List (Nat × Nat)
  keys : List (Nat × (Value → Bool))
noncomputable section
def lget {α : Type} (l : List α) (i : Nat) : Option α := List.rec (motive := fun _ => Nat → Option α) (fun _ => none) (fun a _ ih n => Nat.rec (motive := fun _ => Option α) (some a) (fun m _ => ih m) n) l i
theorem lget_eq {α : Type} : ∀ (l : List α) (i : Nat), lget l i = l[i]?
  | [], _ => rfl
  | _ :: _, 0 => rfl
  | _ :: r, i + 1 => lget_eq r i
end
def glGet : List (Nat × Nat) → Nat → Option Nat
  | [], _ => none
  | (g, k) :: r, x => cond (Nat.beq g x) (some k) (glGet r x)
def keyGet : List (Nat × (Value → Bool)) → Nat → Option (Value → Bool)
  | [], _ => none
  | (g, k) :: r, x => cond (Nat.beq g x) (some k) (keyGet r x)
/-- What is known of the frame, by slots. -/
abbrev Lk := Nat → Option Value
def Lk.put (kn : Lk) (d : Nat) (v : Value) : Lk := fun t => cond (Nat.beq d t) (some v) (kn t)
theorem look_put (kn : Kn) (d : Nat) (v : Value) : look ((d, v) :: kn) = Lk.put (look kn) d v := by
  funext t
  rfl
def evE (E : Ev) (kn : Lk) : Operand → Option Value
  | .tmp t => kn t
  | .const v => cond (plainB v) (some v) none
  | .global g => match glGet E.gl g with | some k => some (.pointer (some ⟨k, 0, none⟩)) | none => none
  | .func f => some (.func (.func f) #[] #[])
def evsE (E : Ev) (kn : Lk) : List Operand → Option (List Value)
  | [] => some []
  | x :: xs => match evE E kn x with
    | some v => match evsE E kn xs with | some vs => some (v :: vs) | none => none
    | none => none
def evpE (E : Ev) (kn : Lk) : List (Nat × Operand) → Option (List (Nat × Value))
  | [] => some []
  | (i, x) :: xs => match evE E kn x with
    | some v => match evpE E kn xs with | some vs => some ((i, v) :: vs) | none => none
    | none => none
/-! ### Equality of values -/
mutual
def eqV : Value → Value → Bool
  | .bool a, .bool b => a == b
  | .int k a, .int k' b => decide (k = k') && decide (a = b)
  | .string a, .string b => decide (a.data.toList = b.data.toList)
  | .pointer none, .pointer none => true
  | .pointer (some a), .pointer (some b) => Nat.beq a.block b.block && Nat.beq a.off b.off && a.spot.isNone && b.spot.isNone
  | .slice none n c, .slice none n' c' => Nat.beq n n' && Nat.beq c c'
  | .slice (some a) n c, .slice (some b) n' c' => Nat.beq a.block b.block && Nat.beq a.off b.off && a.spot.isNone && b.spot.isNone && Nat.beq n n' && Nat.beq c c'
  | .map none, .map none => true
  | .map (some a), .map (some b) => Nat.beq a b
  | .nilFunc, .nilFunc => true
  | .nilIface, .nilIface => true
  | .agg a, .agg b => eqA a b
  | .tuple a, .tuple b => eqA a b
  | _, _ => false
def eqA : Array Value → Array Value → Bool
  | ⟨a⟩, ⟨b⟩ => eqL a b
def eqL : List Value → List Value → Bool
  | [], [] => true
  | a :: as_, b :: bs => eqV a b && eqL as_ bs
  | _, _ => false
end
def assocV : List (Value × Value) → Value → Option Value
  | [], _ => none
  | (k, v) :: r, a => cond (eqV k a) (some v) (assocV r a)
def setV : List (Value × Value) → Value → Value → List (Value × Value)
  | [], a, v => [(a, v)]
  | (k, u) :: r, a, v => cond (eqV k a) ((k, v) :: r) ((k, u) :: setV r a v)
/-- A map's entries, one the other's. -/
def AssocR (R : Rn) (kb : Value → Bool) (es : List (Value × Value)) (m : Value → Option Value) : Prop :=
  (∀ a, kb a = true → ∀ v, assocV es a = some v → ∃ v', m a = some v' ∧ VR R v v') ∧ ∀ a, kb a = true → assocV es a = none → m a = none
theorem AssocR.mono {R R' : Rn} (h : R.le R') {kb : Value → Bool} {es : List (Value × Value)} {m : Value → Option Value} (hA : AssocR R kb es m) : AssocR R' kb es m :=
  ⟨fun a ha v hv => by obtain ⟨v', h1, h2⟩ := hA.1 a ha v hv; exact ⟨v', h1, h2.mono h⟩, hA.2⟩
/-- What is said of a map. -/
structure MapR (E : Ev) (R : Rn) (kt : Nat) (es : List (Value × Value)) (es' : Array MapEntry) (c : Nat) (kb : Value → Bool) (m : Value → Option Value) : Prop where
  key : keyGet E.keys kt = some kb
  map : IMap (fun v => kb v = true) es' m
  st : MapKept.Stamped es' c
  size : es'.size = es.length
  kbs : ∀ p ∈ es, kb p.1 = true
  assoc : AssocR R kb es m
theorem MapR.mono {E : Ev} {R R' : Rn} (h : R.le R') {kt : Nat} {es : List (Value × Value)} {es' : Array MapEntry} {c : Nat} {kb : Value → Bool} {m : Value → Option Value} (hM : MapR E R kt es es' c kb m) : MapR E R' kt es es' c kb m :=
  ⟨hM.key, hM.map, hM.st, hM.size, hM.kbs, hM.assoc.mono h⟩
/-- What lies there is what the evaluator says. -/
def ER (E : Ev) (R : Rn) (k : Nat) (L : List Ent) : VO → Prop
  | .row cs op => ∃ b q cs' t, R k = some (b, q) ∧ VRs R cs cs' ∧ .row b (cs' ++ t) ∈ L ∧ (op = none → t = []) ∧ ∀ s, op = some s → (cs' ++ t).length = q * s
  | .map kt es it => ∃ b q es' c kb m, R k = some (b, q) ∧ .obj b (.map es' c) ∈ L ∧ MapR E R kt es es' c kb m ∧
      ∀ i dn, it = some (i, dn) → ∃ bi qi seen, R i = some (bi, qi) ∧ .obj bi (.mapIter (some b) c seen c) ∈ L ∧ es.length ≤ 1 ∧ (dn = false → seen = #[]) ∧ (dn = true → ∃ e ∈ es'.toList, seen = #[].push e.born)
  | .iter m => ∃ b q ob, R k = some (b, q) ∧ .obj b ob ∈ L ∧ Obj.noCells ob ∧ (m = none → ob = .mapIter none 0 #[] 0)
theorem ER.mono {E : Ev} {R R' : Rn} (h : R.le R') {k : Nat} {L L' : List Ent} (hL : ∀ e ∈ L, e ∈ L') {o : VO} (he : ER E R k L o) : ER E R' k L' o := by
  cases o with
  | row cs op => obtain ⟨b, q, cs', t, h1, h2, h3, h4⟩ := he; exact ⟨b, q, cs', t, h _ _ h1, h2.mono h, hL _ h3, h4⟩
  | map kt es it =>
    obtain ⟨b, q, es', c, kb, m, h1, h2, h3, h4⟩ := he
    refine ⟨b, q, es', c, kb, m, h _ _ h1, hL _ h2, h3.mono h, fun i dn e => ?_⟩
    obtain ⟨bi, qi, seen, g1, g2, g3⟩ := h4 i dn e
    exact ⟨bi, qi, seen, h _ _ g1, hL _ g2, g3⟩
  | iter m => obtain ⟨b, q, ob, h1, h2, h3, h4⟩ := he; exact ⟨b, q, ob, h _ _ h1, hL _ h2, h3, h4⟩
structure SR (E : Ev) (w0 : World) (R : Rn) (H : Hp) (L : List Ent) : Prop where
  lim : H.n ≤ hpM
  new : ∀ k, H.n ≤ k → R k = none
  gl : ∀ g k, glGet E.gl g = some k → ∃ q, R k = some (g, q)
  own : ∀ k o, H.get k = some o → E.base ≤ k → ER E R k L o
  inj : ∀ j k b q r, (∃ o, H.get j = some o) → (∃ o, H.get k = some o) → E.base ≤ j → E.base ≤ k → R j = some (b, q) → R k = some (b, r) → j = k
  old : ∀ k o, H.get k = some o → k < E.base → ∃ cs b q cs', o = .row cs none ∧ R k = some (b, q) ∧ VRs R cs cs' ∧ w0.rangeAt b 0 cs'
/-- New numbers alone are named. -/
def Rn.ext (H H' : Hp) (R R' : Rn) : Prop := R.le R' ∧ H.n ≤ H'.n ∧ ∀ k, k < H.n → R' k = R k
theorem Rn.ext.le {H H' : Hp} {R R' : Rn} (h : Rn.ext H H' R R') : R.le R' := h.1
theorem Rn.ext.same {H H' : Hp} {R : Rn} (h : H.n = H'.n) : Rn.ext H H' R R := ⟨Rn.le.refl R, Nat.le_of_eq h, fun _ _ => rfl⟩
theorem Rn.ext.trans {H H' H2 : Hp} {R R' R2 : Rn} (h : Rn.ext H H' R R') (h' : Rn.ext H' H2 R' R2) : Rn.ext H H2 R R2 :=
  ⟨h.1.trans h'.1, Nat.le_trans h.2.1 h'.2.1, fun k hk => (h'.2.2 k (Nat.lt_of_lt_of_le hk h.2.1)).trans (h.2.2 k hk)⟩
/-- What is known of the frame. -/
def KR (R : Rn) (kn : Lk) (l : Kn) : Prop := ∀ t v, kn t = some v → ∃ v', look l t = some v' ∧ VR R v v'
section
variable {E : Ev} {w0 : World} {R R' : Rn} {H : Hp} {L X : List Ent} {kn : Lk} {l : Kn}
theorem KR.mono (h : KR R kn l) (hR : R.le R') : KR R' kn l := fun t v hv => by
  obtain ⟨v', h1, h2⟩ := h t v hv
  exact ⟨v', h1, h2.mono hR⟩
theorem KR.put (h : KR R kn l) {d : Nat} {v v' : Value} (hv : VR R v v') : KR R (kn.put d v) ((d, v') :: l) := fun t u hu => by
  unfold look
  unfold Lk.put at hu
  cases hb : Nat.beq d t
  · rw [hb] at hu; exact h t u hu
  · rw [hb] at hu
    cases hu
    exact ⟨v', rfl, hv⟩
theorem KR.ev (h : KR R kn l) (hG : ∀ g k, glGet E.gl g = some k → ∃ q, R k = some (g, q)) {x : Operand} {v : Value} (hx : evE E kn x = some v) : ∃ v', ev l x = some v' ∧ VR R v v' := by
  cases x with
  | tmp t => exact h t v hx
  | const u =>
    replace hx : cond (plainB u) (some u) none = some v := hx
    cases hb : plainB u
    · rw [hb] at hx; cases hx
    · rw [hb] at hx; cases hx; exact ⟨_, rfl, .plain hb⟩
  | global g =>
    replace hx : (match glGet E.gl g with | some k => some (Value.pointer (some ⟨k, 0, none⟩)) | none => none) = some v := hx
    split at hx
    · rename_i k hk
      cases hx
      obtain ⟨q, hq⟩ := hG g k hk
      exact ⟨_, rfl, .ptr hq⟩
    · cases hx
  | func f =>
    cases hx
    exact ⟨_, rfl, .plain rfl⟩
theorem KR.evs (h : KR R kn l) (hG : ∀ g k, glGet E.gl g = some k → ∃ q, R k = some (g, q)) : ∀ {xs : List Operand} {vs : List Value}, evsE E kn xs = some vs → ∃ vs', evs l xs = some vs' ∧ VRs R vs vs'
  | [], _, hx => by cases hx; exact ⟨[], rfl, .nil⟩
  | x :: xs, vs, hx => by
    unfold evsE at hx
    split at hx
    · rename_i v hv
      split at hx
      · rename_i us hus
        cases hx
        obtain ⟨v', h1, h2⟩ := h.ev hG hv
        obtain ⟨us', h3, h4⟩ := h.evs hG hus
        exact ⟨v' :: us', by unfold YtmhahajadgkolaaGreatDoor.evs; rw [h1, h3], .cons h2 h4⟩
      · cases hx
    · cases hx
/-- Parts of what is built. -/
inductive VRp (R : Rn) : List (Nat × Value) → List (Nat × Value) → Prop
  | nil : VRp R [] []
  | cons {i : Nat} {v v' : Value} {vs vs' : List (Nat × Value)} : VR R v v' → VRp R vs vs' → VRp R ((i, v) :: vs) ((i, v') :: vs')
theorem KR.evp (h : KR R kn l) (hG : ∀ g k, glGet E.gl g = some k → ∃ q, R k = some (g, q)) : ∀ {xs : List (Nat × Operand)} {vs : List (Nat × Value)}, evpE E kn xs = some vs → ∃ vs', evp l xs = some vs' ∧ VRp R vs vs'
  | [], _, hx => by cases hx; exact ⟨[], rfl, .nil⟩
  | (i, x) :: xs, vs, hx => by
    unfold evpE at hx
    split at hx
    · rename_i v hv
      split at hx
      · rename_i us hus
        cases hx
        obtain ⟨v', h1, h2⟩ := h.ev hG hv
        obtain ⟨us', h3, h4⟩ := h.evp hG hus
        exact ⟨(i, v') :: us', by unfold YtmhahajadgkolaaGreatDoor.evp; rw [h1, h3], .cons h2 h4⟩
      · cases hx
    · cases hx
theorem VR.cells {v v' : Value} (h : VR R v v') : VRs R v.cells.toList v'.cells.toList := by
  cases h with
  | agg a => simpa [Value.cells] using a
  | plain e =>
    cases v with
    | agg cs =>
      have e' : plainA cs = true := by simpa only [plainB] using e
      exact VRs.plain (plainA_toList e')
    | _ => exact .cons (.plain e) .nil
  | ptr e => exact .cons (.ptr e) .nil
  | slice e e' => exact .cons (.slice e e') .nil
  | empty => exact .cons .empty .nil
  | map e => exact .cons (.map e) .nil
  | func a b => exact .cons (.func a b) .nil
  | iface a => exact .cons (.iface a) .nil
  | tuple a => exact .cons (.tuple a) .nil
theorem fillL_VR {pl : Nat → Option (Nat × Nat)} : ∀ {vs vs' : List (Nat × Value)} {cs cs' out : List Value}, VRp R vs vs' → VRs R cs cs' → fillL pl cs vs = some out → ∃ out', fillL pl cs' vs' = some out' ∧ VRs R out out'
  | _, _, _, cs', _, .nil, h, e => by cases e; exact ⟨cs', rfl, h⟩
  | _, _, cs, cs', out, .cons (i := i) (v := v) (v' := v') a b, h, e => by
    unfold fillL at e ⊢
    have hc := a.cells
    have e1 : v'.cells.toList.length = v.cells.toList.length := hc.length
    have e2 : cs'.length = cs.length := h.length
    rw [e1, e2]
    cases hp : pl i with
    | none => rw [hp] at e; cases e
    | some x =>
      obtain ⟨off, sz⟩ := x
      rw [hp] at e
      dsimp only at e ⊢
      cases hb : (Nat.beq v.cells.toList.length sz && Nat.ble (off + sz) cs.length)
      · rw [hb] at e; cases e
      · rw [hb] at e
        exact fillL_VR b (VRs.splice off h hc) e
/-- The cells of a block, as they lie there. -/
theorem SR.cells (h : SR E w0 R H L) {k : Nat} {cs : List Value} {op : Option Nat} (hk : H.get k = some (.row cs op)) : ∃ b q cs', R k = some (b, q) ∧ VRs R cs cs' ∧ ∀ w, St (fun _ => False) w0 w (L ++ X) → w.rangeAt b 0 cs' := by
  by_cases hb : k < E.base
  · obtain ⟨cs2, b, q, cs', e, h1, h2, h3⟩ := h.old k _ hk hb
    cases e
    exact ⟨b, q, cs', h1, h2, fun w hS j v hj => hS.old (fun h => h) (h3 j v hj)⟩
  · obtain ⟨b, q, cs', t, h1, h2, h3, _⟩ := h.own k _ hk (by omega)
    refine ⟨b, q, cs', h1, h2, fun w hS j v hj => ?_⟩
    rw [Nat.zero_add]
    exact Row.cell (hS.holds _ (List.mem_append_left _ h3)) (by rw [List.getElem?_append_left (List.getElem?_eq_some_iff.1 hj).1]; exact hj)
end
end Go.Proofs.YtmhahajadgkolaaGreatDoor
/- The evaluator: operations that only yield a value. -/
namespace Go.Proofs.YtmhahajadgkolaaGreatDoor
open Go.RowKit

noncomputable section
variable (P : Program) (E : Ev) (H : Hp) (kn : Lk)
def sizeT (t : TypeId) : Option Nat := (P.info? t).map (·.size)
def infoE (t : TypeId) : Option TypeInfo := match lget P.types.toList t with
  | some i => some i
  | none => P.info? t
def undE (t : TypeId) : Option TypeDesc := match infoE P t with
  | some { desc := .named _ u, .. } => (infoE P u).map (·.desc)
  | some i => some i.desc
  | none => none
def sizeK (t : TypeId) : Option Nat := (infoE P t).map (·.size)
theorem infoE_eq : infoE P = P.info? := by
  funext t
  unfold infoE
  rw [lget_eq, Array.getElem?_toList]
  split
  · rename_i i h
    unfold Tables.info?
    rw [if_pos (Array.getElem?_eq_some_iff.1 h).1, h]
  · rfl
theorem undE_eq : undE P = P.underlying := by
  funext t
  unfold undE Program.underlying
  rw [infoE_eq]
  rfl
theorem sizeK_eq : sizeK P = sizeT P := by
  funext t
  unfold sizeK sizeT
  rw [infoE_eq]
def pickE (c x y : Operand) : Option Value := match evE E kn c with
  | some (.bool true) => evE E kn x
  | some (.bool false) => evE E kn y
  | _ => none
def extractE (x : Operand) (i : Nat) : Option Value := match evE E kn x with
  | some (.tuple vs) => vs.toList[i]?
  | _ => none
def fieldE (s : TypeId) (i : Nat) : Option (Nat × TypeId) := match undE P s with
  | some (.struct fs) => match fs[i]? with
    | some f => match sizeK P f.type with
      | some (_ + 1) => some (f.offset, f.type)
      | _ => none
    | none => none
  | _ => none
def fieldAddrE (s : TypeId) (x : Operand) (i : Nat) : Option Value := match evE E kn x, fieldE P s i with
  | some (.pointer (some a)), some (k, _) => some (.pointer (some ⟨a.block, a.off + k, none⟩))
  | _, _ => none
/-- A value of a type out of cells. -/
def cutE (t : TypeId) (cs : List Value) (o : Nat) : Option Value := match undE P t, sizeK P t with
  | some d, some m => match d.isRow with
    | true => cond (Nat.ble (o + m) cs.length) (some (.agg (seg cs o m).toArray)) none
    | false => cond (Nat.beq m 1) cs[o]? none
  | _, _ => none
def loadE (t : TypeId) (x : Operand) : Option Value := match evE E kn x with
  | some (.pointer (some a)) => match H.get a.block with
    | some (.row cs _) => cutE P t cs a.off
    | _ => none
  | _ => none
def fieldOfE (s : TypeId) (x : Operand) (i : Nat) : Option Value := match evE E kn x, fieldE P s i with
  | some (.agg cs), some (k, ft) => cutE P ft cs.toList k
  | _, _ => none
def indexAddrE (t : TypeId) (x i : Operand) : Option Value := match evE E kn x, evE E kn i with
  | some (.slice (some a) n _), some (.int _ (.ofNat j)) => match undE P t with
    | some (.slice e) => match sizeK P e with
      | some s => cond (Nat.blt j n && a.spot.isNone) (some (.pointer (some ⟨a.block, a.off + j * s, none⟩))) none
      | none => none
    | _ => none
  | some (.pointer (some a)), some (.int _ (.ofNat j)) => match undE P t with
    | some (.array m e) => match sizeK P e with
      | some s => cond (Nat.blt j m) (some (.pointer (some ⟨a.block, a.off + j * s, none⟩))) none
      | none => none
    | _ => none
  | _, _ => none
def nilCheckE (x : Operand) : Option Value := match evE E kn x with
  | some (.pointer (some a)) => some (.pointer (some a))
  | _ => none
def natE (x : Operand) : Option Nat := match evE E kn x with
  | some (.int _ (.ofNat j)) => some j
  | _ => none
/-- x[lo:hi] of a slice or of a whole array. -/
def sliceE (t : TypeId) (x : Operand) (lo hi : Option Operand) : Option Value := match evE E kn x, undE P t with
  | some (.slice (some a) len cap), some (.slice e) => match sizeK P e, (match lo with | some y => natE E kn y | none => some 0), (match hi with | some y => natE E kn y | none => some len) with
    | some s, some l, some h => cond (Nat.ble l h && (lo.isSome || hi.isSome) && a.spot.isNone) (cond (Nat.blt cap 1152921504606846976)
        (cond (Nat.ble h cap) (some (.slice (some ⟨a.block, sAddr a.off l cap s, none⟩) (h - l) (cap - l))) none)
        (cond (Nat.ble h len && (Nat.blt l len || Nat.beq l 0) && Nat.ble cap openCap && Nat.ble 1152921504606846976 (cap - l)) (some (.slice (some ⟨a.block, a.off + l * s, none⟩) (h - l) (cap - l))) (cond (Nat.ble h len && Nat.ble len l) (some (.slice (some ⟨0, 0, some 0⟩) 0 0)) none))) none
    | _, _, _ => none
  | some (.pointer (some a)), some (.array m e) => match lo, hi, sizeK P e with
    | none, none, some _ => cond (Nat.blt m 1152921504606846976) (some (.slice (some ⟨a.block, a.off, none⟩) m m)) none
    | _, _, _ => none
  | _, _ => none
def rho (x : Operand) : Value := match evE E kn x with | some v => v | none => undef
def plE (x : Operand) : Bool := match evE E kn x with | some v => plainB v | none => false
/-- Operations whose operands have no blocks. -/
def plainOps : Op → Option (List Operand)
  | .binOp _ _ x y _ => some [x, y]
  | .unOp _ _ x => some [x]
  | .convert _ _ x => some [x]
  | .index _ x i => some [x, i]
  | .call { callee := .builtin _, args, .. } => some args.toList
  | .slice _ x lo hi mx => some (x :: (lo.toList ++ (hi.toList ++ mx.toList)))
  | _ => none
def plainE (o : Oper) : Option Value := match plainOps o.op with
  | some xs => cond (xs.all (plE E kn)) (match pureE P (execOp (rho E kn) o) with
    | some (.value v) => cond (plainB v) (some v) none
    | _ => none) none
  | none => none
def nilEqE (op : BinOp) (t : TypeId) (x y : Operand) : Option Value := match y with
  | .const v => match evE E kn x, undE P t with
    | some u, some d => match nilEq d u v with
      | some b => match op with
        | .eql => some (.bool b)
        | .neq => some (.bool (!b))
        | _ => none
      | none => none
    | _, _ => none
  | _ => none
end
section
variable {P : Program} {E : Ev} {w0 : World} {R : Rn} {H : Hp} {L X : List Ent} {kn : Lk} {l : Kn} {o : Oper} {n : Nat} {v : Value} {C : World → Prop}
variable (hK : KR R kn l) (hG : ∀ g k, glGet E.gl g = some k → ∃ q, R k = some (g, q))
include hK hG
theorem move_ok {x : Operand} (ho : o.op = .move x ∨ o.op = .assign x) (h : evE E kn x = some v) : ∃ v', VR R v v' ∧ Val P C n l o v' := by
  obtain ⟨v', h1, h2⟩ := hK.ev hG h
  rcases ho with ho | ho
  · exact ⟨v', h2, v_move ho h1⟩
  · exact ⟨v', h2, v_assign ho h1⟩
theorem pick_ok {c x y : Operand} (ho : o.op = .pick c x y) (h : pickE E kn c x y = some v) : ∃ v', VR R v v' ∧ Val P C n l o v' := by
  unfold pickE at h
  split at h
  · rename_i hc
    obtain ⟨c', h1, h2⟩ := hK.ev hG hc
    obtain rfl := h2.bool_inv
    obtain ⟨v', h3, h4⟩ := hK.ev hG h
    exact ⟨v', h4, v_pick_t ho h1 h3⟩
  · rename_i hc
    obtain ⟨c', h1, h2⟩ := hK.ev hG hc
    obtain rfl := h2.bool_inv
    obtain ⟨v', h3, h4⟩ := hK.ev hG h
    exact ⟨v', h4, v_pick_f ho h1 h3⟩
  · cases h
theorem extract_ok {x : Operand} {i : Nat} (ho : o.op = .extract x i) (h : extractE E kn x i = some v) : ∃ v', VR R v v' ∧ Val P C n l o v' := by
  unfold extractE at h
  split at h
  · rename_i vs hx
    obtain ⟨u, h1, h2⟩ := hK.ev hG hx
    obtain ⟨cs', rfl, h3⟩ := h2.tuple_inv
    obtain ⟨v', h4, h5⟩ := h3.get h
    exact ⟨v', h5, v_extract ho h1 h4⟩
  · cases h
omit hK hG in
theorem fieldE_ok {s i k ft : Nat} (h : fieldE P s i = some (k, ft)) : FieldAt P s i k ft := by
  unfold fieldE at h
  try simp only [undE_eq, sizeK_eq] at h
  split at h
  · rename_i fs hu
    split at h
    · rename_i f hf
      split at h
      · rename_i m hm
        cases h
        exact FieldAt.mk hu hf rfl rfl hm
      · cases h
    · cases h
  · cases h
theorem fieldAddr_ok {s i : Nat} {x : Operand} (ho : o.op = .fieldAddr s x i) (h : fieldAddrE P E kn s x i = some v) : ∃ v', VR R v v' ∧ Val P C n l o v' := by
  unfold fieldAddrE at h
  split at h
  · rename_i a k ft hx hf
    cases h
    obtain ⟨u, h1, h2⟩ := hK.ev hG hx
    obtain ⟨b, q, h3, h4, rfl⟩ := h2.ptr_inv
    exact ⟨_, .ptr h4, v_fieldAddr ho h1 (fieldE_ok hf)⟩
  · cases h
omit hK hG in
theorem VRs.seg {cs cs' : List Value} (h : VRs R cs cs') (k m : Nat) : VRs R (seg cs k m) (seg cs' k m) := (h.drop k).take m
omit hK hG in
theorem cut_ok {t : TypeId} {cs cs' : List Value} {k : Nat} (hc : VRs R cs cs') (h : cutE P t cs k = some v) :
    ∃ v', VR R v v' ∧ ((One P t ∧ cs'[k]? = some v') ∨ ∃ m, Many P t m ∧ v' = .agg (YtmhahajadgkolaaGreatDoor.seg cs' k m).toArray ∧ (YtmhahajadgkolaaGreatDoor.seg cs' k m).length = m) := by
  unfold cutE at h
  try simp only [undE_eq, sizeK_eq] at h
  split at h
  · rename_i d m hu hs
    split at h
    · rename_i hr
      cases hb : Nat.ble (k + m) cs.length
      · rw [hb] at h; cases h
      · rw [hb] at h
        cases h
        have hb' := Nat.le_of_ble_eq_true hb
        have hl := hc.length
        exact ⟨_, .agg (hc.seg k m), .inr ⟨m, Many.mk hu hr hs, rfl, by unfold YtmhahajadgkolaaGreatDoor.seg; rw [List.length_take, List.length_drop]; omega⟩⟩
    · rename_i hr
      cases hb : Nat.beq m 1
      · rw [hb] at h; cases h
      · rw [hb] at h
        obtain rfl := Nat.eq_of_beq_eq_true hb
        obtain ⟨v', h1, h2⟩ := hc.get h
        exact ⟨v', h2, .inl ⟨One.mk hu hr hs, h1⟩⟩
  · cases h
theorem load_ok (hS : SR E w0 R H L) {t : TypeId} {x : Operand} (ho : o.op = .load t x) (h : loadE P E H kn t x = some v) : ∃ v', VR R v v' ∧ Val P (fun w => St (fun _ => False) w0 w (L ++ X)) n l o v' := by
  unfold loadE at h
  split at h
  · rename_i a hx
    split at h
    · rename_i cs op hk
      obtain ⟨u, h1, h2⟩ := hK.ev hG hx
      obtain ⟨b, q, h3, h4, rfl⟩ := h2.ptr_inv
      obtain ⟨b', q', cs', h5, h6, h7⟩ := hS.cells (X := X) hk
      rw [h4] at h5
      cases h5
      obtain ⟨v', h8, h9⟩ := cut_ok h6 h
      refine ⟨v', h8, ?_⟩
      rcases h9 with ⟨ht, hv⟩ | ⟨m, ht, rfl, hm⟩
      · exact v_load1 ho h1 ht fun w hS' => by have := h7 w hS' _ _ hv; rwa [Nat.zero_add] at this
      · refine v_loadN ho h1 ht hm fun w hS' j u hj => ?_
        unfold YtmhahajadgkolaaGreatDoor.seg at hj
        rw [List.getElem?_take] at hj
        split at hj
        · rw [List.getElem?_drop] at hj
          have := h7 w hS' _ _ hj
          rwa [Nat.zero_add] at this
        · cases hj
    · cases h
  · cases h
theorem fieldOf_ok {s i : Nat} {x : Operand} (ho : o.op = .field s x i) (h : fieldOfE P E kn s x i = some v) : ∃ v', VR R v v' ∧ Val P C n l o v' := by
  unfold fieldOfE at h
  split at h
  · rename_i cs k ft hx hf
    obtain ⟨u, h1, h2⟩ := hK.ev hG hx
    obtain ⟨cs', rfl, h3⟩ := h2.agg_inv
    obtain ⟨v', h8, h9⟩ := cut_ok h3 h
    refine ⟨v', h8, ?_⟩
    rcases h9 with ⟨ht, hv⟩ | ⟨m, ht, rfl, hm⟩
    · exact v_field1 ho h1 (fieldE_ok hf) ht hv
    · exact v_fieldN ho h1 (fieldE_ok hf) ht rfl
  · cases h
theorem indexAddr_ok {t : Nat} {x i : Operand} (ho : o.op = .indexAddr t x i) (h : indexAddrE P E kn t x i = some v) : ∃ v', VR R v v' ∧ Val P C n l o v' := by
  unfold indexAddrE at h
  try simp only [undE_eq, sizeK_eq] at h
  split at h
  · rename_i a len c ki j hx hi
    split at h
    · rename_i e hu
      split at h
      · rename_i s hs
        cases hb : (Nat.blt j len && a.spot.isNone)
        · rw [hb] at h; cases h
        · rw [hb] at h
          cases h
          rw [Bool.and_eq_true] at hb
          obtain ⟨hb, hsp⟩ := hb
          obtain ⟨u, h1, h2⟩ := hK.ev hG hx
          obtain ⟨b, q, h3, h4, _, rfl⟩ := h2.slice_inv (Option.isNone_iff_eq_none.1 hsp)
          obtain ⟨u2, h5, h6⟩ := hK.ev hG hi
          obtain rfl := h6.int_inv
          exact ⟨_, .ptr h4, v_indexAddr (lo := j) ho h1 h5 hu hs rfl (by simpa using hb)⟩
      · cases h
    · cases h
  · rename_i a ki j hx hi
    split at h
    · rename_i m e hu
      split at h
      · rename_i s hs
        cases hb : Nat.blt j m
        · rw [hb] at h; cases h
        · rw [hb] at h
          cases h
          obtain ⟨u, h1, h2⟩ := hK.ev hG hx
          obtain ⟨b, q, h3, h4, rfl⟩ := h2.ptr_inv
          obtain ⟨u2, h5, h6⟩ := hK.ev hG hi
          obtain rfl := h6.int_inv
          exact ⟨_, .ptr h4, v_indexAddrA (lo := j) ho h1 h5 hu hs rfl (by simpa using hb)⟩
      · cases h
    · cases h
  · cases h
omit hK hG in
theorem natE_ok (hK : KR R kn l) (hG : ∀ g k, glGet E.gl g = some k → ∃ q, R k = some (g, q)) {x : Operand} {j : Nat} (h : natE E kn x = some j) : ∃ k, ev l x = some (.int k j) := by
  unfold natE at h
  split at h
  · rename_i k j' hx
    cases h
    obtain ⟨u, h1, h2⟩ := hK.ev hG hx
    obtain rfl := h2.int_inv
    exact ⟨k, h1⟩
  · cases h
/-- A bound of a slice. -/
def BoundIs (l : Kn) (xl : Option Operand) (v d : Nat) : Prop := match xl with | some y => ∃ k, ev l y = some (.int k v) | none => v = d
omit hK hG in
/-- What is cut out of a slice. -/
theorem v_slice_any {t e s len cap b off lo hi : Nat} {x : Operand} {xl xh : Option Operand} (ho : o.op = .slice t x xl xh none) (hsome : (xl.isSome || xh.isSome) = true) (hx : ev l x = some (.slice (some ⟨b, off, none⟩) len cap)) (hu : P.underlying t = some (.slice e)) (hs : (P.info? e).map (·.size) = some s)
    (hl : BoundIs l xl lo 0) (hh : BoundIs l xh hi len) (hle : lo ≤ hi) (hle' : hi ≤ cap) :
    Val P C n l o (.slice (some ⟨b, sAddr off lo cap s, none⟩) (hi - lo) (cap - lo)) := by
  cases xl with
  | none =>
    cases xh with
    | none => cases hsome
    | some y =>
      obtain ⟨k, hk⟩ := hh
      obtain rfl : lo = 0 := hl
      have := v_slice_hi (C := C) (n := n) ho hx hk hu hs rfl hle'
      rwa [show sAddr off 0 cap s = off by unfold sAddr; split <;> omega]
  | some z =>
    obtain ⟨k2, hk2⟩ := hl
    cases xh with
    | none =>
      obtain rfl : hi = len := hh
      exact v_slice_lo ho hx hk2 hu hs rfl hle
    | some y =>
      obtain ⟨k, hk⟩ := hh
      exact v_slice_lh ho hx hk2 hk hu hs rfl rfl hle hle'
theorem slice_ok {t : Nat} {x : Operand} {lo hi : Option Operand} (ho : o.op = .slice t x lo hi none) (h : sliceE P E kn t x lo hi = some v) : ∃ v', VR R v v' ∧ Val P C n l o v' := by
  unfold sliceE at h
  try simp only [undE_eq, sizeK_eq] at h
  split at h
  · rename_i a len cap e hx hu
    split at h
    · rename_i s lo' hi' hs hlo hhi
      obtain ⟨u, h1, h2⟩ := hK.ev hG hx
      have hl : BoundIs l lo lo' 0 := by
        cases lo with
        | none => cases hlo; rfl
        | some y => exact natE_ok hK hG hlo
      have hh : BoundIs l hi hi' len := by
        cases hi with
        | none => cases hhi; rfl
        | some y => exact natE_ok hK hG hhi
      cases hb : (Nat.ble lo' hi' && (lo.isSome || hi.isSome) && a.spot.isNone)
      · rw [hb] at h; cases h
      · rw [hb] at h
        simp only [Bool.and_eq_true] at hb
        obtain ⟨hb, hsp⟩ := hb
        obtain ⟨b, q, h3, h4, h5, rfl⟩ := h2.slice_inv (Option.isNone_iff_eq_none.1 hsp)
        have hle := Nat.le_of_ble_eq_true hb.1
        dsimp only [cond_true] at h
        cases hc : Nat.blt cap 1152921504606846976
        · rw [hc] at h
          dsimp only [cond_false] at h
          cases hd : (Nat.ble hi' len && (Nat.blt lo' len || Nat.beq lo' 0) && Nat.ble cap openCap && Nat.ble 1152921504606846976 (cap - lo'))
          · rw [hd] at h
            dsimp only [cond_false] at h
            cases he : (Nat.ble hi' len && Nat.ble len lo')
            · rw [he] at h; cases h
            · rw [he] at h
              cases h
              rw [Bool.and_eq_true] at he
              have e1 := Nat.le_of_ble_eq_true he.1
              have e2 := Nat.le_of_ble_eq_true he.2
              have := v_slice_any (C := C) (n := n) ho hb.2 h1 hu hs hl hh hle (by omega)
              rw [show hi' - lo' = 0 by omega] at this
              exact ⟨_, .empty, this⟩
          · rw [hd] at h
            cases h
            simp only [Bool.and_eq_true, Bool.or_eq_true] at hd
            obtain ⟨⟨⟨d1, d2⟩, d3⟩, d4⟩ := hd
            have d1' := Nat.le_of_ble_eq_true d1
            have d3' := Nat.le_of_ble_eq_true d3
            have d4' := Nat.le_of_ble_eq_true d4
            have hc' : ¬ cap < 1152921504606846976 := fun h => by
              have : Nat.blt cap 1152921504606846976 = true := by simpa using h
              rw [hc] at this; cases this
            have ecap : capR q cap = q - (openCap - cap) := if_neg hc'
            have ecap2 : capR q (cap - lo') = capR q cap - lo' := by
              rw [ecap]
              unfold capR
              rw [if_neg (by omega)]
              unfold openCap at *
              omega
            have eoff : sAddr a.off lo' (capR q cap) s = a.off + lo' * s := by
              unfold sAddr
              split
              · rename_i e1
                have : lo' = 0 := by
                  rcases d2 with d2 | d2
                  · have : lo' < len := by simpa using d2
                    omega
                  · exact Nat.eq_of_beq_eq_true d2
                subst this; omega
              · rfl
            refine ⟨_, .slice h4 (by rw [ecap2]; omega), ?_⟩
            have := v_slice_any (C := C) (n := n) ho hb.2 h1 hu hs hl hh hle (by omega)
            rw [eoff, ← ecap2] at this
            exact this
        · rw [hc] at h
          dsimp only [cond_true] at h
          have hc' : cap < 1152921504606846976 := by simpa using hc
          have ecap : capR q cap = cap := if_pos hc'
          cases hd : Nat.ble hi' cap
          · rw [hd] at h; cases h
          · rw [hd] at h
            cases h
            have d1' := Nat.le_of_ble_eq_true hd
            have ecap2 : capR q (cap - lo') = cap - lo' := if_pos (by omega)
            refine ⟨_, .slice h4 (by rw [ecap2]; omega), ?_⟩
            have := v_slice_any (C := C) (n := n) ho hb.2 h1 hu hs hl hh hle (by rw [ecap]; omega)
            rw [ecap] at this
            rw [ecap2]
            exact this
    · cases h
  · rename_i a m e hx hu
    split at h
    · rename_i s hs
      cases hc : Nat.blt m 1152921504606846976
      · rw [hc] at h; cases h
      · rw [hc] at h
        cases h
        obtain ⟨u, h1, h2⟩ := hK.ev hG hx
        obtain ⟨b, q, h3, h4, rfl⟩ := h2.ptr_inv
        have hc' : m < 1152921504606846976 := by simpa using hc
        have e1 : capR q m = m := if_pos hc'
        refine ⟨_, .slice h4 (by rw [e1]; exact Nat.le_refl _), ?_⟩
        rw [e1]
        exact v_slice_arr ho h1 hu hs
    · cases h
  · cases h
theorem nilCheck_ok {x : Operand} (ho : o.op = .nilCheck x) (h : nilCheckE E kn x = some v) : ∃ v', VR R v v' ∧ Val P C n l o v' := by
  unfold nilCheckE at h
  split at h
  · rename_i a hx
    cases h
    obtain ⟨u, h1, h2⟩ := hK.ev hG hx
    obtain ⟨b, q, h3, h4, rfl⟩ := h2.ptr_inv
    obtain ⟨ab, ao, as_⟩ := a
    cases h3
    exact ⟨_, .ptr h4, v_nilCheck ho h1⟩
  · cases h
theorem plE_ok {x : Operand} (h : plE E kn x = true) : ev l x = some (rho E kn x) := by
  unfold plE at h
  unfold rho
  split at h
  · rename_i v hx
    obtain ⟨v', h1, h2⟩ := hK.ev hG hx
    rw [h2.same h] at h1
    exact h1
  · cases h
omit hK hG in
theorem optMap_eq {α β : Type} {f g : α → β} : ∀ (m : Option α), (∀ x ∈ m.toList, f x = g x) → m.map f = m.map g
  | none, _ => rfl
  | some y, h => congrArg some (h y (by simp))
theorem plain_ok (h : plainE P E kn o = some v) : ∃ v', VR R v v' ∧ Val P C n l o v' := by
  unfold plainE at h
  split at h
  · rename_i xs hxs
    cases hall : xs.all (plE E kn)
    · rw [hall] at h; cases h
    · rw [hall] at h
      dsimp only [cond_true] at h
      split at h
      · rename_i u hr
        cases hp : plainB u
        · rw [hp] at h; cases h
        · rw [hp] at h
          cases h
          refine ⟨_, .plain hp, fun a w ha _ => ?_⟩
          have he : ∀ x ∈ xs, a.eval x = rho E kn x := fun x hx => ha.ev (plE_ok hK hG (List.all_eq_true.1 hall x hx))
          have key : execOp a.eval o = execOp (rho E kn) o := by
            unfold execOp
            unfold plainOps at hxs
            split at hxs
            all_goals first
              | (cases hxs; done)
              | (rename_i ho; cases hxs; rw [ho]; simp only [he _ (List.mem_cons_self ..), he _ (List.mem_cons_of_mem _ (List.mem_cons_self ..))]; done)
              | (rename_i ho; cases hxs; rw [ho]; simp only [he _ (List.mem_cons_self ..)]; done)
              | (rename_i lo hi mx ho; cases hxs; rw [ho]; simp only [he _ (List.mem_cons_self ..), optMap_eq (f := a.eval) (g := rho E kn) lo fun x hx => he x (by simp [hx]), optMap_eq (f := a.eval) (g := rho E kn) hi fun x hx => he x (by simp [hx]), optMap_eq (f := a.eval) (g := rho E kn) mx fun x hx => he x (by simp [hx])]; done)
              | (rename_i ho; cases hxs; rw [ho]; simp only [resolve]; rw [show Array.map a.eval _ = Array.map (rho E kn) _ from Array.map_congr_left fun x hx => he x (by simpa using hx)])
          rw [key]
          exact pureE_run hr
      · cases h
  · cases h
omit hK hG in
theorem nilEq_VR {d : TypeDesc} {u u' v : Value} (h : VR R u u') {b : Bool} (hn : nilEq d u v = some b) : nilEq d u' v = some b := by
  unfold nilEq at hn
  split at hn
  · cases h with
    | plain e => exact hn
    | ptr e => exact hn
  · cases h with
    | plain e => exact hn
    | slice e _ => exact hn
    | empty => exact hn
  · cases h with
    | plain e => exact hn
    | map e => exact hn
  · cases h; exact hn
  · cases h <;> exact hn
  · cases hn
theorem nilEq_ok {op : BinOp} {t yt : TypeId} {x y : Operand} (ho : o.op = .binOp op t x y yt) (h : nilEqE P E kn op t x y = some v) : ∃ v', VR R v v' ∧ Val P C n l o v' := by
  unfold nilEqE at h
  try simp only [undE_eq] at h
  split at h
  · rename_i c
    split at h
    · rename_i u d hx hu
      split at h
      · rename_i b hn
        obtain ⟨u', h1, h2⟩ := hK.ev hG hx
        split at h
        · cases h; exact ⟨_, .plain rfl, v_eql_nil b ho h1 hu (nilEq_VR h2 hn)⟩
        · cases h; exact ⟨_, .plain rfl, v_neq_nil (!b) ho h1 hu (by rw [Bool.not_not]; exact nilEq_VR h2 hn)⟩
        · cases h
      · cases h
    · cases h
  · cases h
end
end Go.Proofs.YtmhahajadgkolaaGreatDoor
