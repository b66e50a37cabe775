/- The engine: a region that draws its order, where one allocation may come up at any place among what only reads. -/
import Derived.Test.YtodaanhhnjkncaaDoorOrd
namespace Go.Proofs.YtodaanhhnjkncaaDoor
open Go.RowKit

section
variable {P : Program} {ops : Array Oper} {md : Region.Mode} {I : World → Prop} {R : World → World → Prop}

/-- One value in every world of the class; R: the world got and the world handed back. -/
def YieldsR (P : Program) (ops : Array Oper) (I : World → Prop) (R : World → World → Prop) (o : Oper) (v : Value) (a : Act) : Prop :=
  (Region.wanted o (yielded ops a.tmps) = true ∧ ∀ w, I w → o.quietAt P a (R w) w v) ∨ (Region.wanted o (yielded ops a.tmps) = false ∧ v = undef)
theorem YieldsR.of_same {o : Oper} {v : Value} {a a' : Act} (hy : YieldsR P ops I R o v a) (he : execOp a'.eval o = execOp a.eval o)
    (hw : Region.wanted o (yielded ops a'.tmps) = Region.wanted o (yielded ops a.tmps)) : YieldsR P ops I R o v a' := by
  unfold YieldsR Oper.quietAt at *
  rw [he, hw]
  exact hy
def Yv (P : Program) (ops : Array Oper) (I : World → Prop) (R : World → World → Prop) (ps : List Nat) (i : Nat) (o : Oper) (v : Value) (a : Act) : Prop :=
  if i ∈ ps then Yields P ops o v a else YieldsR P ops I R o v a
theorem Yv.put {ps : List Nat} {i : Nat} {o : Oper} {v u : Value} {a : Act} {dst : Option Tmp} (hs : ∀ cs b, o.op ≠ .select cs b) (hd : ∀ d, dst = some d → d ∉ o.looksAt ops) :
    Yv P ops I R ps i o v (a.put dst u) ↔ Yv P ops I R ps i o v a := by
  have e1 := execOp_put o hs a dst u hd
  have e2 := wanted_put (ops := ops) o a dst u hd
  unfold Yv
  split
  · exact ⟨fun h => h.of_same e1.symm e2.symm, fun h => h.of_same e1 e2⟩
  · exact ⟨fun h => h.of_same e1.symm e2.symm, fun h => h.of_same e1 e2⟩
theorem wpOp_of_Yv {ps : List Nat} {i : Nat} {o : Oper} {v : Value} {a : Act} {w : World} {K : Act → World → Prop} {Q : Exit → Act → World → Prop} (ho : ops[i]? = some o) (hy : Yv P ops I R ps i o v a) (hI : I w)
    (hK : ∀ w', w' = w ∨ R w w' → K (a.put o.dst v) w') : wpOp P ops Q i K a w := by
  unfold Yv at hy
  split at hy
  · exact hy.wpOp ho (hK w (.inl rfl))
  · unfold wpOp
    simp only [ho]
    rcases hy with ⟨hw, hv⟩ | ⟨hw, rfl⟩
    · simp only [hw, if_true]
      refine .inl ?_
      have h3 := hv w hI
      unfold Oper.quietAt at h3
      unfold Oper.wp
      generalize (execOp a.eval o).run P w = r at *
      cases r with
      | ok n w' =>
        cases n <;> simp only [Oper.quietUpon] at h3 <;> simp only [Oper.upon]
        case value u =>
          obtain ⟨e1, e2⟩ := h3
          rw [e1, e2]
          exact hK _ (.inl rfl)
        case skip =>
          obtain ⟨e1, e2⟩ := h3
          rw [e1, ← e2]
          exact hK _ (.inl rfl)
        case enter f args =>
          obtain ⟨e1, hc⟩ := h3
          rw [e1]
          exact hc.mono fun e w'' ⟨he, hw''⟩ => by subst he; exact hK _ (.inr hw'')
      | halt x w' => simp only [Oper.quietUpon] at h3
    · simp only [hw, Bool.false_eq_true, if_false]; exact hK w (.inl rfl)

def HeadM (P : Program) (md : Region.Mode) (ops : Array Oper) (I : World → Prop) (R : World → World → Prop) (hs ps : List Nat) (Lq : Array Bool → Act → Prop) : Nat → Array Bool → Act → Prop
  | 0, listed, a => Lq listed a
  | f + 1, listed, a => (∃ i ∈ Region.ready md ops listed, i ∈ hs) ∧ ∀ i ∈ Region.ready md ops listed, i ∈ hs → ∃ o v, ops[i]? = some o ∧ Yv P ops I R ps i o v a ∧ HeadM P md ops I R hs ps Lq f (listed.setIfInBounds i true) (a.put o.dst v)
theorem HeadM_first {hs ps : List Nat} {i : Nat} {oi : Oper} {v : Value} {Lq : Array Bool → Act → Prop} (hi : ops[i]? = some oi) (hsel : ∀ (j : Nat) (o : Oper) cs b, ops[j]? = some o → o.op ≠ .select cs b)
    (hh : i ∈ hs) (hdone : ∀ listed a, Lq listed a → ∀ j ∈ hs, listed.getD j false = true) :
    ∀ (f : Nat) (listed : Array Bool) (a : Act),
      (∀ j oj, ops[j]? = some oj → j ≠ i → listed.getD j true = false → (∀ e ∈ oj.after, Region.binds md e = true → e.on ≠ i) → oi.apart ops oj = true) →
      i ∈ Region.ready md ops listed → Yv P ops I R ps i oi v a →
      HeadM P md ops I R hs ps Lq f (listed.setIfInBounds i true) (a.put oi.dst v) → HeadM P md ops I R hs ps Lq (f + 1) listed a := by
  intro f
  induction f with
  | zero =>
    intro listed a _ hr hy H
    refine ⟨⟨i, hr, hh⟩, fun j hj hjh => ?_⟩
    by_cases hji : j = i
    · subst hji; exact ⟨oi, v, hi, hy, H⟩
    · have h1 := hdone _ _ H j hjh
      rw [getD_set_ne false (Ne.symm hji)] at h1
      have := getD_both (mem_ready.1 hj).1
      rw [h1] at this; cases this
  | succ f ih =>
    intro listed a hfree hr hy H
    have hun := getD_both (mem_ready.1 hr).1
    refine ⟨⟨i, hr, hh⟩, fun j hj hjh => ?_⟩
    by_cases hji : j = i
    · subst hji; exact ⟨oi, v, hi, hy, H⟩
    · obtain ⟨oj', u, hoj', hyj, Hj⟩ := H.2 j (ready_mono hj hji) hjh
      obtain ⟨hjun, oj, hoj, hall⟩ := mem_ready.1 hj
      obtain rfl : oj' = oj := Option.some.inj (hoj'.symm.trans hoj)
      have hnot : ∀ e ∈ oj'.after, Region.binds md e = true → e.on ≠ i := fun e he hb heq => by
        have h1 := hall e he hb
        rw [heq, hun] at h1
        cases h1
      obtain ⟨h1, h2, h3⟩ := Oper.apart_spec (hfree j oj' hoj hji hjun hnot)
      have hfree' : ∀ k ok, ops[k]? = some ok → k ≠ i → (listed.setIfInBounds j true).getD k true = false →
          (∀ e ∈ ok.after, Region.binds md e = true → e.on ≠ i) → oi.apart ops ok = true := fun k ok hk hki hun hno => by
        refine hfree k ok hk hki ?_ hno
        by_cases hjk : j = k
        · subst hjk; exact hjun
        · rw [getD_set_ne true hjk] at hun; exact hun
      refine ⟨oj', u, hoj, (Yv.put (fun cs b => hsel j oj' cs b hoj) h1).1 hyj, ih _ _ hfree' (ready_mono hr (Ne.symm hji)) ((Yv.put (fun cs b => hsel i oi cs b hi) h3).2 hy) ?_⟩
      rw [Array.setIfInBounds_comm _ _ hji, ← Act.put_comm a v u h2]
      exact Hj
theorem HeadM_over {hs ps : List Nat} {k d : Nat} {u : Value} {Lq Lq' : Array Bool → Act → Prop} (hsel : ∀ (j : Nat) (o : Oper) cs b, ops[j]? = some o → o.op ≠ .select cs b) (hk : k ∉ hs)
    (hno : ∀ i ∈ hs, ∀ o, ops[i]? = some o → d ∉ o.looksAt ops ∧ o.dst ≠ some d ∧ ∀ e ∈ o.after, Region.binds md e = true → e.on ≠ k)
    (hL : ∀ listed a, Lq listed a → Lq' (listed.setIfInBounds k true) (a.put (some d) u)) :
    ∀ (f : Nat) (listed : Array Bool) (a : Act), HeadM P md ops I R hs ps Lq f listed a → HeadM P md ops I R hs ps Lq' f (listed.setIfInBounds k true) (a.put (some d) u)
  | 0, listed, a, H => hL _ _ H
  | f + 1, listed, a, ⟨⟨i, hr, hh⟩, H⟩ => by
    refine ⟨⟨i, ready_mono hr (fun e => hk (e ▸ hh)), hh⟩, fun j hj hjh => ?_⟩
    have hjk : k ≠ j := fun e => hk (e ▸ hjh)
    have hj' : j ∈ Region.ready md ops listed := by
      obtain ⟨h1, o, ho, hall⟩ := mem_ready.1 hj
      refine mem_ready.2 ⟨by rw [getD_set_ne true hjk] at h1; exact h1, o, ho, fun e he hb => ?_⟩
      have := hall e he hb
      rw [getD_set_ne false (Ne.symm ((hno j hjh o ho).2.2 e he hb))] at this
      exact this
    obtain ⟨o, v, ho, hy, hn⟩ := H j hj' hjh
    obtain ⟨n1, n2, _⟩ := hno j hjh o ho
    refine ⟨o, v, ho, (Yv.put (fun cs b => hsel j o cs b ho) (fun d' e => by cases e; exact n1)).2 hy, ?_⟩
    have := HeadM_over hsel hk hno hL f _ _ hn
    rw [Array.setIfInBounds_comm _ _ hjk, Act.put_comm a (x := some d) (y := o.dst) u v (fun d' e => by cases e; exact n2)]
    exact this

theorem Has.put_nil {n : Nat} {a : Act} (h : Has n a []) (dst : Option Nat) (v : Value) : Has n (a.put dst v) [] := by
  cases dst with
  | none => exact h
  | some d => exact ⟨by simp [Act.put, h.size], h.defers, fun t v hv => by cases hv⟩

/-! ### The checks -/
def sinkOne (md : Region.Mode) (ops : Array Oper) (hs : List Nat) (k : Nat) (listed : Array Bool) : Bool :=
  (List.range ops.size).all fun t => listed.getD t false || hs.contains t || t == k || waitsB md ops k ops.size t
def sinkHead (md : Region.Mode) (ops : Array Oper) (hs hs1 : List Nat) (listed : Array Bool) : Bool :=
  (List.range ops.size).all fun t => listed.getD t false || hs.contains t || hs1.all fun h => waitsB md ops h ops.size t
def overB (md : Region.Mode) (ops : Array Oper) (hs : List Nat) (k d : Nat) : Bool :=
  hs.all fun i => i != k && match ops[i]? with
    | some o => !(o.looksAt ops).contains d && o.dst != some d && o.after.all fun e => !Region.binds md e || e.on != k
    | none => true
theorem overB_spec {hs : List Nat} {k d : Nat} (h : overB md ops hs k d = true) : k ∉ hs ∧ ∀ i ∈ hs, ∀ o, ops[i]? = some o → d ∉ o.looksAt ops ∧ o.dst ≠ some d ∧ ∀ e ∈ o.after, Region.binds md e = true → e.on ≠ k := by
  have h1 := List.all_eq_true.1 h
  refine ⟨fun hk => ?_, fun i hi o ho => ?_⟩
  · have := h1 k hk
    simp at this
  · have := h1 i hi
    simp only [ho, Bool.and_eq_true, Bool.not_eq_true', bne_iff_ne, ne_eq] at this
    refine ⟨by simpa using this.2.1.1, this.2.1.2, fun e he hb => ?_⟩
    have h2 := Array.all_eq_true'.1 this.2.2 e he
    rw [hb] at h2
    simpa using h2
/-- What is pure may be taken ahead of all but what waits for it, when these are done. -/
def freeB (md : Region.Mode) (ops : Array Oper) (hs1 ps : List Nat) (listed : Array Bool) : Bool :=
  ps.all fun i => match ops[i]? with
    | some oi => (List.range ops.size).all fun j => j == i || listed.getD j false || hs1.contains j || match ops[j]? with
      | some oj => (oj.after.any fun e => Region.binds md e && e.on == i) || oi.apart ops oj
      | none => true
    | none => true

/-! ### The allocation is done -/
theorem any_of_B {hs1 ps : List Nat} {listed1 : Array Bool} {D : World → Prop} {g : Nat} {Q : Exit → Act → World → Prop} {Lq : Array Bool → Act → Prop} (hsel : Region.noSelect ops = true) (hDI : ∀ w, D w → I w) (hDR : ∀ w w', D w → R w w' → D w')
    (hsk : sinkHead md ops (hs1 ++ ps) hs1 listed1 = true) (hfr : freeB md ops hs1 ps listed1 = true)
    (hfin : ∀ listed a w, Inv md ops (hs1 ++ ps) listed1 listed → (∀ j, listed1.getD j false = true → listed.getD j false = true) → Lq listed a → D w → wpAny P md ops (NP Q) g listed a w) :
    ∀ (f : Nat) (listed : Array Bool) (a : Act) (w : World), Inv md ops (hs1 ++ ps) listed1 listed → (∀ j, listed1.getD j false = true → listed.getD j false = true) → D w → HeadM P md ops I R (hs1 ++ ps) ps Lq f listed a → wpAny P md ops (NP Q) (f + g) listed a w
  | 0, listed, a, w, inv, hm, hD, H => by rw [Nat.zero_add]; exact hfin _ _ _ inv hm H hD
  | f + 1, listed, a, w, inv, hm, hD, ⟨⟨i0, hr0, hh0⟩, H⟩ => by
    rw [show f + 1 + g = (f + g) + 1 by omega]
    by_cases hun : ∃ h ∈ hs1, listed.getD h false = false
    · obtain ⟨h, hh1, hun⟩ := hun
      refine ⟨fun h0 => (by rw [h0] at hr0; cases hr0), fun i hi => ?_⟩
      have hih : i ∈ hs1 ++ ps := by
        obtain ⟨hju, oj, hoj, _⟩ := mem_ready.1 hi
        have hlt := (Array.getElem?_eq_some_iff.1 hoj).1
        have h1 := List.all_eq_true.1 hsk i (List.mem_range.2 hlt)
        simp only [Bool.or_eq_true] at h1
        rcases h1 with (h1 | h1) | h1
        · have := hm i h1
          rw [getD_both hju] at this; cases this
        · simpa using h1
        · exact absurd hi (waits_spec inv.closed hun _ _ (List.all_eq_true.1 h1 h hh1)).2
      obtain ⟨o, v, ho, hy, hn⟩ := H i hi hih
      refine wpOp_of_Yv ho hy (hDI w hD) fun w' hw' => any_of_B hsel hDI hDR hsk hfr hfin f _ _ w' (inv.set hi hih) (fun j hj => getD_set_true (hm j hj)) ?_ hn
      rcases hw' with rfl | hw'
      · exact hD
      · exact hDR _ _ hD hw'
    · have hall : ∀ h ∈ hs1, listed.getD h false = true := fun h hh => by
        cases e : listed.getD h false with
        | true => rfl
        | false => exact absurd ⟨h, hh, e⟩ hun
      have hu0 := getD_both (mem_ready.1 hr0).1
      have hp : i0 ∈ ps := by
        rcases List.mem_append.1 hh0 with h | h
        · rw [hall i0 h] at hu0; cases hu0
        · exact h
      obtain ⟨o, v, ho, hy, hn⟩ := H i0 hr0 hh0
      unfold Yv at hy
      rw [if_pos hp] at hy
      refine wpAny_first ho (Region.noSelect_spec hsel) (fun c a w hh => hh) (f + g) listed a w ?_ hr0 hy (any_of_B hsel hDI hDR hsk hfr hfin f _ _ w (inv.set hr0 hh0) (fun j hj => getD_set_true (hm j hj)) hD hn)
      intro j oj hoj hji hju hno
      have hlt := (Array.getElem?_eq_some_iff.1 hoj).1
      have h1 := List.all_eq_true.1 hfr i0 hp
      simp only [ho] at h1
      have h2 := List.all_eq_true.1 h1 j (List.mem_range.2 hlt)
      simp only [hoj, Bool.or_eq_true, beq_iff_eq] at h2
      rcases h2 with ((h2 | h2) | h2) | h2
      · exact absurd h2 hji
      · have := hm j h2
        rw [getD_both hju] at this; cases this
      · have := hall j (by simpa using h2)
        rw [getD_both hju] at this; cases this
      · rcases h2 with h2 | h2
        · obtain ⟨e, he, hb⟩ := Array.any_eq_true'.1 h2
          simp only [Bool.and_eq_true, beq_iff_eq] at hb
          exact absurd hb.2 (hno e he hb.1)
        · exact h2
/-! ### The allocation is still to come -/
theorem any_of_A {hs1 ps : List Nat} {k d n : Nat} {ok : Oper} {listed0 : Array Bool} {D : Nat → World → Prop} {g : Nat} {Q : Exit → Act → World → Prop} {Lq : Array Bool → Act → Prop} {Lq' : Nat → Array Bool → Act → Prop}
    (hsel : Region.noSelect ops = true) (hsz0 : listed0.size = ops.size) (hI : ∀ w w', I w → R w w' → I w') (hDI : ∀ x w, D x w → I w) (hDR : ∀ x w w', D x w → R w w' → D x w')
    (hok : ops[k]? = some ok) (hov : overB md ops (hs1 ++ ps) k d = true) (hsa : sinkOne md ops (hs1 ++ ps) k listed0 = true)
    (hsk : sinkHead md ops (hs1 ++ ps) hs1 (listed0.setIfInBounds k true) = true) (hfr : freeB md ops hs1 ps (listed0.setIfInBounds k true) = true)
    (hal : ∀ (a : Act) (w : World) (K : Act → World → Prop), Has n a [] → I w → (∀ x w1, D x w1 → K (a.put (some d) (.pointer (some ⟨x, 0, none⟩))) w1) → wpOp P ops (NP Q) k K a w)
    (hdone : ∀ listed a, Lq listed a → ∀ j ∈ hs1 ++ ps, listed.getD j false = true)
    (hL : ∀ x listed a, Lq listed a → Lq' x (listed.setIfInBounds k true) (a.put (some d) (.pointer (some ⟨x, 0, none⟩))))
    (hfin : ∀ x listed a w, Inv md ops (hs1 ++ ps) (listed0.setIfInBounds k true) listed → (∀ j, (listed0.setIfInBounds k true).getD j false = true → listed.getD j false = true) → Lq' x listed a → D x w → wpAny P md ops (NP Q) g listed a w) :
    ∀ (f : Nat) (listed : Array Bool) (a : Act) (w : World), Inv md ops (hs1 ++ ps) listed0 listed → (∀ j, listed0.getD j false = true → listed.getD j false = true) → k ∈ Region.ready md ops listed → Has n a [] → I w → HeadM P md ops I R (hs1 ++ ps) ps Lq f listed a → wpAny P md ops (NP Q) (f + 1 + g) listed a w := by
  obtain ⟨hk, hno⟩ := overB_spec hov
  have only : ∀ listed : Array Bool, Inv md ops (hs1 ++ ps) listed0 listed → (∀ j, listed0.getD j false = true → listed.getD j false = true) → k ∈ Region.ready md ops listed → ∀ i ∈ Region.ready md ops listed, i ∈ hs1 ++ ps ∨ i = k := fun listed inv hm hkr i hi => by
    obtain ⟨hju, oj, hoj, _⟩ := mem_ready.1 hi
    have hlt := (Array.getElem?_eq_some_iff.1 hoj).1
    have h1 := List.all_eq_true.1 hsa i (List.mem_range.2 hlt)
    simp only [Bool.or_eq_true, beq_iff_eq] at h1
    rcases h1 with ((h1 | h1) | h1) | h1
    · have := hm i h1
      rw [getD_both hju] at this; cases this
    · exact .inl (by simpa using h1)
    · exact .inr h1
    · exact absurd hi (waits_spec inv.closed (getD_both (mem_ready.1 hkr).1) _ _ h1).2
  have inv1 : ∀ listed : Array Bool, Inv md ops (hs1 ++ ps) listed0 listed → k ∈ Region.ready md ops listed → (∀ j, listed0.getD j false = true → listed.getD j false = true) → Inv md ops (hs1 ++ ps) (listed0.setIfInBounds k true) (listed.setIfInBounds k true) ∧ (∀ j, (listed0.setIfInBounds k true).getD j false = true → (listed.setIfInBounds k true).getD j false = true) := fun listed inv hkr hm => by
    have hlt : k < listed.size := by
      have := (mem_ready.1 hkr).1
      rcases Nat.lt_or_ge k listed.size with h' | h'
      · exact h'
      · simp [Array.getElem?_eq_none h'] at this
    have hlt0 : k < listed0.size := by rw [hsz0, ← inv.size]; exact hlt
    have hset : ∀ j, (listed0.setIfInBounds k true).getD j false = true → (listed.setIfInBounds k true).getD j false = true := fun j hj => by
      by_cases hjk : k = j
      · subst hjk; simp [hlt]
      · rw [getD_set_ne false hjk] at hj ⊢; exact hm j hj
    refine ⟨⟨inv.closed.set hkr, fun j hj => ?_, by simp [inv.size]⟩, hset⟩
    by_cases hjk : k = j
    · subst hjk; exact .inl (by simp [hlt0])
    · rw [getD_set_ne false hjk] at hj
      rcases inv.only j hj with h2 | h2
      · exact .inl (getD_set_true h2)
      · exact .inr h2
  intro f
  induction f with
  | zero =>
    intro listed a w inv hm hkr ha hI' H
    rw [show 0 + 1 + g = g + 1 by omega]
    refine ⟨fun h0 => (by rw [h0] at hkr; cases hkr), fun i hi => ?_⟩
    rcases only listed inv hm hkr i hi with h | rfl
    · have h1 := hdone _ _ H i h
      have := getD_both (mem_ready.1 hi).1
      rw [h1] at this; cases this
    · exact hal a w _ ha hI' fun x w1 hD => hfin x _ _ _ (inv1 listed inv hkr hm).1 (inv1 listed inv hkr hm).2 (hL x _ _ H) hD
  | succ f ih =>
    intro listed a w inv hm hkr ha hI' H
    rw [show f + 1 + 1 + g = (f + 1 + g) + 1 by omega]
    refine ⟨fun h0 => (by rw [h0] at hkr; cases hkr), fun i hi => ?_⟩
    rcases only listed inv hm hkr i hi with h | rfl
    · obtain ⟨o, v, ho, hy, hn⟩ := H.2 i hi h
      refine wpOp_of_Yv ho hy hI' fun w' hw' => ih _ _ w' (inv.set hi h) (fun j hj => getD_set_true (hm j hj)) (ready_mono hkr (fun e => hk (e ▸ h))) (ha.put_nil _ _) ?_ hn
      rcases hw' with rfl | hw'
      · exact hI'
      · exact hI _ _ hI' hw'
    · refine hal a w _ ha hI' fun x w1 hD => ?_
      exact any_of_B hsel (hDI x) (hDR x) hsk hfr (hfin x) (f + 1) _ _ w1 (inv1 listed inv hkr hm).1 (inv1 listed inv hkr hm).2 hD (HeadM_over (Region.noSelect_spec hsel) hk hno (fun l a h => hL x l a h) (f + 1) _ _ H)

/-! ### From a list, and the steps -/
def mixL (P : Program) (I : World → Prop) (R : World → World → Prop) (ps : List Nat) (os : List Oper) (K : Act → Prop) : List Nat → Act → Prop
  | [], a => K a
  | i :: is, a => ∃ v, Yv P os.toArray I R ps i (at_ os i) v a ∧ mixL P I R ps os K is (a.put (at_ os i).dst v)
theorem mixL_append {ps : List Nat} {os : List Oper} {K : Act → Prop} {js2 : List Nat} : ∀ (js1 : List Nat) (a : Act), mixL P I R ps os (mixL P I R ps os K js2) js1 a → mixL P I R ps os K (js1 ++ js2) a
  | [], _, h => h
  | _ :: is, _, ⟨v, hy, h⟩ => ⟨v, hy, mixL_append is _ h⟩
theorem HeadM_list {os : List Oper} {hs ps : List Nat} {K : Act → Prop} (hsel : Region.noSelect os.toArray = true) :
    ∀ (js : List Nat) (listed : Array Bool) (a : Act), (∀ j ∈ js, j ∈ hs) → (∀ j ∈ hs, j ∈ js ∨ listed.getD j false = true) → takesB .any os.toArray js listed = true → mixL P I R ps os K js a →
    HeadM P .any os.toArray I R hs ps (fun listed' a' => (∀ j ∈ hs, listed'.getD j false = true) ∧ K a') js.length listed a
  | [], listed, a, _, hd, _, h => ⟨fun j hj => (hd j hj).resolve_left (by simp), h⟩
  | i :: is, listed, a, hj, hd, hB, h => by
    simp only [takesB, Bool.and_eq_true] at hB
    obtain ⟨⟨hr, hf⟩, hB'⟩ := hB
    have hr' : i ∈ Region.ready .any os.toArray listed := by simpa using hr
    have h0 := at_some hr'
    obtain ⟨v, hy, hK⟩ := h
    refine HeadM_first h0 (Region.noSelect_spec hsel) (hj i (by simp)) (fun _ _ h j hj => h.1 j hj) is.length listed a (Region.free_spec h0 hf) hr' hy ?_
    exact HeadM_list hsel is _ _ (fun j h => hj j (by simp [h])) (fun j h => by
      rcases hd j h with h1 | h1
      · rcases List.mem_cons.1 h1 with rfl | h1
        · right
          have hlt : j < listed.size := by
            have := (mem_ready.1 hr').1
            rcases Nat.lt_or_ge j listed.size with h' | h'
            · exact h'
            · simp [Array.getElem?_eq_none h'] at this
          simp [hlt]
        · exact .inl h1
      · exact .inr (getD_set_true h1)) hB' hK
def rqList (P : Program) (ops : Array Oper) (I : World → Prop) (R : World → World → Prop) (K : Act → Prop) : List Oper → Act → Prop
  | [], a => K a
  | o :: rest, a => ∃ v, YieldsR P ops I R o v a ∧ rqList P ops I R K rest (a.put o.dst v)
theorem mixL_reads {ps : List Nat} {os : List Oper} {K : Act → Prop} : ∀ (js : List Nat) (a : Act), (js.all fun j => !ps.contains j) = true → rqList P os.toArray I R K (js.map (at_ os)) a → mixL P I R ps os K js a
  | [], _, _, h => h
  | i :: is, a, hn, ⟨v, hy, h⟩ => by
    simp only [List.all_cons, Bool.and_eq_true, Bool.not_eq_true'] at hn
    have hi : i ∉ ps := by simpa using hn.1
    exact ⟨v, by unfold Yv; rw [if_neg hi]; exact hy, mixL_reads is _ hn.2 h⟩
theorem mixL_pure {ps : List Nat} {os : List Oper} {K : Act → Prop} : ∀ (js : List Nat) (a : Act), (∀ j ∈ js, j ∈ ps) → wpPure P os.toArray K (js.map (at_ os)) a → mixL P I R ps os K js a
  | [], _, _, h => h
  | i :: is, a, hn, ⟨v, hy, h⟩ => ⟨v, by unfold Yv; rw [if_pos (hn i (by simp))]; exact hy, mixL_pure is _ (fun j hj => hn j (by simp [hj])) h⟩
theorem mixL_mono {ps : List Nat} {os : List Oper} {K K' : Act → Prop} (hK : ∀ a, K a → K' a) : ∀ (js : List Nat) (a : Act), mixL P I R ps os K js a → mixL P I R ps os K' js a
  | [], _, h => hK _ h
  | _ :: is, _, ⟨v, hy, h⟩ => ⟨v, hy, mixL_mono hK is _ h⟩

variable {Q : Exit → Act → World → Prop} {n : Nat} {p : Nat → Prop} {w0 : World} {o : Oper} {rest os : List Oper} {l : Kn} {L : List Ent} {K : Act → Prop}
/-- The reads of such a region. -/
def WM (P : Program) (ops : Array Oper) (K : Act → Prop) (n : Nat) (p : Nat → Prop) (w0 : World) (rest : List Oper) (l : Kn) (L : List Ent) : Prop :=
  ∀ a, Has n a l → rqList P ops (fun w => St p w0 w L) (Frm (fun _ => False)) K rest a
theorem WM.val {d : Nat} {v : Value} (hv : Val P (fun w => St p w0 w L) n l o v) (hg : On ops o l) (hd : o.dst = some d) (hn : Nat.blt d n = true)
    (h : WM P ops K n p w0 rest ((d, v) :: l) L) : WM P ops K n p w0 (o :: rest) l L := fun a ha =>
  ⟨v, .inl ⟨hg.ok ha, fun w hS => by unfold Oper.quietAt; rw [hv a w ha hS]; exact ⟨rfl, rfl⟩⟩, h _ (ha.put_any hd hn v)⟩
theorem WM.test {q : Prop} [Decidable q] {d : Nat} (hv : Val P (fun w => St p w0 w L) n l o (.bool (decide q))) (hg : On ops o l) (hd : o.dst = some d) (hn : Nat.blt d n = true)
    (ht : q → WM P ops K n p w0 rest ((d, .bool true) :: l) L) (hf : ¬ q → WM P ops K n p w0 rest ((d, .bool false) :: l) L) : WM P ops K n p w0 (o :: rest) l L := by
  by_cases hq : q
  · exact WM.val hv hg hd hn (by rw [decide_eq_true hq]; exact ht hq)
  · exact WM.val hv hg hd hn (by rw [decide_eq_false hq]; exact hf hq)
theorem WM.skip {j dj d : Nat} {b : Bool} {v : Value} (hg : o.guard = some (j, b)) (hj : (ops[j]?).bind (·.dst) = some dj) (hl : look l dj = some v) (hv : isB v b = false) (hd : o.dst = some d) (hn : Nat.blt d n = true)
    (h : WM P ops K n p w0 rest ((d, undef) :: l) L) : WM P ops K n p w0 (o :: rest) l L := fun a ha =>
  ⟨undef, .inr ⟨by rw [wanted_not hg hj ha hl hv], rfl⟩, h _ (ha.put_any hd hn _)⟩
theorem WM.callV {f : FuncId} {x : Operand} {xs : List Operand} {ts : Array TypeId} {vs : List Value} {fi cap : Array Value} {d : Nat} (v : Value) (ho : o.op = .call { callee := .value x, args := xs.toArray, argTypes := ts })
    (hfv : ev l x = some (.func (.func f) fi cap)) (hx : evs l xs = some vs) (hf : callOk P f) (hg : On ops o l) (hd : o.dst = some d) (hn : Nat.blt d n = true)
    (hc : ∀ w, St p w0 w L → Calls P f (fi ++ vs.toArray ++ cap) w fun e w' => e = .returned v ∧ Frm (fun _ => False) w w') (h : WM P ops K n p w0 rest ((d, v) :: l) L) : WM P ops K n p w0 (o :: rest) l L := fun a ha =>
  ⟨v, .inl ⟨hg.ok ha, fun w hS => by unfold Oper.quietAt; rw [run_call ho hfv hx hf ha]; exact ⟨rfl, hc w hS⟩⟩, h _ (ha.put_any hd hn v)⟩
theorem WM.call {f : FuncId} {xs : List Operand} {ts : Array TypeId} {vs : List Value} {d : Nat} (v : Value) (ho : o.op = .call { callee := .value (.func f), args := xs.toArray, argTypes := ts })
    (hx : evs l xs = some vs) (hf : callOk P f) (hg : On ops o l) (hd : o.dst = some d) (hn : Nat.blt d n = true)
    (hc : ∀ w, St p w0 w L → Calls P f vs.toArray w fun e w' => e = .returned v ∧ Frm (fun _ => False) w w') (h : WM P ops K n p w0 rest ((d, v) :: l) L) : WM P ops K n p w0 (o :: rest) l L :=
  WM.callV (l := l) v ho rfl hx hf hg hd hn (fun w hS => by simpa using hc w hS) h
theorem WM.nil {K' : Act → World → Prop} (h : WP P ops K' n p w0 rest l L) : WM P ops (wpPure P ops (fun a' => ∀ w, St p w0 w L → K' a' w) rest) n p w0 [] l L := h
/-- What is known when all that is done, the allocation apart. -/
def KM (P : Program) (os : List Oper) (Q : Exit → Act → World → Prop) (n : Nat) (p : Nat → Prop) (w0 : World) (g d : Nat) (zs : List Value) (listed : Array Bool) (L : List Ent) (a : Act) : Prop :=
  ∃ l', Has n a l' ∧ ∀ x, w0.heap.size ≤ x → WR P os Q n p w0 g listed ((d, .pointer (some ⟨x, 0, none⟩)) :: l') (.row x zs :: L)
theorem WP.nilM {g d : Nat} {zs : List Value} {listed : Array Bool} (h : ∀ x, w0.heap.size ≤ x → WR P os Q n p w0 g listed ((d, .pointer (some ⟨x, 0, none⟩)) :: l) (.row x zs :: L)) :
    WP P os.toArray (fun a _ => KM P os Q n p w0 g d zs listed L a) n p w0 [] l L := fun _ ha _ _ => ⟨l, ha, h⟩
def mixB (os : List Oper) (k d : Nat) (js ps : List Nat) (listed : Array Bool) : Bool :=
  Region.noSelect os.toArray && closedB .any os.toArray listed && takesB .any os.toArray (js ++ ps) listed && (Region.ready .any os.toArray listed).contains k && overB .any os.toArray (js ++ ps) k d &&
  sinkOne .any os.toArray (js ++ ps) k listed && sinkHead .any os.toArray (js ++ ps) js (listed.setIfInBounds k true) && freeB .any os.toArray js ps (listed.setIfInBounds k true) && js.all fun j => !ps.contains j
theorem WR.mix {ty d g : Nat} {zs : List Value} {listed : Array Bool} (k : Nat) (js ps : List Nat) (ho : (at_ os k).op = .alloc ty) (hz : Zero P ty zs) (hg : (at_ os k).guard = none) (hd : (at_ os k).dst = some d) (hn : Nat.blt d n = true)
    (hsz : listed.size = os.length) (hB : mixB os k d js ps listed = true)
    (h : WM P os.toArray (wpPure P os.toArray (fun a' => ∀ w, St p w0 w L → KM P os Q n p w0 g d zs (marks (listed.setIfInBounds k true) (js ++ ps)) L a') (ps.map (at_ os))) n p w0 (js.map (at_ os)) l L) :
    WR P os Q n p w0 ((js ++ ps).length + 1 + g) listed l L := fun a w ha hS => by
  simp only [mixB, Bool.and_eq_true] at hB
  obtain ⟨⟨⟨⟨⟨⟨⟨⟨hsel, hcl⟩, htk⟩, hkr⟩, hov⟩, hsa⟩, hsk⟩, hfr⟩, hps⟩ := hB
  have hsz' : listed.size = os.toArray.size := by simpa using hsz
  have hkr' : k ∈ Region.ready .any os.toArray listed := by simpa using hkr
  have hko := at_some hkr'
  have H0 : mixL P (fun w => St p w0 w L) (Frm (fun _ => False)) ps os (fun a' => KM P os Q n p w0 g d zs (marks (listed.setIfInBounds k true) (js ++ ps)) L a') (js ++ ps) a := by
    refine mixL_append js a (mixL_reads js a hps ?_)
    have h1 := h a ha
    have mono : ∀ (K1 K2 : Act → Prop) (hK : ∀ a, K1 a → K2 a) (r : List Oper) (a : Act), rqList P os.toArray (fun w => St p w0 w L) (Frm (fun _ => False)) K1 r a → rqList P os.toArray (fun w => St p w0 w L) (Frm (fun _ => False)) K2 r a := by
      intro K1 K2 hK r
      induction r with
      | nil => exact fun a h => hK a h
      | cons o r ih => exact fun a ⟨v, hy, h⟩ => ⟨v, hy, ih _ h⟩
    exact mono _ _ (fun a h => mixL_mono (fun a h => h w hS) ps a (mixL_pure ps a (fun _ h => h) h)) _ _ h1
  have H := HeadM_list (P := P) hsel (js ++ ps) listed a (fun _ h => h) (fun _ h => .inl h) htk H0
  refine any_of_A (D := fun x w => St p w0 w (.row x zs :: L) ∧ w0.heap.size ≤ x) (Lq' := fun x listed' a' => (∀ j ∈ js ++ ps, listed'.getD j false = true) ∧ ∃ l', Has n a' ((d, .pointer (some ⟨x, 0, none⟩)) :: l') ∧ ∀ x, w0.heap.size ≤ x → WR P os Q n p w0 g (marks (listed.setIfInBounds k true) (js ++ ps)) ((d, .pointer (some ⟨x, 0, none⟩)) :: l') (.row x zs :: L))
    hsel hsz' (fun w w' h1 h2 => h1.ext h2) (fun x w h => h.1.tail) (fun x w w' h1 h2 => ⟨h1.1.ext h2, h1.2⟩) hko hov hsa hsk hfr ?_ (fun _ _ h => h.1) ?_ ?_ (js ++ ps).length listed a w ⟨closedB_spec hcl, fun _ h => .inl h, hsz'⟩ (fun _ h => h) hkr' (ha.sub Sub.nil) hS H
  · intro a w K ha hS hK
    unfold wpOp
    simp only [hko]
    rw [if_pos (by simp [Region.wanted, hg])]
    refine .inl ?_
    have hz' := hz
    obtain ⟨z, hz, rfl⟩ := hz
    unfold Oper.wp
    have e : (execOp a.eval (at_ os k)).run P w = .ok (.value (.pointer (some ⟨w.heap.size, 0, none⟩))) (w.alloc (.cells z.cells.toList.toArray ty)) := by
      unfold execOp
      simp [ho, Instr.alloc, run_zeroValue hz, newVar, newRow, newObj, Sem.run]
    rw [e]
    simp only [Oper.upon, hd]
    exact hK _ _ ⟨St.new (T := ty) hS, hS.frm.size⟩
  · rintro x listed' a' ⟨h1, l', hl', h2⟩
    exact ⟨fun j hj => getD_set_true (h1 j hj), l', hl'.put hn _, h2⟩
  · rintro x listed' a' w' inv hm ⟨h1, l', hl', h2⟩ ⟨hS', hx⟩
    have e : listed' = marks (listed.setIfInBounds k true) (js ++ ps) := marks_eq (fun j => by
      constructor
      · intro hj
        rcases inv.only j hj with h2 | h2
        · exact .inl h2
        · refine .inr ⟨h2, ?_⟩
          rcases Nat.lt_or_ge j listed'.size with h' | h'
          · rw [inv.size, ← hsz'] at h'; simpa using h'
          · simp [Array.getElem?_eq_none h'] at hj
      · rintro (h2 | ⟨h2, _⟩)
        · exact hm j h2
        · exact h1 j h2) (by rw [inv.size, ← hsz']; simp)
    rw [e]
    exact h2 x hx a' w' hl' hS'
/-- Whatever comes up next, each alone. -/
def AllOf (K : Nat → Prop) : List Nat → Prop
  | [] => True
  | [i] => K i
  | i :: j :: is => K i ∧ AllOf K (j :: is)
theorem AllOf.get {K : Nat → Prop} : ∀ {rs : List Nat}, AllOf K rs → ∀ i ∈ rs, K i
  | [], _, i, h => by cases h
  | [j], h, i, hi => by rw [List.mem_singleton.1 hi]; exact h
  | j :: k :: is, h, i, hi => by
    rcases List.mem_cons.1 hi with rfl | hi
    · exact h.1
    · exact AllOf.get h.2 i hi
theorem WR.each {g : Nat} {listed : Array Bool} (rs : List Nat) (hr : Region.ready .any os.toArray listed = rs) (hne : rs ≠ [])
    (h : AllOf (fun i => WL P os.toArray (RQ (Rest P os Q g (listed.setIfInBounds i true)) (NP Q)) n p w0 [at_ os i] l L) rs) : WR P os Q n p w0 (g + 1) listed l L := fun a w ha hS => by
  refine wpAny_all hr hne fun i hi => ?_
  have ho := at_some (listed := listed) (i := i) (by rw [hr]; exact hi)
  have h' : wpList P os.toArray (RQ (Rest P os Q g (listed.setIfInBounds i true)) (NP Q)) [at_ os i] a w := h.get i hi a w ha hS
  unfold wpOp
  simp only [ho]
  unfold wpList at h'
  split
  · rename_i hwd
    rw [if_pos hwd] at h'
    exact (h'.imp wpRQ (fun h => ⟨h.1, RQ.out h.2⟩)).imp (Oper.wp_mono fun _ _ h => h) id
  · rename_i hwd
    rw [if_neg hwd] at h'
    exact h'
end
end Go.Proofs.YtodaanhhnjkncaaDoor
