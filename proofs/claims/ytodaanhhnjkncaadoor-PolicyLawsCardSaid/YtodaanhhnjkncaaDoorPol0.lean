/- policy: a node as a tree, and where its nodes lie. -/
import Derived.Test.YtodaanhhnjkncaaDoorActC
namespace Go.Proofs.YtodaanhhnjkncaaDoor
open Go.RowKit

/-- A node, with where its kids lie. -/
inductive Nd where
  | mk (kind f val mask : Int) (ad : Option Addr) (cap : Nat) (kids : List Nd)
def Nd.kind : Nd → Int | .mk k _ _ _ _ _ _ => k
def Nd.f : Nd → Int | .mk _ f _ _ _ _ _ => f
def Nd.val : Nd → Int | .mk _ _ v _ _ _ _ => v
def Nd.mask : Nd → Int | .mk _ _ _ m _ _ _ => m
def Nd.ad : Nd → Option Addr | .mk _ _ _ _ a _ _ => a
def Nd.cap : Nd → Nat | .mk _ _ _ _ _ c _ => c
def Nd.kids : Nd → List Nd | .mk _ _ _ _ _ _ ks => ks
def ndL (t : Nd) : List Value := [.int .i64 t.kind, .int .i64 t.f, .int .u64 t.val, .int .u64 t.mask, .slice t.ad t.kids.length t.cap]
def ndV (t : Nd) : Value := .agg (ndL t).toArray
mutual
/-- The node's kids lie in this world where the tree says, and theirs. -/
def Nd.At (w : World) : Nd → Prop
  | .mk _ _ _ _ ad _ kids => KidsAt w ad 0 kids
def KidsAt (w : World) (ad : Option Addr) : Nat → List Nd → Prop
  | _, [] => True
  | i, t :: ts => (∃ b o, ad = some ⟨b, o, none⟩ ∧ w.rangeAt b (o + i * 5) (ndL t)) ∧ t.At w ∧ KidsAt w ad (i + 1) ts
end
mutual
/-- Its numbers are numbers of their types. -/
def Nd.In : Nd → Prop
  | .mk k f v m _ _ kids => (-9223372036854775808 ≤ k ∧ k ≤ 9223372036854775807) ∧ (-9223372036854775808 ≤ f ∧ f ≤ 9223372036854775807) ∧ (0 ≤ v ∧ v ≤ 18446744073709551615) ∧ (0 ≤ m ∧ m ≤ 18446744073709551615) ∧ kids.length ≤ 9223372036854775807 ∧ KidsIn kids
def KidsIn : List Nd → Prop
  | [] => True
  | t :: ts => t.In ∧ KidsIn ts
end
theorem KidsAt.get {w : World} {ad : Option Addr} : ∀ (ts : List Nd) (i j : Nat) (t : Nd), KidsAt w ad i ts → ts[j]? = some t → (∃ b o, ad = some ⟨b, o, none⟩ ∧ w.rangeAt b (o + (i + j) * 5) (ndL t)) ∧ t.At w
  | [], _, _, _, _, h => by simp at h
  | t :: ts, i, 0, t', h, ht => by
    simp only [List.getElem?_cons_zero, Option.some.injEq] at ht
    subst ht
    unfold KidsAt at h
    exact ⟨h.1, h.2.1⟩
  | t :: ts, i, j + 1, t', h, ht => by
    unfold KidsAt at h
    rw [List.getElem?_cons_succ] at ht
    have := KidsAt.get ts (i + 1) j t' h.2.2 ht
    rwa [show i + 1 + j = i + (j + 1) by omega] at this
theorem KidsIn.get : ∀ (ts : List Nd) (j : Nat) (t : Nd), KidsIn ts → ts[j]? = some t → t.In
  | [], _, _, _, h => by simp at h
  | t :: ts, 0, t', h, ht => by
    simp only [List.getElem?_cons_zero, Option.some.injEq] at ht
    subst ht
    unfold KidsIn at h
    exact h.1
  | t :: ts, j + 1, t', h, ht => by
    unfold KidsIn at h
    rw [List.getElem?_cons_succ] at ht
    exact KidsIn.get ts j t' h.2 ht
mutual
theorem Nd.At.keep {w w' : World} (hw : ∀ b o cs, w.rangeAt b o cs → w'.rangeAt b o cs) : ∀ t : Nd, t.At w → t.At w'
  | .mk _ _ _ _ ad _ kids, h => by unfold Nd.At at h ⊢; exact KidsAt.keep hw ad 0 kids h
theorem KidsAt.keep {w w' : World} (hw : ∀ b o cs, w.rangeAt b o cs → w'.rangeAt b o cs) (ad : Option Addr) : ∀ (i : Nat) (ts : List Nd), KidsAt w ad i ts → KidsAt w' ad i ts
  | _, [], _ => by unfold KidsAt; trivial
  | i, t :: ts, h => by
    unfold KidsAt at h ⊢
    obtain ⟨⟨b, o, e, hr⟩, h2, h3⟩ := h
    exact ⟨⟨b, o, e, hw _ _ _ hr⟩, Nd.At.keep hw t h2, KidsAt.keep hw ad (i + 1) ts h3⟩
end
theorem Nd.At.kids {w : World} {t : Nd} (h : t.At w) : KidsAt w t.ad 0 t.kids := by cases t; unfold Nd.At at h; exact h
theorem Nd.In.kids {t : Nd} (h : t.In) : KidsIn t.kids := by cases t; unfold Nd.In at h; exact h.2.2.2.2.2
theorem Nd.In.nums {t : Nd} (h : t.In) : (-9223372036854775808 ≤ t.kind ∧ t.kind ≤ 9223372036854775807) ∧ (-9223372036854775808 ≤ t.f ∧ t.f ≤ 9223372036854775807) ∧ (0 ≤ t.val ∧ t.val ≤ 18446744073709551615) ∧ (0 ≤ t.mask ∧ t.mask ≤ 18446744073709551615) ∧ t.kids.length ≤ 9223372036854775807 := by
  cases t; unfold Nd.In at h; exact ⟨h.1, h.2.1, h.2.2.1, h.2.2.2.1, h.2.2.2.2.1⟩
/-- Kid j, and where it lies. -/
theorem Nd.At.kid {w : World} {t u : Nd} {j : Nat} (h : t.At w) (hu : t.kids[j]? = some u) : (∃ b o, t.ad = some ⟨b, o, none⟩ ∧ w.rangeAt b (o + j * 5) (ndL u)) ∧ u.At w := by
  have := h.kids.get _ 0 j u hu
  rwa [Nat.zero_add] at this
/-! ### What is wrong with a node by itself -/
def isFld (f : Int) : Prop := 0 ≤ f ∧ f < 9
instance (f : Int) : Decidable (isFld f) := by unfold isFld; infer_instance
def fitsP (k : Int) (pred : Bool) : Bool := if pred then decide (1 ≤ k ∧ k ≤ 6) else decide (11 ≤ k ∧ k ≤ 17)
def argE (t : Nd) : Int :=
  if t.kind = 3 then (if ¬ isFld t.f ∨ andNotN t.mask (fullI t.f.toNat) ≠ 0 ∨ andNotN t.val t.mask ≠ 0 then 1 else 0)
  else if t.kind = 14 then (if ¬ isFld t.f ∨ t.f = 3 ∨ t.f = 6 ∨ t.val > fullI t.f.toNat then 1 else 0) else 0
def leastK (k : Int) : Int := if k = 4 ∨ k = 13 then 1 else if k = 17 then 3 else 0
def mostK (k : Int) : Int := if k = 4 ∨ k = 13 then 1 else if k = 17 then 3 else if k = 5 ∨ k = 6 ∨ k = 15 ∨ k = 16 then 64 else 0
def formE (t : Nd) : Int := if (t.kids.length : Int) < leastK t.kind ∨ mostK t.kind < t.kids.length then 2 else 0
def predK (k : Int) (place : Nat) : Bool := decide (k = 4 ∨ k = 5 ∨ k = 6 ∨ k = 13 ∨ k = 17 ∧ place = 0)
theorem PField_c (w : World) (f : Int) :
    Calls Tryd.prog 119 #[.int .i64 f] w fun e w' => e = .returned (.bool (decide (isFld f))) ∧ Frm (fun _ => False) w w' := by
  refine enter Tryd.func119 rfl Tryd.ntmps119 rfl (St.start (fun _ => False) w) ?_
  refine WC.seq ?_
  refine WC.region ?_
  refine WL.val (v_assign rfl rfl) (.none rfl) rfl rfl ?_
  refine WL.nil ?_
  refine WE.then_n ?_
  refine WC.seq ?_
  refine WC.region ?_
  refine WL.val (v_move rfl rfl) (.none rfl) rfl rfl ?_
  refine WL.test (v_geq rfl rfl rfl) (.none rfl) rfl rfl (fun h4 => ?_) (fun h4 => ?_)
  · -- 4T
    refine WL.val (v_move rfl rfl) (.none rfl) rfl rfl ?_
    refine WL.val (v_move rfl rfl) (.some rfl rfl rfl) rfl rfl ?_
    refine WL.test (v_lss rfl rfl rfl) (.some rfl rfl rfl) rfl rfl (fun h7 => ?_) (fun h7 => ?_)
    · -- 7T
      refine WL.val (v_pick_t rfl rfl rfl) (.none rfl) rfl rfl ?_
      refine WL.val (v_assign rfl rfl) (.none rfl) rfl rfl ?_
      refine WL.nil ?_
      refine WE.then_n ?_
      refine WC.ret ?_
      refine WE.ret1 (P := Tryd.prog) (.inl rfl) Tryd.results119 rfl ?_
      exact fun w' h => ⟨by rw [decide_eq_true (p := isFld f) ⟨h4, h7⟩], h.frm⟩
    · -- 7F
      refine WL.val (v_pick_t rfl rfl rfl) (.none rfl) rfl rfl ?_
      refine WL.val (v_assign rfl rfl) (.none rfl) rfl rfl ?_
      refine WL.nil ?_
      refine WE.then_n ?_
      refine WC.ret ?_
      refine WE.ret1 (P := Tryd.prog) (.inl rfl) Tryd.results119 rfl ?_
      exact fun w' h => ⟨by rw [decide_eq_false (fun q : isFld f => h7 q.2)], h.frm⟩
  · -- 4F
    refine WL.val (v_move rfl rfl) (.none rfl) rfl rfl ?_
    refine WL.skip rfl rfl rfl rfl rfl rfl ?_
    refine WL.skip rfl rfl rfl rfl rfl rfl ?_
    refine WL.val (v_pick_f rfl rfl rfl) (.none rfl) rfl rfl ?_
    refine WL.val (v_assign rfl rfl) (.none rfl) rfl rfl ?_
    refine WL.nil ?_
    refine WE.then_n ?_
    refine WC.ret ?_
    refine WE.ret1 (P := Tryd.prog) (.inl rfl) Tryd.results119 rfl ?_
    exact fun w' h => ⟨by rw [decide_eq_false (fun q : isFld f => h4 q.1)], h.frm⟩
theorem Fits_c (w : World) (k : Int) (pred : Bool) :
    Calls Tryd.prog 86 #[.int .i64 k, .bool pred] w fun e w' => e = .returned (.bool (fitsP k pred)) ∧ Frm (fun _ => False) w w' := by
  refine enter Tryd.func86 rfl Tryd.ntmps86 rfl (St.start (fun _ => False) w) ?_
  refine WC.seq ?_
  refine WC.region ?_
  refine WL.val (v_assign rfl rfl) (.none rfl) rfl rfl ?_
  refine WL.nil ?_
  refine WE.then_n ?_
  refine WC.seq ?_
  refine WC.seq ?_
  refine WC.region ?_
  refine WL.val (v_move rfl rfl) (.none rfl) rfl rfl ?_
  cases pred
  · -- 5F
    refine WL.nil ?_
    refine WE.then_n ?_
    refine WC.cond_f rfl ?_
    refine WC.skip ?_
    refine WE.then_n ?_
    refine WC.seq ?_
    refine WC.region ?_
    refine WL.val (v_move rfl rfl) (.none rfl) rfl rfl ?_
    refine WL.test (v_geq rfl rfl rfl) (.none rfl) rfl rfl (fun h13 => ?_) (fun h13 => ?_)
    · -- 13T
      refine WL.val (v_move rfl rfl) (.none rfl) rfl rfl ?_
      refine WL.val (v_move rfl rfl) (.some rfl rfl rfl) rfl rfl ?_
      refine WL.test (v_leq rfl rfl rfl) (.some rfl rfl rfl) rfl rfl (fun h16 => ?_) (fun h16 => ?_)
      · -- 16T
        refine WL.val (v_pick_t rfl rfl rfl) (.none rfl) rfl rfl ?_
        refine WL.val (v_assign rfl rfl) (.none rfl) rfl rfl ?_
        refine WL.nil ?_
        refine WE.then_n ?_
        refine WC.ret ?_
        refine WE.ret1 (P := Tryd.prog) (.inl rfl) Tryd.results86 rfl ?_
        exact fun w' h => ⟨by unfold fitsP; first | (rw [if_pos rfl, decide_eq_true (by omega)]) | (rw [if_pos rfl, decide_eq_false (by omega)]) | (rw [if_neg (by decide), decide_eq_true (by omega)]) | (rw [if_neg (by decide), decide_eq_false (by omega)]), h.frm⟩
      · -- 16F
        refine WL.val (v_pick_t rfl rfl rfl) (.none rfl) rfl rfl ?_
        refine WL.val (v_assign rfl rfl) (.none rfl) rfl rfl ?_
        refine WL.nil ?_
        refine WE.then_n ?_
        refine WC.ret ?_
        refine WE.ret1 (P := Tryd.prog) (.inl rfl) Tryd.results86 rfl ?_
        exact fun w' h => ⟨by unfold fitsP; first | (rw [if_pos rfl, decide_eq_true (by omega)]) | (rw [if_pos rfl, decide_eq_false (by omega)]) | (rw [if_neg (by decide), decide_eq_true (by omega)]) | (rw [if_neg (by decide), decide_eq_false (by omega)]), h.frm⟩
    · -- 13F
      refine WL.val (v_move rfl rfl) (.none rfl) rfl rfl ?_
      refine WL.skip rfl rfl rfl rfl rfl rfl ?_
      refine WL.skip rfl rfl rfl rfl rfl rfl ?_
      refine WL.val (v_pick_f rfl rfl rfl) (.none rfl) rfl rfl ?_
      refine WL.val (v_assign rfl rfl) (.none rfl) rfl rfl ?_
      refine WL.nil ?_
      refine WE.then_n ?_
      refine WC.ret ?_
      refine WE.ret1 (P := Tryd.prog) (.inl rfl) Tryd.results86 rfl ?_
      exact fun w' h => ⟨by unfold fitsP; first | (rw [if_pos rfl, decide_eq_true (by omega)]) | (rw [if_pos rfl, decide_eq_false (by omega)]) | (rw [if_neg (by decide), decide_eq_true (by omega)]) | (rw [if_neg (by decide), decide_eq_false (by omega)]), h.frm⟩
  · -- 5T
    refine WL.nil ?_
    refine WE.then_n ?_
    refine WC.cond_t rfl ?_
    refine WC.seq ?_
    refine WC.region ?_
    refine WL.val (v_move rfl rfl) (.none rfl) rfl rfl ?_
    refine WL.test (v_geq rfl rfl rfl) (.none rfl) rfl rfl (fun h7 => ?_) (fun h7 => ?_)
    · -- 7T
      refine WL.val (v_move rfl rfl) (.none rfl) rfl rfl ?_
      refine WL.val (v_move rfl rfl) (.some rfl rfl rfl) rfl rfl ?_
      refine WL.test (v_leq rfl rfl rfl) (.some rfl rfl rfl) rfl rfl (fun h10 => ?_) (fun h10 => ?_)
      · -- 10T
        refine WL.val (v_pick_t rfl rfl rfl) (.none rfl) rfl rfl ?_
        refine WL.val (v_assign rfl rfl) (.none rfl) rfl rfl ?_
        refine WL.nil ?_
        refine WE.then_n ?_
        refine WC.ret ?_
        refine WE.then_ret ?_
        refine WE.ret1 (P := Tryd.prog) (.inl rfl) Tryd.results86 rfl ?_
        exact fun w' h => ⟨by unfold fitsP; first | (rw [if_pos rfl, decide_eq_true (by omega)]) | (rw [if_pos rfl, decide_eq_false (by omega)]) | (rw [if_neg (by decide), decide_eq_true (by omega)]) | (rw [if_neg (by decide), decide_eq_false (by omega)]), h.frm⟩
      · -- 10F
        refine WL.val (v_pick_t rfl rfl rfl) (.none rfl) rfl rfl ?_
        refine WL.val (v_assign rfl rfl) (.none rfl) rfl rfl ?_
        refine WL.nil ?_
        refine WE.then_n ?_
        refine WC.ret ?_
        refine WE.then_ret ?_
        refine WE.ret1 (P := Tryd.prog) (.inl rfl) Tryd.results86 rfl ?_
        exact fun w' h => ⟨by unfold fitsP; first | (rw [if_pos rfl, decide_eq_true (by omega)]) | (rw [if_pos rfl, decide_eq_false (by omega)]) | (rw [if_neg (by decide), decide_eq_true (by omega)]) | (rw [if_neg (by decide), decide_eq_false (by omega)]), h.frm⟩
    · -- 7F
      refine WL.val (v_move rfl rfl) (.none rfl) rfl rfl ?_
      refine WL.skip rfl rfl rfl rfl rfl rfl ?_
      refine WL.skip rfl rfl rfl rfl rfl rfl ?_
      refine WL.val (v_pick_f rfl rfl rfl) (.none rfl) rfl rfl ?_
      refine WL.val (v_assign rfl rfl) (.none rfl) rfl rfl ?_
      refine WL.nil ?_
      refine WE.then_n ?_
      refine WC.ret ?_
      refine WE.then_ret ?_
      refine WE.ret1 (P := Tryd.prog) (.inl rfl) Tryd.results86 rfl ?_
      exact fun w' h => ⟨by unfold fitsP; first | (rw [if_pos rfl, decide_eq_true (by omega)]) | (rw [if_pos rfl, decide_eq_false (by omega)]) | (rw [if_neg (by decide), decide_eq_true (by omega)]) | (rw [if_neg (by decide), decide_eq_false (by omega)]), h.frm⟩
theorem PredKid_c (w : World) (t : Nd) (place : Nat) :
    Calls Tryd.prog 89 #[ndV t, .int .i64 place] w fun e w' => e = .returned (.bool (predK t.kind place)) ∧ Frm (fun _ => False) w w' := by
  refine enter Tryd.func89 rfl Tryd.ntmps89 rfl (St.start (fun _ => False) w) ?_
  refine WC.seq ?_
  refine WC.region ?_
  refine WL.box rfl rfl rfl (.none rfl) rfl rfl ?_
  intro g2 hg2
  refine WL.val (v_assign rfl rfl) (.none rfl) rfl rfl ?_
  refine WL.nil ?_
  refine WE.then_n ?_
  refine WC.seq ?_
  refine WC.seq ?_
  refine WC.region ?_
  refine WL.val (v_fieldAddr0 rfl rfl fld_45_0) (.none rfl) rfl rfl ?_
  refine WL.val (v_load1 rfl rfl one_3 (cellAt rfl)) (.none rfl) rfl rfl ?_
  refine WL.nil ?_
  refine WE.then_n ?_
  refine WC.block ?_
  refine WC.seq ?_
  refine WC.seq ?_
  refine WC.region ?_
  refine WL.test (v_eql rfl rfl rfl) (.none rfl) rfl rfl (fun h8 => ?_) (fun h8 => ?_)
  · -- 8T
    refine WL.val (v_assign rfl rfl) (.none rfl) rfl rfl ?_
    refine WL.nil ?_
    refine WE.then_n ?_
    refine WC.cond_t rfl ?_
    refine WC.skip ?_
    refine WE.then_n ?_
    refine WC.cond_t rfl ?_
    refine WC.seq ?_
    refine WC.region ?_
    refine WL.val (v_assign rfl rfl) (.none rfl) rfl rfl ?_
    refine WL.nil ?_
    refine WE.then_n ?_
    refine WC.ret ?_
    refine WE.block_ret ?_
    refine WE.then_ret ?_
    refine WE.ret1 (P := Tryd.prog) (.inl rfl) Tryd.results89 rfl ?_
    exact fun w' h => ⟨by unfold predK; first | rw [decide_eq_true (by omega)] | rw [decide_eq_false (by omega)], h.frm⟩
  · -- 8F
    refine WL.val (v_assign rfl rfl) (.none rfl) rfl rfl ?_
    refine WL.nil ?_
    refine WE.then_n ?_
    refine WC.cond_f rfl ?_
    refine WC.seq ?_
    refine WC.region ?_
    refine WL.test (v_eql rfl rfl rfl) (.none rfl) rfl rfl (fun h9 => ?_) (fun h9 => ?_)
    · -- 9T
      refine WL.val (v_assign rfl rfl) (.none rfl) rfl rfl ?_
      refine WL.nil ?_
      refine WE.then_n ?_
      refine WC.cond_t rfl ?_
      refine WC.skip ?_
      refine WE.then_n ?_
      refine WC.cond_t rfl ?_
      refine WC.seq ?_
      refine WC.region ?_
      refine WL.val (v_assign rfl rfl) (.none rfl) rfl rfl ?_
      refine WL.nil ?_
      refine WE.then_n ?_
      refine WC.ret ?_
      refine WE.block_ret ?_
      refine WE.then_ret ?_
      refine WE.ret1 (P := Tryd.prog) (.inl rfl) Tryd.results89 rfl ?_
      exact fun w' h => ⟨by unfold predK; first | rw [decide_eq_true (by omega)] | rw [decide_eq_false (by omega)], h.frm⟩
    · -- 9F
      refine WL.val (v_assign rfl rfl) (.none rfl) rfl rfl ?_
      refine WL.nil ?_
      refine WE.then_n ?_
      refine WC.cond_f rfl ?_
      refine WC.seq ?_
      refine WC.region ?_
      refine WL.test (v_eql rfl rfl rfl) (.none rfl) rfl rfl (fun h10 => ?_) (fun h10 => ?_)
      · -- 10T
        refine WL.val (v_assign rfl rfl) (.none rfl) rfl rfl ?_
        refine WL.nil ?_
        refine WE.then_n ?_
        refine WC.cond_t rfl ?_
        refine WC.skip ?_
        refine WE.then_n ?_
        refine WC.cond_t rfl ?_
        refine WC.seq ?_
        refine WC.region ?_
        refine WL.val (v_assign rfl rfl) (.none rfl) rfl rfl ?_
        refine WL.nil ?_
        refine WE.then_n ?_
        refine WC.ret ?_
        refine WE.block_ret ?_
        refine WE.then_ret ?_
        refine WE.ret1 (P := Tryd.prog) (.inl rfl) Tryd.results89 rfl ?_
        exact fun w' h => ⟨by unfold predK; first | rw [decide_eq_true (by omega)] | rw [decide_eq_false (by omega)], h.frm⟩
      · -- 10F
        refine WL.val (v_assign rfl rfl) (.none rfl) rfl rfl ?_
        refine WL.nil ?_
        refine WE.then_n ?_
        refine WC.cond_f rfl ?_
        refine WC.region ?_
        refine WL.test (v_eql rfl rfl rfl) (.none rfl) rfl rfl (fun h11 => ?_) (fun h11 => ?_)
        · -- 11T
          refine WL.val (v_assign rfl rfl) (.none rfl) rfl rfl ?_
          refine WL.nil ?_
          refine WE.then_n ?_
          refine WC.cond_t rfl ?_
          refine WC.seq ?_
          refine WC.region ?_
          refine WL.val (v_assign rfl rfl) (.none rfl) rfl rfl ?_
          refine WL.nil ?_
          refine WE.then_n ?_
          refine WC.ret ?_
          refine WE.block_ret ?_
          refine WE.then_ret ?_
          refine WE.ret1 (P := Tryd.prog) (.inl rfl) Tryd.results89 rfl ?_
          exact fun w' h => ⟨by unfold predK; first | rw [decide_eq_true (by omega)] | rw [decide_eq_false (by omega)], h.frm⟩
        · -- 11F
          refine WL.val (v_assign rfl rfl) (.none rfl) rfl rfl ?_
          refine WL.nil ?_
          refine WE.then_n ?_
          refine WC.cond_f rfl ?_
          refine WC.seq ?_
          refine WC.region ?_
          refine WL.test (v_eql rfl rfl rfl) (.none rfl) rfl rfl (fun h13 => ?_) (fun h13 => ?_)
          · -- 13T
            refine WL.val (v_assign rfl rfl) (.none rfl) rfl rfl ?_
            refine WL.nil ?_
            refine WE.then_n ?_
            refine WC.cond_t rfl ?_
            refine WC.seq ?_
            refine WC.region ?_
            refine WL.val (v_move rfl rfl) (.none rfl) rfl rfl ?_
            refine WL.test (v_eql rfl rfl rfl) (.none rfl) rfl rfl (fun h15 => ?_) (fun h15 => ?_)
            · -- 15T
              refine WL.val (v_assign rfl rfl) (.none rfl) rfl rfl ?_
              refine WL.nil ?_
              refine WE.then_n ?_
              refine WC.ret ?_
              refine WE.block_ret ?_
              refine WE.then_ret ?_
              refine WE.ret1 (P := Tryd.prog) (.inl rfl) Tryd.results89 rfl ?_
              exact fun w' h => ⟨by unfold predK; first | rw [decide_eq_true (by omega)] | rw [decide_eq_false (by omega)], h.frm⟩
            · -- 15F
              refine WL.val (v_assign rfl rfl) (.none rfl) rfl rfl ?_
              refine WL.nil ?_
              refine WE.then_n ?_
              refine WC.ret ?_
              refine WE.block_ret ?_
              refine WE.then_ret ?_
              refine WE.ret1 (P := Tryd.prog) (.inl rfl) Tryd.results89 rfl ?_
              exact fun w' h => ⟨by unfold predK; first | rw [decide_eq_true (by omega)] | rw [decide_eq_false (by omega)], h.frm⟩
          · -- 13F
            refine WL.val (v_assign rfl rfl) (.none rfl) rfl rfl ?_
            refine WL.nil ?_
            refine WE.then_n ?_
            refine WC.cond_f rfl ?_
            refine WC.skip ?_
            refine WE.block_n ?_
            refine WE.then_n ?_
            refine WC.seq ?_
            refine WC.region ?_
            refine WL.val (v_assign rfl rfl) (.none rfl) rfl rfl ?_
            refine WL.nil ?_
            refine WE.then_n ?_
            refine WC.ret ?_
            refine WE.ret1 (P := Tryd.prog) (.inl rfl) Tryd.results89 rfl ?_
            exact fun w' h => ⟨by unfold predK; first | rw [decide_eq_true (by omega)] | rw [decide_eq_false (by omega)], h.frm⟩
end Go.Proofs.YtodaanhhnjkncaaDoor
