/- Acts: the plain law. -/
import Derived.Test.YtodaanhhnjkncaaDoorActC
namespace Go.Proofs.YtodaanhhnjkncaaDoor
open Go.RowKit

theorem numK_ofB {n : Int} (h0 : 0 ≤ n) (h1 : n ≤ 281474976710655) : numK (ofB n) 6 = n := by
  simp only [numK, ofB]
  have e5 : (256 : Int) ^ 5 = 1099511627776 := by decide
  have e4 : (256 : Int) ^ 4 = 4294967296 := by decide
  have e3 : (256 : Int) ^ 3 = 16777216 := by decide
  have e2 : (256 : Int) ^ 2 = 65536 := by decide
  have e1 : (256 : Int) ^ 1 = 256 := by decide
  have e0 : (256 : Int) ^ 0 = 1 := by decide
  simp only [e5, e4, e3, e2, e1, e0, Nat.sub_zero, Nat.sub_self, show 5 - 1 = 4 from rfl, show 5 - 2 = 3 from rfl, show 5 - 3 = 2 from rfl, show 5 - 4 = 1 from rfl]
  omega
theorem getF_with {k : Nat} (hk : k < 9) {n : Int} (h0 : 0 ≤ n) (h1 : n ≤ fullI k) (H : Hd) : getF (wthF k n H) k = n := by
  unfold getF
  match k, hk with
  | 0, _ => have e : fullI 0 = 255 := (by decide); show n % 18446744073709551616 % (2 ^ 8) = n; omega
  | 1, _ => have e : fullI 1 = 281474976710655 := (by decide); show numK (ofB n) 6 % (2 ^ 48) = n; rw [numK_ofB h0 (by omega)]; omega
  | 2, _ => have e : fullI 2 = 281474976710655 := (by decide); show numK (ofB n) 6 % (2 ^ 48) = n; rw [numK_ofB h0 (by omega)]; omega
  | 3, _ => have e : fullI 3 = 65535 := (by decide); show n % 18446744073709551616 % (2 ^ 16) = n; omega
  | 4, _ => have e : fullI 4 = 4294967295 := (by decide); show n % (2 ^ 32) = n; omega
  | 5, _ => have e : fullI 5 = 4294967295 := (by decide); show n % (2 ^ 32) = n; omega
  | 6, _ => have e : fullI 6 = 255 := (by decide); show n % 18446744073709551616 % (2 ^ 8) = n; omega
  | 7, _ => have e : fullI 7 = 65535 := (by decide); show n % 18446744073709551616 % (2 ^ 16) = n; omega
  | 8, _ => have e : fullI 8 = 65535 := (by decide); show n % 18446744073709551616 % (2 ^ 16) = n; omega
theorem getF_with_ne {k j : Nat} (hj : j < 9) (hne : k ≠ j) (n : Int) (H : Hd) : getF (wthF k n H) j = getF H j := by
  unfold getF
  congr 1
  match k with
  | 0 => match j, hj with | 0, _ => exact absurd rfl hne | 1, _ | 2, _ | 3, _ | 4, _ | 5, _ | 6, _ | 7, _ | 8, _ => rfl
  | 1 => match j, hj with | 1, _ => exact absurd rfl hne | 0, _ | 2, _ | 3, _ | 4, _ | 5, _ | 6, _ | 7, _ | 8, _ => rfl
  | 2 => match j, hj with | 2, _ => exact absurd rfl hne | 1, _ | 0, _ | 3, _ | 4, _ | 5, _ | 6, _ | 7, _ | 8, _ => rfl
  | 3 => match j, hj with | 3, _ => exact absurd rfl hne | 1, _ | 2, _ | 0, _ | 4, _ | 5, _ | 6, _ | 7, _ | 8, _ => rfl
  | 4 => match j, hj with | 4, _ => exact absurd rfl hne | 1, _ | 2, _ | 3, _ | 0, _ | 5, _ | 6, _ | 7, _ | 8, _ => rfl
  | 5 => match j, hj with | 5, _ => exact absurd rfl hne | 1, _ | 2, _ | 3, _ | 4, _ | 0, _ | 6, _ | 7, _ | 8, _ => rfl
  | 6 => match j, hj with | 6, _ => exact absurd rfl hne | 1, _ | 2, _ | 3, _ | 4, _ | 5, _ | 0, _ | 7, _ | 8, _ => rfl
  | 7 => match j, hj with | 7, _ => exact absurd rfl hne | 1, _ | 2, _ | 3, _ | 4, _ | 5, _ | 6, _ | 0, _ | 8, _ => rfl
  | 8 => match j, hj with | 8, _ => exact absurd rfl hne | 1, _ | 2, _ | 3, _ | 4, _ | 5, _ | 6, _ | 7, _ | 0, _ => rfl
  | _ + 9 => rfl
theorem proj_appK {α : Type} (f : Hd → α) (j : Nat) (φ : Int → α) (a : Ac) (h1 : ∀ H, f (wthF j (a.val j) H) = φ (a.val j)) (h2 : ∀ k n H, k ≠ j → f (wthF k n H) = f H) (H : Hd) :
    ∀ k, f (appK a H k) = if j < k ∧ a.sets j then φ (a.val j) else f H
  | 0 => by rw [if_neg (fun h => Nat.not_lt_zero _ h.1)]; rfl
  | k + 1 => by
    have ih := proj_appK f j φ a h1 h2 H k
    show f (if a.sets k then wthF k (a.val k) (appK a H k) else appK a H k) = _
    by_cases hs : a.sets k
    · rw [if_pos hs]
      by_cases e : k = j
      · subst e; rw [h1, if_pos ⟨by omega, hs⟩]
      · rw [h2 k _ _ e, ih]
        by_cases hj : j < k ∧ a.sets j
        · rw [if_pos hj, if_pos ⟨by omega, hj.2⟩]
        · rw [if_neg hj, if_neg (fun q => hj ⟨by omega, q.2⟩)]
    · rw [if_neg hs, ih]
      by_cases hj : j < k ∧ a.sets j
      · rw [if_pos hj, if_pos ⟨by omega, hj.2⟩]
      · rw [if_neg hj, if_neg (fun q => hj ⟨by have := q.1; by_cases e : j = k; (subst e; exact absurd q.2 hs); omega, q.2⟩)]
theorem getF_appK {a : Ac} (hv : a.In) (ha : a.Ok) (H : Hd) {j : Nat} (hj : j < 9) : getF (appK a H 9) j = if a.sets j then a.val j else getF H j := by
  rw [proj_appK (fun H => getF H j) j (fun n => n) a (fun H => getF_with hj (hv.val j).1 (ha.2 j hj).1 H) (fun k n H hne => getF_with_ne hj hne n H) H 9]
  by_cases h : a.sets j
  · rw [if_pos h, if_pos ⟨hj, h⟩]
  · rw [if_neg h, if_neg (fun q => h q.2)]
theorem wthF_in {k : Nat} {n : Int} {H : Hd} (hH : H.In) (h0 : 0 ≤ n) (h1 : n ≤ fullI k) : (wthF k n H).In := by
  match k with
  | 0 => have e : fullI 0 = 255 := (by decide); exact { hH with port := (by show _ ∧ n ≤ _; refine ⟨?_, by omega⟩; show _ ≤ n; omega) }
  | 1 => exact { hH with src := ofB_byt n }
  | 2 => exact { hH with dst := ofB_byt n }
  | 3 => have e : fullI 3 = 65535 := (by decide); exact { hH with ty := (by show _ ∧ n ≤ _; refine ⟨?_, by omega⟩; show _ ≤ n; omega) }
  | 4 => have e : fullI 4 = 4294967295 := (by decide); exact { hH with sip := (by show 0 ≤ n ∧ n ≤ _; omega) }
  | 5 => have e : fullI 5 = 4294967295 := (by decide); exact { hH with dip := (by show 0 ≤ n ∧ n ≤ _; omega) }
  | 6 => have e : fullI 6 = 255 := (by decide); exact { hH with proto := (by show _ ∧ n ≤ _; refine ⟨?_, by omega⟩; show _ ≤ n; omega) }
  | 7 => have e : fullI 7 = 65535 := (by decide); exact { hH with sp := (by show _ ∧ n ≤ _; refine ⟨?_, by omega⟩; show _ ≤ n; omega) }
  | 8 => have e : fullI 8 = 65535 := (by decide); exact { hH with dp := (by show _ ∧ n ≤ _; refine ⟨?_, by omega⟩; show _ ≤ n; omega) }
  | _ + 9 => exact hH
theorem appK_in {a : Ac} {H : Hd} (hH : H.In) (hv : a.In) (ha : a.Ok) : ∀ k, k ≤ 9 → (appK a H k).In
  | 0, _ => hH
  | k + 1, hk => by
    show Hd.In (if a.sets k then wthF k (a.val k) (appK a H k) else appK a H k)
    by_cases h : a.sets k
    · rw [if_pos h]; exact wthF_in (appK_in hH hv ha k (by omega)) (hv.val k).1 (ha.2 k (by omega)).1
    · rw [if_neg h]; exact appK_in hH hv ha k (by omega)
/-! ### Two acts as one -/
theorem orN_nn (x y : Int) : 0 ≤ orN x y := by unfold orN; omega
theorem orN_511 {x y : Int} (hx : x ≤ 511) (hy : y ≤ 511) : orN x y ≤ 511 := by
  have := Nat.or_lt_two_pow (x := x.toNat) (y := y.toNat) (n := 9) (by omega) (by omega)
  unfold orN; omega
theorem then_sets {a b : Ac} (ha : a.Ok) (hb : b.Ok) (k : Nat) : (a.then b).sets k ↔ a.sets k ∨ b.sets k := by
  show orN a.set b.set / 2 ^ k % 2 = 1 ↔ a.set / 2 ^ k % 2 = 1 ∨ b.set / 2 ^ k % 2 = 1
  rw [bitN_iff (orN_nn _ _), bitN_iff ha.1.1, bitN_iff hb.1.1, bitN_or, Bool.or_eq_true]
theorem then_val (a b : Ac) (k : Nat) : (a.then b).val k = if b.sets k then b.val k else a.val k := rfl
theorem then_ok {a b : Ac} (ha : a.Ok) (hb : b.Ok) : (a.then b).Ok := by
  refine ⟨⟨orN_nn _ _, orN_511 ha.1.2 hb.1.2⟩, fun k hk => ?_⟩
  rw [then_sets ha hb, then_val]
  by_cases h : b.sets k
  · rw [if_pos h]; exact ⟨(hb.2 k hk).1, fun _ => .inr h⟩
  · rw [if_neg h]; exact ⟨(ha.2 k hk).1, fun q => .inl ((ha.2 k hk).2 q)⟩
theorem then_in {a b : Ac} (ha : a.Ok) (hb : b.Ok) (hva : a.In) (hvb : b.In) : (a.then b).In := by
  have h1 := orN_511 ha.1.2 hb.1.2
  have h2 := orN_nn a.set b.set
  refine ⟨⟨by show _ ≤ orN _ _; omega, by show orN _ _ ≤ _; omega⟩, fun k => ?_⟩
  rw [then_val]
  split
  · exact hvb.val k
  · exact hva.val k
theorem then_apply {a b : Ac} (ha : a.Ok) (hb : b.Ok) (H : Hd) : appK (a.then b) H 9 = appK b (appK a H 9) 9 := by
  have key : ∀ {α : Type} (f : Hd → α) (j : Nat) (φ : Int → α), j < 9 → (∀ n H, f (wthF j n H) = φ n) → (∀ k n H, k ≠ j → f (wthF k n H) = f H) → f (appK (a.then b) H 9) = f (appK b (appK a H 9) 9) := by
    intro α f j φ hj h1 h2
    rw [proj_appK f j φ (a.then b) (h1 _) h2 H 9, proj_appK f j φ b (h1 _) h2 (appK a H 9) 9, proj_appK f j φ a (h1 _) h2 H 9, then_val]
    by_cases hb' : b.sets j
    · rw [if_pos ⟨hj, (then_sets ha hb j).2 (.inr hb')⟩, if_pos hb', if_pos ⟨hj, hb'⟩]
    · rw [if_neg (fun q : j < 9 ∧ b.sets j => hb' q.2)]
      by_cases ha' : a.sets j
      · rw [if_pos ⟨hj, (then_sets ha hb j).2 (.inl ha')⟩, if_neg hb', if_pos ⟨hj, ha'⟩]
      · rw [if_neg (fun q => by rcases (then_sets ha hb j).1 q.2 with h | h <;> contradiction), if_neg (fun q => ha' q.2)]
  have ne : ∀ {α : Type} (f : Hd → α) (j : Nat), (∀ n H, (j ≠ 0 → f (wthF 0 n H) = f H) ∧ (j ≠ 1 → f (wthF 1 n H) = f H) ∧ (j ≠ 2 → f (wthF 2 n H) = f H) ∧ (j ≠ 3 → f (wthF 3 n H) = f H) ∧ (j ≠ 4 → f (wthF 4 n H) = f H) ∧ (j ≠ 5 → f (wthF 5 n H) = f H) ∧ (j ≠ 6 → f (wthF 6 n H) = f H) ∧ (j ≠ 7 → f (wthF 7 n H) = f H) ∧ (j ≠ 8 → f (wthF 8 n H) = f H)) →
      ∀ k n H, k ≠ j → f (wthF k n H) = f H := by
    intro α f j h k n H hne
    obtain ⟨h0, h1, h2, h3, h4, h5, h6, h7, h8⟩ := h n H
    match k with
    | 0 => exact h0 hne.symm
    | 1 => exact h1 hne.symm
    | 2 => exact h2 hne.symm
    | 3 => exact h3 hne.symm
    | 4 => exact h4 hne.symm
    | 5 => exact h5 hne.symm
    | 6 => exact h6 hne.symm
    | 7 => exact h7 hne.symm
    | 8 => exact h8 hne.symm
    | _ + 9 => rfl
  have ext : ∀ X Y : Hd, X.port = Y.port → X.src = Y.src → X.dst = Y.dst → X.ty = Y.ty → X.sip = Y.sip → X.dip = Y.dip → X.proto = Y.proto → X.sp = Y.sp → X.dp = Y.dp → X = Y := by
    rintro ⟨⟩ ⟨⟩ h1 h2 h3 h4 h5 h6 h7 h8 h9
    dsimp only at h1 h2 h3 h4 h5 h6 h7 h8 h9
    subst h1 h2 h3 h4 h5 h6 h7 h8 h9
    rfl
  refine ext _ _ ?_ ?_ ?_ ?_ ?_ ?_ ?_ ?_ ?_
  · exact key Hd.port 0 (fun n => n) (by omega) (fun _ _ => rfl) (ne _ 0 fun n H => ⟨fun h => absurd rfl h, fun _ => rfl, fun _ => rfl, fun _ => rfl, fun _ => rfl, fun _ => rfl, fun _ => rfl, fun _ => rfl, fun _ => rfl⟩)
  · exact key Hd.src 1 ofB (by omega) (fun _ _ => rfl) (ne _ 1 fun n H => ⟨fun _ => rfl, fun h => absurd rfl h, fun _ => rfl, fun _ => rfl, fun _ => rfl, fun _ => rfl, fun _ => rfl, fun _ => rfl, fun _ => rfl⟩)
  · exact key Hd.dst 2 ofB (by omega) (fun _ _ => rfl) (ne _ 2 fun n H => ⟨fun _ => rfl, fun _ => rfl, fun h => absurd rfl h, fun _ => rfl, fun _ => rfl, fun _ => rfl, fun _ => rfl, fun _ => rfl, fun _ => rfl⟩)
  · exact key Hd.ty 3 (fun n => n) (by omega) (fun _ _ => rfl) (ne _ 3 fun n H => ⟨fun _ => rfl, fun _ => rfl, fun _ => rfl, fun h => absurd rfl h, fun _ => rfl, fun _ => rfl, fun _ => rfl, fun _ => rfl, fun _ => rfl⟩)
  · exact key Hd.sip 4 (fun n => n) (by omega) (fun _ _ => rfl) (ne _ 4 fun n H => ⟨fun _ => rfl, fun _ => rfl, fun _ => rfl, fun _ => rfl, fun h => absurd rfl h, fun _ => rfl, fun _ => rfl, fun _ => rfl, fun _ => rfl⟩)
  · exact key Hd.dip 5 (fun n => n) (by omega) (fun _ _ => rfl) (ne _ 5 fun n H => ⟨fun _ => rfl, fun _ => rfl, fun _ => rfl, fun _ => rfl, fun _ => rfl, fun h => absurd rfl h, fun _ => rfl, fun _ => rfl, fun _ => rfl⟩)
  · exact key Hd.proto 6 (fun n => n) (by omega) (fun _ _ => rfl) (ne _ 6 fun n H => ⟨fun _ => rfl, fun _ => rfl, fun _ => rfl, fun _ => rfl, fun _ => rfl, fun _ => rfl, fun h => absurd rfl h, fun _ => rfl, fun _ => rfl⟩)
  · exact key Hd.sp 7 (fun n => n) (by omega) (fun _ _ => rfl) (ne _ 7 fun n H => ⟨fun _ => rfl, fun _ => rfl, fun _ => rfl, fun _ => rfl, fun _ => rfl, fun _ => rfl, fun _ => rfl, fun h => absurd rfl h, fun _ => rfl⟩)
  · exact key Hd.dp 8 (fun n => n) (by omega) (fun _ _ => rfl) (ne _ 8 fun n H => ⟨fun _ => rfl, fun _ => rfl, fun _ => rfl, fun _ => rfl, fun _ => rfl, fun _ => rfl, fun _ => rfl, fun _ => rfl, fun h => absurd rfl h⟩)
theorem then_self {a : Ac} (ha : a.Ok) : acL (a.then a) = acL a := by
  show Value.int .i64 (orN a.set a.set) :: ucs _ 9 = Value.int .i64 a.set :: ucs _ 9
  have e : orN a.set a.set = a.set := by unfold orN; rw [Nat.or_self]; have := ha.1.1; omega
  rw [e]
  congr 1
  exact ucs_congr fun i _ => by rw [then_val]; split <;> rfl
/-! ### The order of acts -/
theorem cmpI_neg (x y : Int) : cmpI x y = -cmpI y x := by unfold cmpI; split <;> split <;> (try split) <;> omega
theorem cmpI_zero (x y : Int) : cmpI x y = 0 ↔ x = y := by unfold cmpI; split <;> (try split) <;> omega
theorem lexK_neg (f g : Nat → Int) : ∀ k, lexK f g k = -lexK g f k
  | 0 => rfl
  | k + 1 => by
    have ih := lexK_neg f g k
    show (if lexK f g k ≠ 0 then lexK f g k else cmpI (f k) (g k)) = -(if lexK g f k ≠ 0 then lexK g f k else cmpI (g k) (f k))
    by_cases h : lexK f g k = 0
    · rw [if_neg (by omega), if_neg (by omega)]; exact cmpI_neg _ _
    · rw [if_pos h, if_pos (by omega)]; exact ih
theorem lexK_zero (f g : Nat → Int) : ∀ k, lexK f g k = 0 ↔ ∀ i, i < k → f i = g i
  | 0 => ⟨fun _ i h => absurd h (Nat.not_lt_zero i), fun _ => rfl⟩
  | k + 1 => by
    have ih := lexK_zero f g k
    show (if lexK f g k ≠ 0 then lexK f g k else cmpI (f k) (g k)) = 0 ↔ _
    by_cases h : lexK f g k = 0
    · rw [if_neg (by omega), cmpI_zero]
      refine ⟨fun e i hi => ?_, fun q => q k (by omega)⟩
      by_cases e2 : i = k
      · subst e2; exact e
      · exact ih.1 h i (by omega)
    · rw [if_pos h]
      exact ⟨fun q => absurd q h, fun q => ih.2 fun i hi => q i (by omega)⟩
theorem acmp_neg (a b : Ac) : acmp a b = -acmp b a := by
  unfold acmp
  have h := cmpI_neg a.set b.set
  by_cases e : cmpI a.set b.set = 0
  · rw [if_neg (by omega), if_neg (by omega)]; exact lexK_neg _ _ _
  · rw [if_pos e, if_pos (by omega)]; exact h
theorem acL_eq {a b : Ac} : acL a = acL b ↔ a.set = b.set ∧ ∀ i, i < 9 → a.val i = b.val i := by
  constructor
  · intro h
    unfold acL at h
    have h1 := (List.cons.inj h).1
    have h2 := (List.cons.inj h).2
    refine ⟨by injection h1, fun i hi => ?_⟩
    have e1 := ucs_get a.val hi
    rw [h2, ucs_get b.val hi] at e1
    have e2 := Option.some.inj e1
    injection e2 with _ e3
    exact e3.symm
  · rintro ⟨h1, h2⟩
    unfold acL
    rw [h1, ucs_congr h2]
theorem acmp_zero (a b : Ac) : acmp a b = 0 ↔ acL a = acL b := by
  rw [acL_eq]
  unfold acmp
  by_cases e : cmpI a.set b.set = 0
  · rw [if_neg (by omega), lexK_zero]
    exact ⟨fun h => ⟨(cmpI_zero _ _).1 e, h⟩, fun h => h.2⟩
  · rw [if_pos e]
    exact ⟨fun h => absurd h e, fun h => absurd ((cmpI_zero _ _).2 h.1) e⟩
theorem acmp_le (a b : Ac) : -1 ≤ acmp a b ∧ acmp a b ≤ 1 := by
  have hc : ∀ x y, -1 ≤ cmpI x y ∧ cmpI x y ≤ 1 := fun x y => by unfold cmpI; split <;> (try split) <;> omega
  have hl : ∀ k, -1 ≤ lexK a.val b.val k ∧ lexK a.val b.val k ≤ 1 := fun k => by
    induction k with
    | zero => exact ⟨(by show (-1 : Int) ≤ 0; omega), (by show (0 : Int) ≤ 1; omega)⟩
    | succ k ih => show -1 ≤ (if lexK a.val b.val k ≠ 0 then lexK a.val b.val k else cmpI _ _) ∧ (if lexK a.val b.val k ≠ 0 then lexK a.val b.val k else cmpI _ _) ≤ 1; split; exact ih; exact hc _ _
  unfold acmp
  split
  · exact hc _ _
  · exact hl 9
end Go.Proofs.YtodaanhhnjkncaaDoor
