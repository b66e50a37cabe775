/- carrefourlaw09: ClockRuns: its list in memory; the clock's answers by it. -/
import Derived.Test.YtaoipmdddagngaaClkI
namespace Go.Proofs.Ytaoipmdddagngaa
open Go.RowKit

def cells2 (S : List (Int × Int)) : List Value := S.flatMap fun z => [.int .i64 z.1, .int .i64 z.2]
def at2 (S : List (Int × Int)) (i : Nat) : Int × Int := S.getD i (0, 0)
theorem at2_get {S : List (Int × Int)} {i : Nat} (h : i < S.length) : S[i]? = some (at2 S i) := by simp [at2, h]
theorem at2_mem {S : List (Int × Int)} {i : Nat} (h : i < S.length) : at2 S i ∈ S := List.mem_of_getElem? (at2_get h)
theorem mem_at2 {S : List (Int × Int)} {z : Int × Int} (h : z ∈ S) : ∃ i, i < S.length ∧ at2 S i = z := by
  obtain ⟨i, hi⟩ := List.mem_iff_getElem?.1 h
  exact ⟨i, (List.getElem?_eq_some_iff.1 hi).1, by simp [at2, List.getD, hi]⟩
theorem cells2_len : ∀ S : List (Int × Int), (cells2 S).length = S.length * 2
  | [] => rfl
  | z :: S => by have := cells2_len S; simp only [cells2, List.flatMap_cons, List.length_append, List.length_cons, List.length_nil] at this ⊢; omega
theorem cells2_append (S T : List (Int × Int)) : cells2 (S ++ T) = cells2 S ++ cells2 T := by simp [cells2]
theorem cells2_one (S : List (Int × Int)) : (cells2 S).all one = true := List.all_eq_true.2 fun v hv => by
  obtain ⟨z, _, hz⟩ := List.mem_flatMap.1 hv
  rcases List.mem_cons.1 hz with rfl | hz
  · rfl
  · rcases List.mem_cons.1 hz with rfl | hz
    · rfl
    · cases hz
theorem cells2_split {S : List (Int × Int)} {i : Nat} (h : i < S.length) : cells2 S = cells2 (S.take i) ++ (.int .i64 (at2 S i).1 :: .int .i64 (at2 S i).2 :: cells2 (S.drop (i + 1))) := by
  have e := List.drop_eq_getElem_cons h
  have h1 : S[i] = at2 S i := by simp [at2, h]
  conv => lhs; rw [← List.take_append_drop i S, cells2_append, e, h1]
  simp [cells2]
theorem cells2_get {S : List (Int × Int)} {i : Nat} (h : i < S.length) (r : List Value) : (cells2 S ++ r)[i * 2]? = some (.int .i64 (at2 S i).1) ∧ (cells2 S ++ r)[i * 2 + 1]? = some (.int .i64 (at2 S i).2) := by
  have hl : (cells2 (S.take i)).length = i * 2 := by rw [cells2_len, List.length_take]; omega
  rw [cells2_split h, List.append_assoc]
  constructor
  · rw [List.getElem?_append_right (by omega), hl, Nat.sub_self]; rfl
  · rw [List.getElem?_append_right (by omega), hl, show i * 2 + 1 - i * 2 = 1 by omega]; rfl
theorem cells2_set {S : List (Int × Int)} {i : Nat} (h : i < S.length) (r : List Value) (t : Int) : (cells2 S ++ r).set (i * 2 + 1) (.int .i64 t) = cells2 (S.take i ++ (((at2 S i).1, t) :: S.drop (i + 1))) ++ r := by
  have hl : (cells2 (S.take i)).length = i * 2 := by rw [cells2_len, List.length_take]; omega
  rw [cells2_split h, List.append_assoc, List.set_append_right _ _ (by omega), hl, show i * 2 + 1 - i * 2 = 1 by omega, cells2_append]
  simp [cells2]
theorem Vec.cells2 {ad : Option Addr} {S : List (Int × Int)} {c : Nat} {E : List Ent} (h : Vec 2 ad S.length c (cells2 S) E) (hk : 0 < S.length) : ∃ g r, ad = some ⟨g, 0, none⟩ ∧ E = [.row g (Ytaoipmdddagngaa.cells2 S ++ r)] ∧ S.length * 2 + r.length = c * 2 ∧ S.length ≤ c := by
  rcases h with ⟨_, h0, _⟩ | ⟨g, cs, rfl, rfl, h1, h2, h3⟩
  · omega
  · refine ⟨g, cs.drop (S.length * 2), rfl, ?_, by rw [List.length_drop]; omega, h3⟩
    have : cs = Ytaoipmdddagngaa.cells2 S ++ cs.drop (S.length * 2) := by rw [← h1, List.take_append_drop]
    rw [← this]
theorem vec2 {S : List (Int × Int)} {g c : Nat} {r : List Value} (h : S.length * 2 + r.length = c * 2) : Vec 2 (some ⟨g, 0, none⟩) S.length c (cells2 S) [.row g (cells2 S ++ r)] :=
  Vec.row (by rw [List.take_left' (cells2_len S)]) (by rw [List.length_append, cells2_len]; exact h) (by omega)
theorem split_at2 {S : List (Int × Int)} {i : Nat} (h : i < S.length) : S = S.take i ++ (at2 S i :: S.drop (i + 1)) := by
  have e := List.drop_eq_getElem_cons h
  have h1 : S[i] = at2 S i := by simp [at2, h]
  rw [← h1, ← e, List.take_append_drop]

/-- k is where the name x is, or -1. -/
def KInv (S : List (Int × Int)) (x : Int) (j : Nat) (k : Int) : Prop := (k = -1 ∧ ∀ t, t < j → (at2 S t).1 ≠ x) ∨ (0 ≤ k ∧ k.toNat < j ∧ (at2 S k.toNat).1 = x)
theorem KInv.no {S : List (Int × Int)} {x k : Int} (h : KInv S x S.length k) (hk : ¬ 0 ≤ k) : ∀ y ∈ S, y.1 ≠ x := fun y hy => by
  rcases h with ⟨_, h⟩ | ⟨h, _⟩
  · obtain ⟨i, hi, rfl⟩ := mem_at2 hy; exact h i hi
  · exact absurd h hk
theorem KInv.yes {S : List (Int × Int)} {x k : Int} (h : KInv S x S.length k) (hk : 0 ≤ k) : k.toNat < S.length ∧ (at2 S k.toNat).1 = x := by
  rcases h with ⟨h, _⟩ | ⟨_, h1, h2⟩
  · omega
  · exact ⟨h1, h2⟩
/-- f is where the first is that is due till u, or -1. -/
def FInv (S : List (Int × Int)) (u : Int) (j : Nat) (f : Int) : Prop := (f = -1 ∧ ∀ t, t < j → u < (at2 S t).2) ∨ (0 ≤ f ∧ f.toNat < j ∧ (at2 S f.toNat).2 ≤ u ∧ ∀ t, t < j → ¬ ltp (at2 S t) (at2 S f.toNat))
theorem ltp_trans {a b c : Int × Int} (h1 : ¬ ltp a b) (h2 : ltp c b) : ¬ ltp a c := by unfold ltp at *; omega
theorem ltp_self (a : Int × Int) : ¬ ltp a a := by unfold ltp; omega
theorem FInv.take {S : List (Int × Int)} {u : Int} {j : Nat} {f : Int} (h : FInv S u j f) (h1 : (at2 S j).2 ≤ u) (h2 : f < 0 ∨ ltp (at2 S j) (at2 S f.toNat)) : FInv S u (j + 1) j := by
  right
  refine ⟨by omega, by omega, by simpa using h1, fun t ht => ?_⟩
  rw [show ((j : Int)).toNat = j by omega]
  by_cases e : t = j
  · subst e; exact ltp_self _
  · rcases h with ⟨hf, h⟩ | ⟨hf, _, _, h⟩
    · have := h t (by omega)
      unfold ltp; omega
    · exact ltp_trans (h t (by omega)) (h2.resolve_left (by omega))
theorem FInv.keep {S : List (Int × Int)} {u : Int} {j : Nat} {f : Int} (h : FInv S u j f) (hn : u < (at2 S j).2 ∨ (0 ≤ f ∧ ¬ ltp (at2 S j) (at2 S f.toNat))) : FInv S u (j + 1) f := by
  rcases h with ⟨hf, h⟩ | ⟨hf, h1, h2, h⟩
  · refine .inl ⟨hf, fun t ht => ?_⟩
    by_cases e : t = j
    · subst e; exact hn.resolve_right (by omega)
    · exact h t (by omega)
  · refine .inr ⟨hf, by omega, h2, fun t ht => ?_⟩
    by_cases e : t = j
    · subst e
      rcases hn with hn | hn
      · unfold ltp; omega
      · exact hn.2
    · exact h t (by omega)
theorem ck_rots {gC : Nat} {now : Int} {d : Ck} {X : List Ent} : (d.L gC now X).Perm (X ++ d.L gC now []) := by
  have e : d.L gC now X = d.L gC now [] ++ X := by unfold Ck.L clkL; simp
  rw [e]; exact List.perm_append_comm

section
variable {p : Nat → Prop} {w0 w : World} {gC : Nat} {now : Int} {X : List Ent} {d : Ck} {S : List (Int × Int)}
theorem Set_r {x t k : Int} (hS : St p w0 w (X ++ d.L gC now [])) (hb : Bag d S) (hk : KInv S x S.length k) (hl : S.length < 256) :
    Calls Try.prog 9 #[.pointer (some ⟨gC, 0, none⟩), .int .i64 x, .int .i64 t] w fun e w' => ∃ r d' S', e = .returned (.int .i64 r) ∧ Bag d' S' ∧
      ((t < now ∨ 1073741824 < t) → r = 1 ∧ S' = S) ∧ (¬ (t < now ∨ 1073741824 < t) → r = 0 ∧ (0 ≤ k → S' = S.take k.toNat ++ ((x, t) :: S.drop (k.toNat + 1))) ∧ (¬ 0 ≤ k → S' = S ++ [(x, t)])) ∧ St p w0 w' (X ++ d'.L gC now []) := by
  have hS2 := hS.perm ck_rots
  by_cases h : t < now ∨ 1073741824 < t
  · refine (Set_x hS2 x t h).mono ?_
    rintro e w' ⟨rfl, hF⟩
    exact ⟨1, d, S, rfl, hb, fun _ => ⟨rfl, rfl⟩, fun h' => absurd h h', hS.ext hF⟩
  · by_cases h0 : 0 ≤ k
    · obtain ⟨k1, k2⟩ := hk.yes h0
      have e := split_at2 k1
      have e2 : at2 S k.toNat = (x, (at2 S k.toNat).2) := by rw [← k2]
      rw [e2] at e
      refine (Set_bo hS2 x t (hb.perm (by rw [← e])) (by omega) (by omega)).mono ?_
      rintro e' w' ⟨d', rfl, hb', hS'⟩
      exact ⟨0, d', _, rfl, hb', fun h' => absurd h' h, fun _ => ⟨rfl, fun _ => rfl, fun h' => absurd h0 h'⟩, hS'.perm ck_rots.symm⟩
    · refine (Set_b hS2 hb x t (by omega) (by omega) (hk.no h0) hl).mono ?_
      rintro e' w' ⟨d', rfl, hb', hS'⟩
      exact ⟨0, d', _, rfl, hb', fun h' => absurd h' h, fun _ => ⟨rfl, fun h' => absurd h' h0, fun _ => rfl⟩, hS'.perm ck_rots.symm⟩
theorem Stop_r {x k : Int} (hS : St p w0 w (X ++ d.L gC now [])) (hb : Bag d S) (hk : KInv S x S.length k) :
    Calls Try.prog 13 #[.pointer (some ⟨gC, 0, none⟩), .int .i64 x] w fun e w' => ∃ d' S', e = .returned (.bool (decide (0 ≤ k))) ∧ Bag d' S' ∧ (0 ≤ k → S' = S.take k.toNat ++ S.drop (k.toNat + 1)) ∧ (¬ 0 ≤ k → S' = S) ∧ St p w0 w' (X ++ d'.L gC now []) := by
  have hS2 := hS.perm ck_rots
  by_cases h0 : 0 ≤ k
  · obtain ⟨k1, k2⟩ := hk.yes h0
    have e := split_at2 k1
    have e2 : at2 S k.toNat = (x, (at2 S k.toNat).2) := by rw [← k2]
    rw [e2] at e
    refine (Stop_b hS2 x (hb.perm (by rw [← e]))).mono ?_
    rintro e' w' ⟨d', rfl, hb', hS'⟩
    exact ⟨d', _, by rw [decide_eq_true h0], hb', fun _ => rfl, fun h' => absurd h0 h', hS'.perm ck_rots.symm⟩
  · refine (Stop_bn hS2 hb x (hk.no h0)).mono ?_
    rintro e' w' ⟨rfl, hF⟩
    exact ⟨d, S, by rw [decide_eq_false h0], hb, fun h' => absurd h' h0, fun _ => rfl, hS.ext hF⟩
theorem When_r {x k : Int} (hS : St p w0 w (X ++ d.L gC now [])) (hb : Bag d S) (hk : KInv S x S.length k) :
    Calls Try.prog 14 #[.pointer (some ⟨gC, 0, none⟩), .int .i64 x] w fun e w' => ∃ b t, e = .returned (.tuple #[.int .i64 t, .bool b]) ∧ (b = true → 0 ≤ k ∧ t = (at2 S k.toNat).2) ∧ (b = false → ¬ 0 ≤ k ∧ t = 0) ∧ Frm (fun _ => False) w w' := by
  have hS2 := hS.perm ck_rots
  by_cases h0 : 0 ≤ k
  · obtain ⟨k1, k2⟩ := hk.yes h0
    refine (When_b hS2 hb (x := x) (t := (at2 S k.toNat).2) (by rw [← k2]; exact at2_mem k1)).mono ?_
    rintro e' w' ⟨rfl, hF⟩
    exact ⟨true, _, rfl, fun _ => ⟨h0, rfl⟩, fun h => (by cases h), hF⟩
  · refine (When_bn hS2 hb x (hk.no h0)).mono ?_
    rintro e' w' ⟨rfl, hF⟩
    exact ⟨false, _, rfl, fun h => (by cases h), fun _ => ⟨h0, rfl⟩, hF⟩
theorem Next_r {u f : Int} (hS : St p w0 w (X ++ d.L gC now [])) (hb : Bag d S) (h0 : now ≤ u) (h1 : u ≤ 1073741824) (hf : FInv S u S.length f) :
    Calls Try.prog 10 #[.pointer (some ⟨gC, 0, none⟩), .int .i64 u] w fun e w' => ∃ b x d' S' now', e = .returned (.tuple #[.int .i64 x, .bool b]) ∧ Bag d' S' ∧ (b = true → 0 ≤ f ∧ f.toNat < S.length ∧ x = (at2 S f.toNat).1 ∧ now' = (at2 S f.toNat).2 ∧ (at2 S f.toNat).2 ≤ u ∧ S' = S.take f.toNat ++ S.drop (f.toNat + 1)) ∧ (b = false → ¬ 0 ≤ f ∧ x = 0 ∧ now' = u ∧ S' = S) ∧ St p w0 w' (X ++ d'.L gC now' []) := by
  have hS2 := hS.perm ck_rots
  have hu := till_eq h0 h1
  rcases hf with ⟨f0, f1⟩ | ⟨f0, f1, f2, f3⟩
  · refine (Next_bn hS2 u hb (fun z hz => by obtain ⟨i, hi, rfl⟩ := mem_at2 hz; rw [hu]; exact f1 i hi)).mono ?_
    rintro e' w' ⟨rfl, hS'⟩
    rw [hu] at hS'
    exact ⟨false, 0, d, S, u, rfl, hb, fun h => (by cases h), fun _ => ⟨by omega, rfl, rfl, rfl⟩, hS'.perm ck_rots.symm⟩
  · have e := split_at2 f1
    have hnd := hb.names
    have hb' : Bag d (S.take f.toNat ++ (((at2 S f.toNat).1, (at2 S f.toNat).2) :: S.drop (f.toNat + 1))) := hb.perm (by rw [← e])
    have hmem : ∀ z ∈ S.take f.toNat ++ S.drop (f.toNat + 1), z ∈ S := fun z hz => by
      rcases List.mem_append.1 hz with h | h
      · exact List.mem_of_mem_take h
      · exact List.mem_of_mem_drop h
    have hne : ∀ z ∈ S.take f.toNat ++ S.drop (f.toNat + 1), z.1 ≠ (at2 S f.toNat).1 := fun z hz h => by
      have hp : (S.map (·.1)).Perm ((at2 S f.toNat).1 :: (S.take f.toNat ++ S.drop (f.toNat + 1)).map (·.1)) := by
        conv => lhs; rw [e]
        exact List.perm_middle.map _
      have := hp.nodup_iff.1 hnd
      rw [List.nodup_cons] at this
      exact this.1 (by rw [← h]; exact List.mem_map_of_mem hz)
    refine (Next_b hS2 u hb' (fun z hz => ?_) (by rw [hu]; exact f2)).mono ?_
    · obtain ⟨i, hi, e2⟩ := mem_at2 (hmem z hz)
      have := f3 i hi
      have h2 := hne z hz
      rw [e2] at this
      unfold ltp at this ⊢
      dsimp only at this ⊢; omega
    · rintro e' w' ⟨d', rfl, hb2, hS'⟩
      exact ⟨true, _, d', _, _, rfl, hb2, fun _ => ⟨f0, f1, rfl, rfl, f2, rfl⟩, fun h => (by cases h), hS'.perm ck_rots.symm⟩
end
end Go.Proofs.Ytaoipmdddagngaa
