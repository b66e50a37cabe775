/- The clock as a bag of names and times; carrefourlaw09.head. -/
import Derived.Test.YtaoipmdddagngaaClkF
namespace Go.Proofs.Ytaoipmdddagngaa
open Go.RowKit

/-- The clock's data are in order, and just these are due. -/
def Bag (d : Ck) (S : List (Int × Int)) : Prop := d.Ok ∧ (d.hs.map nt).Perm S
theorem Bag.perm {d : Ck} {S S' : List (Int × Int)} (h : Bag d S) (hp : S.Perm S') : Bag d S' := ⟨h.1, h.2.trans hp⟩
theorem Bag.len {d : Ck} {S : List (Int × Int)} (h : Bag d S) : d.hs.length = S.length := by have := h.2.length_eq; simpa using this
/-- This one comes ahead of that. -/
def ltp (a b : Int × Int) : Prop := a.2 < b.2 ∨ (a.2 = b.2 ∧ a.1 < b.1)
instance (a b : Int × Int) : Decidable (ltp a b) := by unfold ltp; infer_instance
theorem Bag.get {d : Ck} {S : List (Int × Int)} (h : Bag d S) {x t : Int} (hx : (x, t) ∈ S) : ∃ e ∈ d.hs, e.name = x ∧ e.time = t := by
  obtain ⟨e, he, k⟩ := List.mem_map.1 (h.2.symm.subset hx)
  simp only [nt, Prod.mk.injEq] at k
  exact ⟨e, he, k.1, k.2⟩
theorem Bag.mem {d : Ck} {S : List (Int × Int)} (h : Bag d S) {e : En} (he : e ∈ d.hs) : (e.name, e.time) ∈ S := h.2.subset (List.mem_map.2 ⟨e, he, rfl⟩)
theorem Bag.no {d : Ck} {S : List (Int × Int)} (h : Bag d S) {x : Int} (hx : ∀ y ∈ S, y.1 ≠ x) : ∀ e ∈ d.hs, e.name ≠ x := fun _ he => hx _ (h.mem he)
section
variable {p : Nat → Prop} {w0 w : World} {gC : Nat} {now : Int} {R : List Ent} {d : Ck} {S : List (Int × Int)}
theorem New_b (hS : St p w0 w R) : Calls Try.prog 8 #[] w fun e w' => ∃ gC d, e = .returned (.pointer (some ⟨gC, 0, none⟩)) ∧ Bag d [] ∧ St p w0 w' (d.L gC 0 R) :=
  (New_k hS).mono fun _ _ ⟨gC, d, he, h1, h2, h3⟩ => ⟨gC, d, he, ⟨h1, by rw [h2]; exact List.Perm.nil⟩, h3⟩
theorem Set_b (hS : St p w0 w (d.L gC now R)) (hb : Bag d S) (x t : Int) (h0 : now ≤ t) (h1 : t ≤ 1073741824) (hx : ∀ y ∈ S, y.1 ≠ x) (hf : S.length < 256) :
    Calls Try.prog 9 #[.pointer (some ⟨gC, 0, none⟩), .int .i64 x, .int .i64 t] w fun e' w' => ∃ d', e' = .returned (.int .i64 0) ∧ Bag d' (S ++ [(x, t)]) ∧ St p w0 w' (d'.L gC now R) := by
  refine (Set_new hS hb.1 x t h0 h1 (hb.no hx) (by rw [hb.len]; exact hf)).mono ?_
  rintro e' w' ⟨d', g, rfl, hd, hp, hS'⟩
  refine ⟨d', rfl, ⟨hd, (hp.map nt).trans ?_⟩, hS'⟩
  simp only [List.map_append, List.map_cons, List.map_nil]
  exact List.Perm.append_right _ hb.2
theorem Set_bf (hS : St p w0 w (d.L gC now R)) (hb : Bag d S) (x t : Int) (h0 : now ≤ t) (h1 : t ≤ 1073741824) (hx : ∀ y ∈ S, y.1 ≠ x) (hf : 256 ≤ S.length) :
    Calls Try.prog 9 #[.pointer (some ⟨gC, 0, none⟩), .int .i64 x, .int .i64 t] w fun e' w' => e' = .returned (.int .i64 3) ∧ Frm (fun _ => False) w w' :=
  Set_full hS hb.1 x t h0 h1 (hb.no hx) (by rw [hb.len]; exact hf)
theorem Set_bo {A B : List (Int × Int)} {t0 : Int} (hS : St p w0 w (d.L gC now R)) (x t : Int) (hb : Bag d (A ++ ((x, t0) :: B))) (h0 : now ≤ t) (h1 : t ≤ 1073741824) :
    Calls Try.prog 9 #[.pointer (some ⟨gC, 0, none⟩), .int .i64 x, .int .i64 t] w fun e' w' => ∃ d', e' = .returned (.int .i64 0) ∧ Bag d' (A ++ ((x, t) :: B)) ∧ St p w0 w' (d'.L gC now R) := by
  obtain ⟨e, he, k1, k2⟩ := hb.get (x := x) (t := t0) (by simp)
  obtain ⟨A', B', hh⟩ := List.append_of_mem he
  subst k1
  refine (Set_old hS hb.1 hh t h0 h1).mono ?_
  rintro e' w' ⟨d', rfl, hd, hp, hS'⟩
  refine ⟨d', rfl, ⟨hd, (hp.map nt).trans ?_⟩, hS'⟩
  have h2 := hb.2
  rw [hh] at h2
  simp only [List.map_append, List.map_cons] at h2 ⊢
  have e1 : nt e = (e.name, t0) := by simp [nt, k2]
  rw [e1] at h2
  have h3 : (List.map nt A' ++ List.map nt B').Perm (A ++ B) := (List.perm_cons (e.name, t0)).1 (List.perm_middle.symm.trans (h2.trans List.perm_middle))
  exact List.perm_middle.trans ((List.Perm.cons (e.name, t) h3).trans List.perm_middle.symm)
theorem Stop_b {A B : List (Int × Int)} {t : Int} (hS : St p w0 w (d.L gC now R)) (x : Int) (hb : Bag d (A ++ ((x, t) :: B))) :
    Calls Try.prog 13 #[.pointer (some ⟨gC, 0, none⟩), .int .i64 x] w fun e' w' => ∃ d', e' = .returned (.bool true) ∧ Bag d' (A ++ B) ∧ St p w0 w' (d'.L gC now R) := by
  obtain ⟨e, he, k1, k2⟩ := hb.get (x := x) (t := t) (by simp)
  subst k1
  refine (Stop_k hS hb.1 he).mono ?_
  rintro e' w' ⟨d', rfl, hd, hp, hS'⟩
  refine ⟨d', rfl, ⟨hd, ?_⟩, hS'⟩
  have h2 := (hp.map nt).trans hb.2
  simp only [List.map_append, List.map_cons, List.map_nil] at h2
  have e1 : nt e = (e.name, t) := by simp [nt, k2]
  rw [e1] at h2
  exact (List.perm_cons (e.name, t)).1 (((List.perm_append_comm (l₁ := [(e.name, t)])).trans h2).trans List.perm_middle)
theorem Stop_bn (hS : St p w0 w (d.L gC now R)) (hb : Bag d S) (x : Int) (hx : ∀ y ∈ S, y.1 ≠ x) :
    Calls Try.prog 13 #[.pointer (some ⟨gC, 0, none⟩), .int .i64 x] w fun e' w' => e' = .returned (.bool false) ∧ Frm (fun _ => False) w w' := Stop_no hS hb.1 x (hb.no hx)
theorem When_b (hS : St p w0 w (d.L gC now R)) (hb : Bag d S) {x t : Int} (hx : (x, t) ∈ S) :
    Calls Try.prog 14 #[.pointer (some ⟨gC, 0, none⟩), .int .i64 x] w fun e' w' => e' = .returned (.tuple #[.int .i64 t, .bool true]) ∧ Frm (fun _ => False) w w' := by
  obtain ⟨e, he, k1, k2⟩ := hb.get hx
  subst k1 k2
  exact When_k hS hb.1 he
theorem When_bn (hS : St p w0 w (d.L gC now R)) (hb : Bag d S) (x : Int) (hx : ∀ y ∈ S, y.1 ≠ x) :
    Calls Try.prog 14 #[.pointer (some ⟨gC, 0, none⟩), .int .i64 x] w fun e' w' => e' = .returned (.tuple #[.int .i64 0, .bool false]) ∧ Frm (fun _ => False) w w' := When_no hS hb.1 x (hb.no hx)
theorem Now_b (hS : St p w0 w (d.L gC now R)) : Calls Try.prog 11 #[.pointer (some ⟨gC, 0, none⟩)] w fun e w' => e = .returned (.int .i64 now) ∧ Frm (fun _ => False) w w' := Now_k (hS.row (g := gC))
theorem Len_b (hS : St p w0 w (d.L gC now R)) (hb : Bag d S) : Calls Try.prog 12 #[.pointer (some ⟨gC, 0, none⟩)] w fun e w' => e = .returned (.int .i64 S.length) ∧ Frm (fun _ => False) w w' := by
  rw [← hb.len]; exact Len_k (hS.row (g := gC))
/-- The first on the line is one of the bag, and none comes ahead of it. -/
theorem Bag.first (hb : Bag d S) {e : En} {B : List En} (hh : d.hs = e :: B) : (e.name, e.time) ∈ S ∧ ∀ z ∈ S, ¬ ltp z (e.name, e.time) := by
  refine ⟨hb.mem (by rw [hh]; simp), fun z hz hl => ?_⟩
  obtain ⟨a, ha, k1, k2⟩ := hb.get (x := z.1) (t := z.2) hz
  obtain ⟨i, hi, e1⟩ := mem_el ha
  have := heap_min hb.1.heap i hi
  rw [e1, show el d.hs 0 = e by rw [hh]; rfl] at this
  refine this ?_
  unfold lt; unfold ltp at hl
  rw [k1, k2]; exact hl
theorem Next_b {A B : List (Int × Int)} {x t : Int} (hS : St p w0 w (d.L gC now R)) (u : Int) (hb : Bag d (A ++ ((x, t) :: B))) (hm : ∀ z ∈ A ++ B, ltp (x, t) z) (hu : t ≤ till now u) :
    Calls Try.prog 10 #[.pointer (some ⟨gC, 0, none⟩), .int .i64 u] w fun e' w' => ∃ d', e' = .returned (.tuple #[.int .i64 x, .bool true]) ∧ Bag d' (A ++ B) ∧ St p w0 w' (d'.L gC t R) := by
  obtain ⟨e, B', hh⟩ : ∃ e B', d.hs = e :: B' := by
    have := hb.len
    match d.hs, this with
    | [], h => simp at h
    | e :: B', _ => exact ⟨e, B', rfl⟩
  obtain ⟨f1, f2⟩ := hb.first hh
  have he : e.name = x ∧ e.time = t := by
    have h1 := f2 (x, t) (by simp)
    have h2 : (e.name, e.time) = (x, t) ∨ (e.name, e.time) ∈ A ++ B := by
      rcases List.mem_append.1 f1 with h | h
      · exact .inr (List.mem_append_left _ h)
      · rcases List.mem_cons.1 h with h | h
        · exact .inl h
        · exact .inr (List.mem_append_right _ h)
    rcases h2 with h2 | h2
    · simp only [Prod.mk.injEq] at h2; exact h2
    · exact absurd (hm _ h2) h1
  obtain ⟨rfl, rfl⟩ := he
  refine (Next_k hS hb.1 u hh hu).mono ?_
  rintro e' w' ⟨d', rfl, hd, hp, hS'⟩
  refine ⟨d', rfl, ⟨hd, ?_⟩, hS'⟩
  have h2 := (hp.map nt).trans hb.2
  simp only [List.map_append, List.map_cons, List.map_nil] at h2
  exact (List.perm_cons (e.name, e.time)).1 (((List.perm_append_comm (l₁ := [(e.name, e.time)])).trans h2).trans List.perm_middle)
theorem Next_bn (hS : St p w0 w (d.L gC now R)) (u : Int) (hb : Bag d S) (hm : ∀ z ∈ S, till now u < z.2) :
    Calls Try.prog 10 #[.pointer (some ⟨gC, 0, none⟩), .int .i64 u] w fun e' w' => e' = .returned (.tuple #[.int .i64 0, .bool false]) ∧ St p w0 w' (d.L gC (till now u) R) := by
  cases hh : d.hs with
  | nil => exact Next_empty hS u hh
  | cons e B => exact Next_late hS hb.1 u hh (hm _ (hb.first hh).1)
end

/-- What is due in the document's example, behind so many steps; the time. -/
def hdS (i : Nat) : List (Int × Int) := [[(5, 10), (3, 10), (4, 7)], [(5, 10), (3, 10)], [(5, 10)], []].getD i []
def hdN (i : Nat) : Int := [0, 7, 10, 10].getD i 0
def hdW (i : Nat) : Int := [4, 3, 5].getD i 0
theorem Next_hd {p : Nat → Prop} {w0 w : World} {gC : Nat} {R : List Ent} {d : Ck} {i : Nat} (hi : i < 3) (hS : St p w0 w (d.L gC (hdN i) R)) (hb : Bag d (hdS i)) :
    Calls Try.prog 10 #[.pointer (some ⟨gC, 0, none⟩), .int .i64 20] w fun e' w' => ∃ d', e' = .returned (.tuple #[.int .i64 (hdW i), .bool true]) ∧ Bag d' (hdS (i + 1)) ∧ St p w0 w' (d'.L gC (hdN (i + 1)) R) := by
  match i, hi with
  | 0, _ => exact Next_b (A := [(5, 10), (3, 10)]) (B := []) (x := 4) (t := 7) hS 20 hb (by decide) (by decide)
  | 1, _ => exact Next_b (A := [(5, 10)]) (B := []) (x := 3) (t := 10) hS 20 hb (by decide) (by decide)
  | 2, _ => exact Next_b (A := []) (B := []) (x := 5) (t := 10) hS 20 hb (by decide) (by decide)
theorem ckhead_c (w : World) : Calls Try.prog 7 #[] w fun e w' => e = .returned (.bool true) ∧ Frm (fun _ => False) w w' := by
  refine enter (vs := []) Try.func7 rfl Try.ntmps7 rfl (St.start (fun _ => False) w) ?_
  refine WC.seq ?_
  refine WC.region ?_
  refine WL.val (v_assign rfl rfl) (.none rfl) rfl rfl ?_
  refine WL.nil ?_
  refine WE.then_n ?_
  refine WC.seq ?_
  refine WC.region ?_
  refine WL.call rfl rfl ck_8 (.none rfl) rfl rfl ?_
  intro w1 hS
  refine (New_b hS).mono ?_
  rintro e w' ⟨gC, d0, rfl, hb0, hS'⟩
  refine ⟨_, _, rfl, hS', ?_⟩
  refine WL.val (v_assign rfl rfl) (.none rfl) rfl rfl ?_
  refine WL.nil ?_
  refine WE.then_n ?_
  refine WC.seq ?_
  refine WC.seq ?_
  refine WC.region ?_
  refine WL.val (v_move rfl rfl) (.none rfl) rfl rfl ?_
  refine WL.val (v_eql_nil false rfl rfl Try.underlying24 rfl) (.none rfl) rfl rfl ?_
  refine WL.val (v_move rfl rfl) (.none rfl) rfl rfl ?_
  refine WL.val (v_move rfl rfl) (.some rfl rfl rfl) rfl rfl ?_
  refine WL.call rfl rfl ck_9 (.some rfl rfl rfl) rfl rfl ?_
  intro w1 hS
  refine (Set_b hS hb0 5 10 (by decide) (by decide) (by simp) (by simp)).mono ?_
  rintro e w' ⟨d1, rfl, hb1, hS'⟩
  refine ⟨_, _, rfl, hS', ?_⟩
  refine WL.val ((v_neq rfl rfl rfl).f (by omega)) (.some rfl rfl rfl) rfl rfl ?_
  refine WL.val (v_pick_f rfl rfl rfl) (.none rfl) rfl rfl ?_
  refine WL.val (v_move rfl rfl) (.none rfl) rfl rfl ?_
  refine WL.val (v_move rfl rfl) (.some rfl rfl rfl) rfl rfl ?_
  refine WL.call rfl rfl ck_9 (.some rfl rfl rfl) rfl rfl ?_
  intro w1 hS
  refine (Set_b hS hb1 3 10 (by decide) (by decide) (by simp) (by simp)).mono ?_
  rintro e w' ⟨d2, rfl, hb2, hS'⟩
  refine ⟨_, _, rfl, hS', ?_⟩
  refine WL.val ((v_neq rfl rfl rfl).f (by omega)) (.some rfl rfl rfl) rfl rfl ?_
  refine WL.val (v_pick_f rfl rfl rfl) (.none rfl) rfl rfl ?_
  refine WL.val (v_move rfl rfl) (.none rfl) rfl rfl ?_
  refine WL.val (v_move rfl rfl) (.some rfl rfl rfl) rfl rfl ?_
  refine WL.call rfl rfl ck_9 (.some rfl rfl rfl) rfl rfl ?_
  intro w1 hS
  refine (Set_b hS hb2 4 7 (by decide) (by decide) (by simp) (by simp)).mono ?_
  rintro e w' ⟨d3, rfl, hb3, hS'⟩
  refine ⟨_, _, rfl, hS', ?_⟩
  refine WL.val ((v_neq rfl rfl rfl).f (by omega)) (.some rfl rfl rfl) rfl rfl ?_
  refine WL.val (v_pick_f rfl rfl rfl) (.none rfl) rfl rfl ?_
  refine WL.nil ?_
  refine WE.then_n ?_
  refine WC.cond_f rfl ?_
  refine WC.skip ?_
  refine WE.then_n ?_
  refine WC.seq ?_
  refine WC.seq ?_
  refine WC.region ?_
  refine WL.buildSlice rfl rfl Try.underlying22 sz_3 zero_3 rfl (by decide) rfl (.none rfl) rfl rfl ?_
  intro g26 hg26
  refine WL.val (v_len_slice rfl rfl Try.underlying22) (.none rfl) rfl rfl ?_
  refine WL.val (v_move rfl rfl) (.none rfl) rfl rfl ?_
  refine WL.nil ?_
  refine WE.then_n ?_
  refine WC.block ?_
  refine WC.loop (fun x : Ck × Nat => [(28, .int .i64 x.2), (27, .int .i64 3), (26, .slice (some ⟨g26, 0, none⟩) 3 3), (1, .pointer (some ⟨gC, 0, none⟩))]) (fun x => .row g26 [.int .i64 4, .int .i64 3, .int .i64 5] :: x.1.L gC (hdN x.2) []) (fun x => Bag x.1 (hdS x.2) ∧ x.2 ≤ 3) (fun x => 3 - x.2) (d3, 0) ⟨hb3, Nat.zero_le 3⟩ (.cons rfl (.cons rfl (.cons rfl (.cons rfl .nil)))) (.refl _) ?_
  rintro ⟨d, i⟩ ⟨hb, hi⟩
  dsimp only at hb hi
  dsimp only
  refine WC.seq ?_
  refine WC.region ?_
  refine WL.test (v_lss rfl rfl rfl) (.none rfl) rfl rfl (fun h29 => ?_) (fun h29 => ?_)
  · -- 29T
    refine WL.nil ?_
    refine WE.then_n ?_
    refine WC.seq ?_
    refine WC.cond_t rfl ?_
    refine WC.skip ?_
    refine WE.then_n ?_
    refine WC.seq ?_
    refine WC.block ?_
    refine WC.seq ?_
    refine WC.region ?_
    refine WL.val (v_indexAddr (lo := i) rfl rfl rfl Try.underlying22 sz_3 (by omega) (by omega)) (.none rfl) rfl rfl ?_
    refine WL.val (v_load1 rfl rfl one_3 (cellAt (v := .int .i64 (hdW i)) (by rw [Nat.zero_add, Nat.mul_one]; match i, (by omega : i < 3) with | 0, _ => rfl | 1, _ => rfl | 2, _ => rfl))) (.none rfl) rfl rfl ?_
    refine WL.val (v_assign rfl rfl) (.none rfl) rfl rfl ?_
    refine WL.nil ?_
    refine WE.then_n ?_
    refine WC.seq ?_
    refine WC.region ?_
    refine WL.val (v_move rfl rfl) (.none rfl) rfl rfl ?_
    refine WL.call rfl rfl ck_10 (.none rfl) rfl rfl ?_
    intro w1 hS
    have hS2 : St (fun _ => False) w w1 (d.L gC (hdN i) [.row g26 [.int .i64 4, .int .i64 3, .int .i64 5]]) := (by
      refine hS.perm ?_
      unfold Ck.L clkL
      have e1 : ∀ (X Y Z : Ent) (E F : List Ent), (E ++ (F ++ (Y :: Z :: [X]))).Perm (X :: (E ++ (F ++ (Y :: [Z])))) := fun X Y Z E F => by
        rw [show E ++ (F ++ (Y :: Z :: [X])) = (E ++ (F ++ (Y :: [Z]))) ++ [X] by simp]
        exact List.perm_append_comm
      exact e1 _ _ _ _ _)
    refine (Next_hd (by omega) hS2 hb).mono ?_
    rintro e w' ⟨d', rfl, hb', hS'⟩
    refine ⟨_, .row g26 [.int .i64 4, .int .i64 3, .int .i64 5] :: d'.L gC (hdN (i + 1)) [], rfl, ?_, ?_⟩
    · refine hS'.perm ?_
      unfold Ck.L clkL
      have e1 : ∀ (X Y Z : Ent) (E F : List Ent), (E ++ (F ++ (Y :: Z :: [X]))).Perm (X :: (E ++ (F ++ (Y :: [Z])))) := fun X Y Z E F => by
        rw [show E ++ (F ++ (Y :: Z :: [X])) = (E ++ (F ++ (Y :: [Z]))) ++ [X] by simp]
        exact List.perm_append_comm
      exact (e1 _ _ _ _ _).symm
    refine WL.val (v_move rfl rfl) (.none rfl) rfl rfl ?_
    refine WL.val (v_extract rfl rfl rfl) (.none rfl) rfl rfl ?_
    refine WL.val (v_extract rfl rfl rfl) (.none rfl) rfl rfl ?_
    refine WL.val (v_assign rfl rfl) (.none rfl) rfl rfl ?_
    refine WL.val (v_assign rfl rfl) (.none rfl) rfl rfl ?_
    refine WL.nil ?_
    refine WE.then_n ?_
    refine WC.seq ?_
    refine WC.region ?_
    refine WL.val (v_move rfl rfl) (.none rfl) rfl rfl ?_
    refine WL.val (v_not rfl rfl rfl) (.none rfl) rfl rfl ?_
    refine WL.val (v_move rfl rfl) (.none rfl) rfl rfl ?_
    refine WL.val (v_move rfl rfl) (.some rfl rfl rfl) rfl rfl ?_
    refine WL.val (v_move rfl rfl) (.some rfl rfl rfl) rfl rfl ?_
    refine WL.val ((v_neq rfl rfl rfl).f (by omega)) (.some rfl rfl rfl) rfl rfl ?_
    refine WL.val (v_pick_f rfl rfl rfl) (.none rfl) rfl rfl ?_
    refine WL.nil ?_
    refine WE.then_n ?_
    refine WC.cond_f rfl ?_
    refine WC.skip ?_
    refine WE.block_n ?_
    refine WE.then_n ?_
    refine WC.region ?_
    refine WL.val (v_add rfl rfl rfl (w_i64 (by omega) (by omega))) (.none rfl) rfl rfl ?_
    refine WL.val (v_move rfl rfl) (.none rfl) rfl rfl ?_
    refine WL.nil ?_
    exact WE.next (d', i + 1) (by dsimp only; omega) ⟨hb', by dsimp only; omega⟩ (.int rfl (by dsimp only; omega) (.cons rfl (.cons rfl (.cons rfl .nil)))) (.refl _)
  · -- 29F
    refine WL.nil ?_
    refine WE.then_n ?_
    refine WC.seq ?_
    refine WC.cond_f rfl ?_
    refine WC.exit ?_
    refine WE.then_exit ?_
    refine WE.then_exit ?_
    refine WE.block_hit ?_
    refine WE.then_n ?_
    refine WC.seq ?_
    refine WC.region ?_
    refine WL.val (v_move rfl rfl) (.none rfl) rfl rfl ?_
    refine WL.call rfl rfl ck_10 (.none rfl) rfl rfl ?_
    intro w1 hS
    obtain rfl : i = 3 := (by omega)
    refine (Next_bn (hS.tail) 20 hb (by intro z hz; exact absurd hz (by simp [hdS]))).mono ?_
    rintro e w' ⟨rfl, hS'⟩
    refine ⟨_, _, rfl, hS', ?_⟩
    refine WL.val (v_move rfl rfl) (.none rfl) rfl rfl ?_
    refine WL.val (v_extract rfl rfl rfl) (.none rfl) rfl rfl ?_
    refine WL.val (v_extract rfl rfl rfl) (.none rfl) rfl rfl ?_
    refine WL.val (v_assign rfl rfl) (.none rfl) rfl rfl ?_
    refine WL.val (v_assign rfl rfl) (.none rfl) rfl rfl ?_
    refine WL.nil ?_
    refine WE.then_n ?_
    refine WC.seq ?_
    refine WC.region ?_
    refine WL.val (v_move rfl rfl) (.none rfl) rfl rfl ?_
    refine WL.val (v_not rfl rfl rfl) (.none rfl) rfl rfl ?_
    refine WL.val (v_move rfl rfl) (.none rfl) rfl rfl ?_
    refine WL.val (v_move rfl rfl) (.some rfl rfl rfl) rfl rfl ?_
    refine WL.call rfl rfl ck_11 (.some rfl rfl rfl) rfl rfl ?_
    intro w hS
    refine Calls.then (Now_b hS) hS ?_
    refine WL.val ((v_eql rfl rfl rfl).t (by decide)) (.some rfl rfl rfl) rfl rfl ?_
    refine WL.val (v_pick_t rfl rfl rfl) (.none rfl) rfl rfl ?_
    refine WL.val (v_move rfl rfl) (.none rfl) rfl rfl ?_
    refine WL.val (v_move rfl rfl) (.some rfl rfl rfl) rfl rfl ?_
    refine WL.call rfl rfl ck_12 (.some rfl rfl rfl) rfl rfl ?_
    intro w hS
    refine Calls.then (Len_b hS hb) hS ?_
    refine WL.val ((v_eql rfl rfl rfl).t (by decide)) (.some rfl rfl rfl) rfl rfl ?_
    refine WL.val (v_pick_t rfl rfl rfl) (.none rfl) rfl rfl ?_
    refine WL.val (v_assign rfl rfl) (.none rfl) rfl rfl ?_
    refine WL.nil ?_
    refine WE.then_n ?_
    refine WC.ret ?_
    refine WE.ret1 (P := Try.prog) (.inl rfl) Try.results7 rfl ?_
    exact fun w' h => ⟨rfl, h.frm⟩
end Go.Proofs.Ytaoipmdddagngaa
