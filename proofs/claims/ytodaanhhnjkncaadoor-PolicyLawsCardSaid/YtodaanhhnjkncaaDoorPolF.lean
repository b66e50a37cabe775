/- policy: count; what is said of the pieces of the laws of brackets. -/
import Derived.Test.YtodaanhhnjkncaaDoorPolE
import Derived.Test.YtodaanhhnjkncaaDoorFree
namespace Go.Proofs.YtodaanhhnjkncaaDoor
open Go.RowKit

set_option maxHeartbeats 1000000 in
theorem count_c : ∀ (N : Nat) (t : Nd), SizeOf.sizeOf t ≤ N → ∀ (w : World) (most : Int), t.In → t.At w → 0 ≤ most → most ≤ 1000000 →
    Calls Tryd.prog 20 #[ndV t, .int .i64 most] w fun e w' => e = .returned (.int .i64 (countT t most)) ∧ Frm (fun _ => False) w w'
  | 0 => fun t hN => by cases t; simp only [Nd.mk.sizeOf_spec] at hN; omega
  | N + 1 => by
    intro t hN w most hI hA h0 h1
    have hlen := hI.nums.2.2.2.2
    refine enter Tryd.func20 rfl Tryd.ntmps20 rfl (St.start (fun _ => False) w) ?_
    refine WC.seq ?_
    refine WC.region ?_
    refine WL.box rfl rfl rfl (.none rfl) rfl rfl ?_
    intro g2 hg2
    refine WL.val (v_assign rfl rfl) (.none rfl) rfl rfl ?_
    refine WL.nil ?_
    refine WE.then_n ?_
    refine WC.seq ?_
    refine WC.region ?_
    refine WL.val (v_assign rfl rfl) (.none rfl) rfl rfl ?_
    refine WL.nil ?_
    refine WE.then_n ?_
    refine WC.seq ?_
    refine WC.seq ?_
    refine WC.region ?_
    refine WL.val (v_fieldAddr0 rfl rfl fld_45_4) (.none rfl) rfl rfl ?_
    refine WL.val (v_load1 rfl rfl one_43 (cellAt rfl)) (.none rfl) rfl rfl ?_
    refine WL.val (v_len_slice rfl rfl Tryd.underlying43) (.none rfl) rfl rfl ?_
    refine WL.val (v_move rfl rfl) (.none rfl) rfl rfl ?_
    refine WL.nil ?_
    refine WE.then_n ?_
    refine WC.block ?_
    refine WC.loop (fun x : Nat × Int => [(11, .int .i64 x.1), (10, .int .i64 t.kids.length), (9, .slice t.ad t.kids.length t.cap), (5, .int .i64 x.2), (1, .int .i64 most)]) (fun _ => []) (fun x => x.1 ≤ t.kids.length ∧ 1 ≤ x.2 ∧ x.2 ≤ most + 1 ∧ countKs (t.kids.drop x.1) most x.2 = countT t most) (fun x => t.kids.length - x.1) (0, 1) ⟨Nat.zero_le _, by dsimp only; omega, by dsimp only; omega, (countT_eq t most).symm⟩ (.cons rfl (.cons rfl (.cons rfl (.cons rfl (.cons rfl .nil))))) (.cons _ (.refl _)) ?_
    rintro ⟨k, all⟩ ⟨hk, ha0, ha1, hc⟩
    dsimp only at hk ha0 ha1 hc
    dsimp only
    refine WC.seq ?_
    refine WC.region ?_
    refine WL.test (v_lss rfl rfl rfl) (.none rfl) rfl rfl (fun h12 => ?_) (fun h12 => ?_)
    · -- 12T
      refine WL.nil ?_
      refine WE.then_n ?_
      refine WC.seq ?_
      refine WC.cond_t rfl ?_
      refine WC.skip ?_
      refine WE.then_n ?_
      refine WC.seq ?_
      refine WC.block ?_
      refine WC.seq ?_
      refine WC.region ?_
      obtain ⟨u, hu⟩ : ∃ u, t.kids[k]? = some u := ⟨t.kids[k]'(by omega), List.getElem?_eq_getElem _⟩
      obtain ⟨b, o, ea, _⟩ := (hA.kid hu).1
      rw [drop_cons hu, countKs] at hc
      refine WL.val (v_indexAddr (b := b) (off := o) (lo := k) rfl (by show some (Value.slice t.ad _ _) = _; rw [ea]) rfl Tryd.underlying43 sz_45 rfl (by omega)) (.none rfl) rfl rfl ?_
      refine WL.val (v_loadN (cs := ndL u) rfl rfl many_45 rfl (rangeIn (fun h => h) (hA.kidAt hu ea))) (.none rfl) rfl rfl ?_
      refine WL.alloc rfl zero_45 (.none rfl) rfl rfl ?_
      intro g7 hg7
      refine WL.storeW rfl rfl rfl rfl many_45 rfl rfl (.none rfl) rfl ?_
      refine WL.nil ?_
      refine WE.then_n ?_
      refine WC.seq ?_
      refine WC.seq ?_
      refine WC.region ?_
      refine WL.val (v_move rfl rfl) (.none rfl) rfl rfl ?_
      refine WL.val (v_move rfl rfl) (.none rfl) rfl rfl ?_
      refine WL.test (v_gtr rfl rfl rfl) (.none rfl) rfl rfl (fun h17 => ?_) (fun h17 => ?_)
      · -- 17T
        refine WL.nil ?_
        refine WE.then_n ?_
        refine WC.cond_t rfl ?_
        refine WC.seq ?_
        refine WC.region ?_
        refine WL.val (v_move rfl rfl) (.none rfl) rfl rfl ?_
        refine WL.val (v_assign rfl rfl) (.none rfl) rfl rfl ?_
        refine WL.nil ?_
        refine WE.then_n ?_
        refine WC.ret ?_
        refine WE.then_ret ?_
        refine WE.block_ret ?_
        refine WE.then_ret ?_
        refine WE.then_ret ?_
        refine WE.block_ret ?_
        refine WE.then_ret ?_
        refine WE.ret1 (P := Tryd.prog) (.inl rfl) Tryd.results20 rfl ?_
        rw [if_pos (by omega)] at hc
        exact fun w' h => ⟨by rw [← hc], h.frm⟩
      · -- 17F
        refine WL.nil ?_
        refine WE.then_n ?_
        refine WC.cond_f rfl ?_
        refine WC.skip ?_
        refine WE.then_n ?_
        refine WC.region ?_
        have hcl := countT_le u (most - all) (by omega)
        refine WL.val (v_move rfl rfl) (.none rfl) rfl rfl ?_
        refine WL.val (v_loadN rfl rfl many_45 rfl allAt) (.none rfl) rfl rfl ?_
        refine WL.val (v_move rfl rfl) (.none rfl) rfl rfl ?_
        refine WL.val (v_move rfl rfl) (.none rfl) rfl rfl ?_
        refine WL.val (v_sub rfl rfl rfl (w_i64 (by omega) (by omega))) (.none rfl) rfl rfl ?_
        refine WL.call rfl rfl ck_20 (.none rfl) rfl rfl ?_
        intro w hS
        refine Calls.then (count_c N u (Nd.kidN hN hu) w (most - all) (hI.kids.get _ _ _ hu) ((hA.kid hu).2.st (fun _ h => h) hS) (by omega) (by omega)) hS ?_
        refine WL.val (v_add rfl rfl rfl (w_i64 (by omega) (by omega))) (.none rfl) rfl rfl ?_
        refine WL.val (v_assign rfl rfl) (.none rfl) rfl rfl ?_
        refine WL.nil ?_
        refine WE.block_n ?_
        refine WE.then_n ?_
        refine WC.region ?_
        refine WL.val (v_add rfl rfl rfl (w_i64 (by omega) (by omega))) (.none rfl) rfl rfl ?_
        refine WL.val (v_move rfl rfl) (.none rfl) rfl rfl ?_
        refine WL.nil ?_
        rw [if_neg (by omega)] at hc
        exact WE.next (k + 1, all + countT u (most - all)) (by dsimp only; omega) ⟨by dsimp only; omega, by dsimp only; omega, by dsimp only; omega, hc⟩ (.int rfl (by dsimp only; omega) (.cons rfl (.cons rfl (.cons rfl (.cons rfl .nil))))) (.cons _ (.refl _))
    · -- 12F
      refine WL.nil ?_
      refine WE.then_n ?_
      refine WC.seq ?_
      refine WC.cond_f rfl ?_
      refine WC.exit ?_
      refine WE.then_exit ?_
      refine WE.then_exit ?_
      refine WE.block_hit ?_
      refine WE.then_n ?_
      refine WC.seq ?_
      refine WC.region ?_
      refine WL.val (v_move rfl rfl) (.none rfl) rfl rfl ?_
      refine WL.val (v_assign rfl rfl) (.none rfl) rfl rfl ?_
      refine WL.nil ?_
      refine WE.then_n ?_
      refine WC.ret ?_
      refine WE.ret1 (P := Tryd.prog) (.inl rfl) Tryd.results20 rfl ?_
      obtain rfl : k = t.kids.length := (by omega)
      rw [List.drop_length, countKs] at hc
      exact fun w' h => ⟨by rw [← hc], h.frm⟩
/-! ### The pieces -/
/-- A tree that is this relation. -/
structure IsT (R : Ky → Ky → Prop) (t : Nd) (w : World) : Prop where
  isIn : t.In
  at_ : t.At w
  rel : ∀ h g, OutT t h g ↔ R h g
theorem IsT.frm {R : Ky → Ky → Prop} {t : Nd} {w w' : World} (h : IsT R t w) (hF : Frm (fun _ => False) w w') : IsT R t w' := ⟨h.isIn, Frm.at hF h.at_, h.rel⟩
theorem IsT.st {R : Ky → Ky → Prop} {t : Nd} {w w' : World} {L : List Ent} (h : IsT R t w) (hS : St (fun _ => False) w w' L) : IsT R t w' := h.frm hS.frm
def rD : Ky → Ky → Prop := fun _ _ => False
def rI : Ky → Ky → Prop := fun h g => g = h
def rP (R1 R2 : Ky → Ky → Prop) : Ky → Ky → Prop := fun h g => R1 h g ∨ R2 h g
def rS (R1 R2 : Ky → Ky → Prop) : Ky → Ky → Prop := fun h g => ∃ m, R1 h m ∧ R2 m g
theorem isT_drop (w : World) : IsT rD dropN w := ⟨Nd.In_mk (by omega) (by omega) (by omega) (by omega) (by show 0 ≤ _; omega) KidsIn.nil, Nd.At_leaf, fun _ _ => out_drop⟩
theorem isT_id (w : World) : IsT rI idN w := ⟨Nd.In_mk (by omega) (by omega) (by omega) (by omega) (by show 0 ≤ _; omega) KidsIn.nil, Nd.At_leaf, fun _ _ => out_id⟩
theorem isT_par0 (w : World) : IsT rD (.mk 15 0 0 0 none 0 []) w := ⟨Nd.In_mk (by omega) (by omega) (by omega) (by omega) (by show 0 ≤ _; omega) KidsIn.nil, Nd.At_leaf, fun _ _ => by rw [out_par, par0]; rfl⟩
theorem isT_seq0 (w : World) : IsT rI (.mk 16 0 0 0 none 0 []) w := ⟨Nd.In_mk (by omega) (by omega) (by omega) (by omega) (by show 0 ≤ _; omega) KidsIn.nil, Nd.At_leaf, fun _ _ => by rw [out_seq, seq0]; rfl⟩
theorem isT_par {R1 R2 : Ky → Ky → Prop} {t u : Nd} {w : World} {b : Nat} (hb : w.rangeAt b 0 (ndL t ++ ndL u)) (ht : IsT R1 t w) (hu : IsT R2 u w) : IsT (rP R1 R2) (parN b 2 [t, u]) w :=
  ⟨Nd.In_mk (by omega) (by omega) (by omega) (by omega) (by show 2 ≤ _; omega) (.cons ht.isIn (.cons hu.isIn .nil)), Nd.At_two hb ht.at_ hu.at_, fun h g => by rw [out_par, par1, par1, par0, or_false, ht.rel, hu.rel]; rfl⟩
theorem isT_seq {R1 R2 : Ky → Ky → Prop} {t u : Nd} {w : World} {b : Nat} (hb : w.rangeAt b 0 (ndL t ++ ndL u)) (ht : IsT R1 t w) (hu : IsT R2 u w) : IsT (rS R1 R2) (seqN b 2 [t, u]) w :=
  ⟨Nd.In_mk (by omega) (by omega) (by omega) (by omega) (by show 2 ≤ _; omega) (.cons ht.isIn (.cons hu.isIn .nil)), Nd.At_two hb ht.at_ hu.at_, fun h g => by
    rw [out_seq, seq1]
    unfold rS
    refine exists_congr fun m => ?_
    rw [ht.rel, seq1]
    refine and_congr_right fun _ => ?_
    constructor
    · rintro ⟨m2, h2, h3⟩
      rw [seq0] at h3; rw [h3]; exact (hu.rel _ _).1 h2
    · intro h2
      exact ⟨g, (hu.rel _ _).2 h2, seq0.2 rfl⟩⟩
/-- Two trees that are the same relation. -/
structure IsQ (x : Nd × Nd) (w : World) : Prop where
  in1 : x.1.In
  in2 : x.2.In
  at1 : x.1.At w
  at2 : x.2.At w
  rel : ∀ h g, OutT x.1 h g ↔ OutT x.2 h g
theorem IsQ.frm {x : Nd × Nd} {w w' : World} (h : IsQ x w) (hF : Frm (fun _ => False) w w') : IsQ x w' := ⟨h.in1, h.in2, Frm.at hF h.at1, Frm.at hF h.at2, h.rel⟩
theorem IsQ.st {x : Nd × Nd} {w w' : World} {L : List Ent} (h : IsQ x w) (hS : St (fun _ => False) w w' L) : IsQ x w' := h.frm hS.frm
theorem isQ {R1 R2 : Ky → Ky → Prop} {t u : Nd} {w : World} (ht : IsT R1 t w) (hu : IsT R2 u w) (h : ∀ h g, R1 h g ↔ R2 h g) : IsQ (t, u) w := ⟨ht.isIn, hu.isIn, ht.at_, hu.at_, fun x y => (ht.rel x y).trans ((h x y).trans (hu.rel x y).symm)⟩
def pairsL : List (Nd × Nd) → List Value
  | [] => []
  | x :: xs => (ndL x.1 ++ ndL x.2) ++ pairsL xs
theorem pairsL_seg : ∀ (Ps : List (Nd × Nd)) (k : Nat) (x : Nd × Nd), Ps[k]? = some x → ((pairsL Ps).drop (k * 10)).take 10 = ndL x.1 ++ ndL x.2
  | [], _, _, h => by simp at h
  | y :: Ps, 0, x, h => by
    simp only [List.getElem?_cons_zero, Option.some.injEq] at h
    subst h
    show ((ndL y.1 ++ ndL y.2 ++ pairsL Ps).drop (0 * 10)).take 10 = _
    rw [Nat.zero_mul, List.drop_zero, List.take_left' (show (ndL y.1 ++ ndL y.2).length = 10 from rfl)]
  | y :: Ps, k + 1, x, h => by
    rw [List.getElem?_cons_succ] at h
    show ((ndL y.1 ++ ndL y.2 ++ pairsL Ps).drop ((k + 1) * 10)).take 10 = _
    rw [show (k + 1) * 10 = 10 + k * 10 by omega, ← List.drop_drop, List.drop_left' (show (ndL y.1 ++ ndL y.2).length = 10 from rfl)]
    exact pairsL_seg Ps k x h
theorem pairsL_at {w : World} {b : Nat} {Ps : List (Nd × Nd)} {k : Nat} {x : Nd × Nd} (h : w.rangeAt b 0 (pairsL Ps)) (hx : Ps[k]? = some x) : w.rangeAt b (0 + k * 10) (ndL x.1 ++ ndL x.2) := fun j v hj => by
  have hs := pairsL_seg Ps k x hx
  rw [← hs, List.getElem?_take] at hj
  split at hj
  · rw [List.getElem?_drop] at hj
    have := h (k * 10 + j) v hj
    rwa [show 0 + (k * 10 + j) = 0 + k * 10 + j by omega] at this
  · cases hj
def spT (R : Ky → Ky → Prop) : SpT := ⟨fun v w => ∃ t : Nd, v = ndV t ∧ IsT R t w, fun _ _ _ ⟨t, e, h⟩ hF => ⟨t, e, h.frm hF⟩⟩
def spL (R1 R2 : Ky → Ky → Prop) : SpT := ⟨fun v w => ∃ (b : Nat) (t u : Nd), v = .slice (some ⟨b, 0, none⟩) 2 2 ∧ w.rangeAt b 0 (ndL t ++ ndL u) ∧ IsT R1 t w ∧ IsT R2 u w, fun _ _ _ ⟨b, t, u, e, hb, h1, h2⟩ hF => ⟨b, t, u, e, Frm.range hF _ _ _ hb, h1.frm hF, h2.frm hF⟩⟩
def spQ : SpT := ⟨fun v w => ∃ t u : Nd, v = .agg (ndL t ++ ndL u).toArray ∧ IsQ (t, u) w, fun _ _ _ ⟨t, u, e, h⟩ hF => ⟨t, u, e, h.frm hF⟩⟩
def spS : SpT := ⟨fun v w => ∃ (b : Nat) (Ps : List (Nd × Nd)), v = .slice (some ⟨b, 0, none⟩) 11 11 ∧ w.rangeAt b 0 (pairsL Ps) ∧ Ps.length = 11 ∧ ∀ x ∈ Ps, IsQ x w, fun _ _ _ ⟨b, Ps, e, hb, hl, h⟩ hF => ⟨b, Ps, e, Frm.range hF _ _ _ hb, hl, fun x hx => (h x hx).frm hF⟩⟩
section
variable {A B C : Ky → Ky → Prop}
theorem rl0 (h g : Ky) : rP A (rP B C) h g ↔ rP (rP A B) C h g := by unfold rP; exact or_assoc.symm
theorem rl1 (h g : Ky) : rS A (rS B C) h g ↔ rS (rS A B) C h g := by
  unfold rS
  constructor
  · rintro ⟨m, h1, m2, h2, h3⟩; exact ⟨m2, ⟨m, h1, h2⟩, h3⟩
  · rintro ⟨m, ⟨m2, h1, h2⟩, h3⟩; exact ⟨m2, h1, m, h2, h3⟩
theorem rl2 (h g : Ky) : rP A rD h g ↔ A h g := by unfold rP rD; simp
theorem rl3 (h g : Ky) : rP A B h g ↔ rP B A h g := by unfold rP; exact or_comm
theorem rl4 (h g : Ky) : rP A A h g ↔ A h g := by unfold rP; exact or_self_iff
theorem rl5 (h g : Ky) : rS A rI h g ↔ A h g := by
  unfold rS rI
  exact ⟨fun ⟨m, h1, h2⟩ => by rw [h2]; exact h1, fun h1 => ⟨g, h1, rfl⟩⟩
theorem rl6 (h g : Ky) : rS rI A h g ↔ A h g := by
  unfold rS rI
  exact ⟨fun ⟨m, h1, h2⟩ => by rw [h1] at h2; exact h2, fun h1 => ⟨h, rfl, h1⟩⟩
theorem rl7 (h g : Ky) : rS A rD h g ↔ rS rD A h g := by
  unfold rS rD
  exact ⟨fun ⟨_, _, h⟩ => h.elim, fun ⟨_, h, _⟩ => h.elim⟩
theorem rl8 (h g : Ky) : rS (rP A B) C h g ↔ rP (rS A C) (rS B C) h g := by
  unfold rS rP
  constructor
  · rintro ⟨m, h1 | h1, r⟩
    · exact .inl ⟨m, h1, r⟩
    · exact .inr ⟨m, h1, r⟩
  · rintro (⟨m, h1, r⟩ | ⟨m, h1, r⟩)
    · exact ⟨m, .inl h1, r⟩
    · exact ⟨m, .inr h1, r⟩
theorem rl9 (h g : Ky) : rI h g ↔ rI h g := Iff.rfl
theorem rl10 (h g : Ky) : rD h g ↔ rD h g := Iff.rfl
end
end Go.Proofs.YtodaanhhnjkncaaDoor
