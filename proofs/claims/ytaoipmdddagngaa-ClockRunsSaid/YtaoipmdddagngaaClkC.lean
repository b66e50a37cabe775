/- container/heap over the clock's line: down, up. -/
import Derived.Test.YtaoipmdddagngaaClkB
namespace Go.Proofs.Ytaoipmdddagngaa
open Go.RowKit

theorem Len_c (w : World) (a : Option Addr) (n c : Nat) :
    Calls Try.prog 37 #[.slice a n c] w fun e w' => e = .returned (.int .i64 n) ∧ Frm (fun _ => False) w w' := by
  refine enter Try.func37 rfl Try.ntmps37 rfl (St.start (fun _ => False) w) ?_
  refine WC.seq ?_
  refine WC.region ?_
  refine WL.val (v_assign rfl rfl) (.none rfl) rfl rfl ?_
  refine WL.nil ?_
  refine WE.then_n ?_
  refine WC.seq ?_
  refine WC.region ?_
  refine WL.val (v_move rfl rfl) (.none rfl) rfl rfl ?_
  refine WL.val (v_len_slice rfl rfl Try.underlying44) (.none rfl) rfl rfl ?_
  refine WL.val (v_assign rfl rfl) (.none rfl) rfl rfl ?_
  refine WL.nil ?_
  refine WE.then_n ?_
  refine WC.ret ?_
  refine WE.ret1 (P := Try.prog) (.inl rfl) Try.results37 rfl ?_
  exact fun w' h => ⟨rfl, h.frm⟩
/-- The first m are a heap. -/
def HeapB (m : Nat) (hs : List En) : Prop := ∀ k, 0 < k → k < m → ¬ lt (el hs k) (el hs ((k - 1) / 2))
/-- .. but that the one at j may be too small for its place. -/
structure UPre (m : Nat) (hs : List En) (j : Nat) : Prop where
  ok : ∀ k, 0 < k → k < m → k ≠ j → ¬ lt (el hs k) (el hs ((k - 1) / 2))
  kid : ∀ k, 0 < k → k < m → (k - 1) / 2 = j → 0 < j → ¬ lt (el hs k) (el hs ((j - 1) / 2))
/-- .. or too great. -/
structure DPre (m : Nat) (hs : List En) (i : Nat) : Prop where
  ok : ∀ k, 0 < k → k < m → (k - 1) / 2 ≠ i → k ≠ i → ¬ lt (el hs k) (el hs ((k - 1) / 2))
  kid : ∀ k, 0 < k → k < m → (k - 1) / 2 = i → 0 < i → ¬ lt (el hs k) (el hs ((i - 1) / 2))
structure DInv (m i0 : Nat) (hs0 hs : List En) (i : Nat) : Prop where
  le : i0 ≤ i
  ok : ∀ k, 0 < k → k < m → (k - 1) / 2 ≠ i → (k ≠ i0 ∨ i0 < i) → ¬ lt (el hs k) (el hs ((k - 1) / 2))
  kid : ∀ k, 0 < k → k < m → (k - 1) / 2 = i → 0 < i → ¬ lt (el hs k) (el hs ((i - 1) / 2))
  same : i = i0 → hs = hs0
  perm : hs.Perm hs0
  rest : ∀ k, m ≤ k → el hs k = el hs0 k
theorem DInv.start {m i : Nat} {hs : List En} (h : DPre m hs i) : DInv m i hs hs i :=
  ⟨Nat.le_refl _, fun k h0 h1 h2 h3 => h.ok k h0 h1 h2 (by omega), h.kid, fun _ => rfl, List.Perm.refl _, fun _ _ => rfl⟩
theorem DInv.step {m i0 : Nat} {hs0 hs : List En} {i j : Nat} (h : DInv m i0 hs0 hs i) (hj : j = 2 * i + 1 ∨ j = 2 * i + 2) (hjm : j < m) (hm : m ≤ hs.length) (hlt : lt (el hs j) (el hs i))
    (hbest : ∀ k, k < m → (k = 2 * i + 1 ∨ k = 2 * i + 2) → ¬ lt (el hs k) (el hs j)) : DInv m i0 hs0 (swp hs i j) j := by
  have hle := h.le
  have hi' : i < hs.length := by omega
  have hj' : j < hs.length := by omega
  have hij : i < j := by omega
  have hpj : (j - 1) / 2 = i := by omega
  have ei : el (swp hs i j) i = el hs j := by rw [el_swp hi' hj', if_neg (by omega), if_pos rfl]
  have ej : el (swp hs i j) j = el hs i := by rw [el_swp hi' hj', if_pos rfl]
  have eo : ∀ k, k ≠ i → k ≠ j → el (swp hs i j) k = el hs k := fun k h1 h2 => by rw [el_swp hi' hj', if_neg h2, if_neg h1]
  refine ⟨by omega, ?_, ?_, fun e => by omega, (swp_perm hij hj').trans h.perm, fun k hk => by rw [eo k (by omega) (by omega)]; exact h.rest k hk⟩
  · intro k h0 h1 h2 h3
    by_cases c1 : k = j
    · subst c1; rw [ej, hpj, ei]; exact lt_asymm hlt
    · by_cases c2 : (k - 1) / 2 = i
      · rw [eo k (by omega) c1, c2, ei]
        exact hbest k h1 (by omega)
      · by_cases c3 : k = i
        · subst c3
          rw [ei, eo _ (by omega) (by omega)]
          exact h.kid j (by omega) hjm hpj h0
        · rw [eo k c3 c1, eo _ c2 h2]
          exact h.ok k h0 h1 c2 (by omega)
  · intro k h0 h1 h2 h3
    rw [hpj, ei, eo k (by omega) (by omega), ← h2]
    exact h.ok k h0 h1 (by omega) (by omega)
theorem DInv.fin {m i0 : Nat} {hs0 hs : List En} {i : Nat} (h : DInv m i0 hs0 hs i) (hk : ∀ k, k < m → (k = 2 * i + 1 ∨ k = 2 * i + 2) → ¬ lt (el hs k) (el hs i)) : (i0 < i → HeapB m hs) ∧ (¬ i0 < i → hs = hs0 ∧ UPre m hs0 i0) := by
  have hle := h.le
  constructor
  · intro hlt k h0 h1
    by_cases c : (k - 1) / 2 = i
    · rw [c]; exact hk k h1 (by omega)
    · exact h.ok k h0 h1 c (by omega)
  · intro hn
    obtain rfl : i = i0 := by omega
    have e := h.same rfl
    subst e
    refine ⟨rfl, fun k h0 h1 h2 => ?_, h.kid⟩
    by_cases c : (k - 1) / 2 = i
    · rw [c]; exact hk k h1 (by omega)
    · exact h.ok k h0 h1 c (.inl h2)
theorem UPre.step {m : Nat} {hs : List En} {j : Nat} (h : UPre m hs j) (h0 : 0 < j) (hjm : j < m) (hm : m ≤ hs.length) (hlt : lt (el hs j) (el hs ((j - 1) / 2))) : UPre m (swp hs ((j - 1) / 2) j) ((j - 1) / 2) := by
  generalize hi : (j - 1) / 2 = i at *
  have hij : i < j := by omega
  have hi' : i < hs.length := by omega
  have hj' : j < hs.length := by omega
  have ei : el (swp hs i j) i = el hs j := by rw [el_swp hi' hj', if_neg (by omega), if_pos rfl]
  have ej : el (swp hs i j) j = el hs i := by rw [el_swp hi' hj', if_pos rfl]
  have eo : ∀ k, k ≠ i → k ≠ j → el (swp hs i j) k = el hs k := fun k h1 h2 => by rw [el_swp hi' hj', if_neg h2, if_neg h1]
  constructor
  · intro k k0 k1 k2
    by_cases c1 : k = j
    · subst c1; rw [ej, hi, ei]; exact lt_asymm hlt
    · by_cases c2 : (k - 1) / 2 = j
      · rw [eo k k2 c1, c2, ej]
        have := h.kid k k0 k1 c2 h0
        rwa [hi] at this
      · by_cases c3 : (k - 1) / 2 = i
        · rw [eo k k2 c1, c3, ei]
          have := h.ok k k0 k1 c1
          rw [c3] at this
          exact nlt_of this hlt
        · rw [eo k k2 c1, eo _ c3 c2]
          exact h.ok k k0 k1 c1
  · intro k k0 k1 k2 k3
    rw [eo ((i - 1) / 2) (by omega) (by omega)]
    have hp := h.ok i k3 (by omega) (by omega)
    by_cases c1 : k = j
    · subst c1; rw [ej]; exact hp
    · rw [eo k (by omega) c1]
      have := h.ok k k0 k1 c1
      rw [k2] at this
      exact nlt_trans this hp
theorem UPre.fin {m : Nat} {hs : List En} {j : Nat} (h : UPre m hs j) (hj : j = 0 ∨ ¬ lt (el hs j) (el hs ((j - 1) / 2))) : HeapB m hs := fun k h0 h1 => by
  by_cases c : k = j
  · subst c; exact hj.resolve_left (by omega)
  · exact h.ok k h0 h1 c

section
variable {p : Nat → Prop} {w0 w : World} {gC gL : Nat} {now : Int} {rm : Option Nat} {c : Nat} {hs : List En} {r : List Value} {R : List Ent}
instance : At (hsL gC gL now rm c hs r R) gC [.int .i64 now, .slice (some ⟨gL, 0, none⟩) hs.length c, .map rm] := ⟨List.mem_cons_of_mem _ (List.mem_append_right _ (List.mem_cons_self ..))⟩
def lnI (gC : Nat) : Value := .iface lnT (.pointer (some ⟨gC, 1, none⟩))
set_option maxHeartbeats 1000000 in
theorem down_c {i0 m : Nat} (hS : St p w0 w (hsL gC gL now rm c hs r R)) (hm : m ≤ hs.length) (hi0 : i0 ≤ 300) (hl : hs.length ≤ 300) (hD : DPre m hs i0) :
    Calls Try.prog 19 #[lnI gC, .int .i64 i0, .int .i64 m] w fun e w' => ∃ hs' b, e = .returned (.bool b) ∧ hs'.length = hs.length ∧ hs'.Perm hs ∧ (∀ k, m ≤ k → el hs' k = el hs k) ∧ (b = true → HeapB m hs') ∧ (b = false → hs' = hs ∧ UPre m hs i0) ∧ St p w0 w' (hsL gC gL now rm c hs' r R) := by
  refine enter Try.func19 rfl Try.ntmps19 rfl hS ?_
  refine WC.seq ?_
  refine WC.region ?_
  refine WL.val (v_assign rfl rfl) (.none rfl) rfl rfl ?_
  refine WL.nil ?_
  refine WE.then_n ?_
  refine WC.seq ?_
  refine WC.region ?_
  refine WL.val (v_move rfl rfl) (.none rfl) rfl rfl ?_
  refine WL.val (v_assign rfl rfl) (.none rfl) rfl rfl ?_
  refine WL.nil ?_
  refine WE.then_n ?_
  refine WC.seq ?_
  refine WC.block ?_
  refine WC.loop (fun x : List En × Nat => [(0, lnI gC), (1, .int .i64 i0), (2, .int .i64 m), (7, .int .i64 x.2)]) (fun x => hsL gC gL now rm c x.1 r R) (fun x => DInv m i0 hs x.1 x.2 ∧ x.1.length = hs.length ∧ x.2 ≤ 300) (fun x => 300 - x.2) (hs, i0) ⟨DInv.start hD, rfl, hi0⟩ (.cons rfl (.cons rfl (.cons rfl (.cons rfl .nil)))) (.refl _) ?_
  rintro ⟨h2, i⟩ ⟨hI, hlen, hi⟩
  dsimp only at hI hlen hi
  dsimp only
  refine WC.block ?_
  refine WC.seq ?_
  refine WC.region ?_
  refine WL.val (v_move rfl rfl) (.none rfl) rfl rfl ?_
  refine WL.val (v_mul rfl rfl rfl (w_i64 (by omega) (by omega))) (.none rfl) rfl rfl ?_
  refine WL.val (v_add rfl rfl rfl (w_i64 (by omega) (by omega))) (.none rfl) rfl rfl ?_
  refine WL.val (v_assign rfl rfl) (.none rfl) rfl rfl ?_
  refine WL.nil ?_
  refine WE.then_n ?_
  refine WC.seq ?_
  refine WC.seq ?_
  refine WC.region ?_
  refine WL.val (v_move rfl rfl) (.none rfl) rfl rfl ?_
  refine WL.val (v_move rfl rfl) (.none rfl) rfl rfl ?_
  refine WL.test (v_geq rfl rfl rfl) (.none rfl) rfl rfl (fun h17 => ?_) (fun h17 => ?_)
  · -- 17T
    refine WL.val (v_move rfl rfl) (.none rfl) rfl rfl ?_
    refine WL.skip rfl rfl rfl rfl rfl rfl ?_
    refine WL.skip rfl rfl rfl rfl rfl rfl ?_
    refine WL.val (v_pick_t rfl rfl rfl) (.none rfl) rfl rfl ?_
    refine WL.nil ?_
    refine WE.then_n ?_
    refine WC.cond_t rfl ?_
    refine WC.exit ?_
    refine WE.then_exit ?_
    refine WE.block_miss rfl ?_
    refine WE.then_exit ?_
    refine WE.block_hit ?_
    refine WE.then_n ?_
    refine WC.seq ?_
    refine WC.region ?_
    refine WL.val (v_move rfl rfl) (.none rfl) rfl rfl ?_
    refine WL.val (v_move rfl rfl) (.none rfl) rfl rfl ?_
    refine WL.val (v_gtr rfl rfl rfl) (.none rfl) rfl rfl ?_
    refine WL.val (v_assign rfl rfl) (.none rfl) rfl rfl ?_
    refine WL.nil ?_
    refine WE.then_n ?_
    refine WC.ret ?_
    refine WE.ret1 (P := Try.prog) (.inl rfl) Try.results19 rfl ?_
    have hf := hI.fin (fun k hk hk2 => absurd hk (by omega))
    refine fun w' h => ⟨h2, _, rfl, hlen, hI.perm, hI.rest, fun hb => hf.1 (by simpa using hb), fun hb => hf.2 (by simpa using hb), h⟩
  · -- 17F
    refine WL.val (v_move rfl rfl) (.none rfl) rfl rfl ?_
    refine WL.val (v_move rfl rfl) (.some rfl rfl rfl) rfl rfl ?_
    refine WL.val ((v_lss rfl rfl rfl).f (by omega)) (.some rfl rfl rfl) rfl rfl ?_
    refine WL.val (v_pick_f rfl rfl rfl) (.none rfl) rfl rfl ?_
    refine WL.nil ?_
    refine WE.then_n ?_
    refine WC.cond_f rfl ?_
    refine WC.skip ?_
    refine WE.then_n ?_
    refine WC.seq ?_
    refine WC.region ?_
    refine WL.val (v_move rfl rfl) (.none rfl) rfl rfl ?_
    refine WL.val (v_assign rfl rfl) (.none rfl) rfl rfl ?_
    refine WL.nil ?_
    refine WE.then_n ?_
    refine WC.seq ?_
    refine WC.seq ?_
    refine WC.region ?_
    refine WL.val (v_move rfl rfl) (.none rfl) rfl rfl ?_
    refine WL.val (v_add rfl rfl rfl (w_i64 (by omega) (by omega))) (.none rfl) rfl rfl ?_
    refine WL.val (v_assign rfl rfl) (.none rfl) rfl rfl ?_
    refine WL.nil ?_
    refine WE.then_n ?_
    refine WC.seq ?_
    refine WC.region ?_
    refine WL.val (v_move rfl rfl) (.none rfl) rfl rfl ?_
    refine WL.val (v_move rfl rfl) (.none rfl) rfl rfl ?_
    refine WL.test (v_lss rfl rfl rfl) (.none rfl) rfl rfl (fun h27 => ?_) (fun h27 => ?_)
    · -- 27T
      refine WL.val (v_move rfl rfl) (.none rfl) rfl rfl ?_
      refine WL.val (v_move rfl rfl) (.some rfl rfl rfl) rfl rfl ?_
      refine WL.val (v_move rfl rfl) (.some rfl rfl rfl) rfl rfl ?_
      refine WL.val (v_move rfl rfl) (.some rfl rfl rfl) rfl rfl ?_
      refine WL.invoke rfl rfl rfl (m_Less (g := gC) rfl) ck_38 (.some rfl rfl rfl) rfl rfl ?_
      intro w hS
      refine Calls.then (Less_h (i := 2 * i + 1 + 1) (j := 2 * i + 1) (by omega) (by omega) hS) hS ?_
      refine WL.val (v_pick_t rfl rfl rfl) (.none rfl) rfl rfl ?_
      refine WL.nil ?_
      refine WE.then_n ?_
      refine WC.cond_d rfl (fun h33 => ?_) (fun h33 => ?_)
      · -- 33T
        refine WC.region ?_
        refine WL.val (v_move rfl rfl) (.none rfl) rfl rfl ?_
        refine WL.val (v_assign rfl rfl) (.none rfl) rfl rfl ?_
        refine WL.nil ?_
        refine WE.then_n ?_
        refine WC.seq ?_
        refine WC.seq ?_
        refine WC.region ?_
        refine WL.val (v_move rfl rfl) (.none rfl) rfl rfl ?_
        refine WL.val (v_move rfl rfl) (.none rfl) rfl rfl ?_
        refine WL.val (v_move rfl rfl) (.none rfl) rfl rfl ?_
        refine WL.invoke rfl rfl rfl (m_Less (g := gC) rfl) ck_38 (.none rfl) rfl rfl ?_
        intro w hS
        refine Calls.then (Less_h (i := 2 * i + 1 + 1) (j := i) (by omega) (by omega) hS) hS ?_
        refine WL.val (v_notD rfl rfl) (.none rfl) rfl rfl ?_
        refine WL.nil ?_
        refine WE.then_n ?_
        refine WC.cond_d rfl (fun h39 => ?_) (fun h39 => ?_)
        · -- 39T
          refine WC.exit ?_
          refine WE.then_exit ?_
          refine WE.block_miss rfl ?_
          refine WE.then_exit ?_
          refine WE.block_hit ?_
          refine WE.then_n ?_
          refine WC.seq ?_
          refine WC.region ?_
          refine WL.val (v_move rfl rfl) (.none rfl) rfl rfl ?_
          refine WL.val (v_move rfl rfl) (.none rfl) rfl rfl ?_
          refine WL.val (v_gtr rfl rfl rfl) (.none rfl) rfl rfl ?_
          refine WL.val (v_assign rfl rfl) (.none rfl) rfl rfl ?_
          refine WL.nil ?_
          refine WE.then_n ?_
          refine WC.ret ?_
          refine WE.ret1 (P := Try.prog) (.inl rfl) Try.results19 rfl ?_
          have hf := hI.fin (fun k hk hk2 => by rcases hk2 with rfl | rfl; exact nlt_trans (lt_asymm h33) h39; exact h39)
          refine fun w' h => ⟨h2, _, rfl, hlen, hI.perm, hI.rest, fun hb => hf.1 (by simpa using hb), fun hb => hf.2 (by simpa using hb), h⟩
        · -- 39F
          refine WC.skip ?_
          refine WE.then_n ?_
          refine WC.seq ?_
          refine WC.region ?_
          refine WL.val (v_move rfl rfl) (.none rfl) rfl rfl ?_
          refine WL.val (v_move rfl rfl) (.none rfl) rfl rfl ?_
          refine WL.val (v_move rfl rfl) (.none rfl) rfl rfl ?_
          refine WL.invoke rfl rfl rfl (m_Swap (g := gC) rfl) ck_39 (.none rfl) rfl rfl ?_
          intro w hS
          refine Calls.thenS (Swap_h (i := i) (j := 2 * i + 1 + 1) (by omega) (by omega) hS) ?_
          refine WL.nil ?_
          refine WE.then_n ?_
          refine WC.region ?_
          refine WL.val (v_move rfl rfl) (.none rfl) rfl rfl ?_
          refine WL.val (v_assign rfl rfl) (.none rfl) rfl rfl ?_
          refine WL.nil ?_
          refine WE.block_n ?_
          exact WE.next (swp h2 i (2 * i + 1 + 1), 2 * i + 1 + 1) (by dsimp only; omega) ⟨hI.step (by omega) (by omega) (by omega) (Classical.not_not.1 h39) (fun k hk hk2 => by rcases hk2 with rfl | rfl; exact lt_asymm h33; exact fun h => lt_asymm h h), by rw [swp_len]; exact hlen, by dsimp only; omega⟩ (.cons rfl (.cons rfl (.cons rfl (.cons rfl .nil)))) (.refl _)
      · -- 33F
        refine WC.skip ?_
        refine WE.then_n ?_
        refine WC.seq ?_
        refine WC.seq ?_
        refine WC.region ?_
        refine WL.val (v_move rfl rfl) (.none rfl) rfl rfl ?_
        refine WL.val (v_move rfl rfl) (.none rfl) rfl rfl ?_
        refine WL.val (v_move rfl rfl) (.none rfl) rfl rfl ?_
        refine WL.invoke rfl rfl rfl (m_Less (g := gC) rfl) ck_38 (.none rfl) rfl rfl ?_
        intro w hS
        refine Calls.then (Less_h (i := 2 * i + 1) (j := i) (by omega) (by omega) hS) hS ?_
        refine WL.val (v_notD rfl rfl) (.none rfl) rfl rfl ?_
        refine WL.nil ?_
        refine WE.then_n ?_
        refine WC.cond_d rfl (fun h39 => ?_) (fun h39 => ?_)
        · -- 39T
          refine WC.exit ?_
          refine WE.then_exit ?_
          refine WE.block_miss rfl ?_
          refine WE.then_exit ?_
          refine WE.block_hit ?_
          refine WE.then_n ?_
          refine WC.seq ?_
          refine WC.region ?_
          refine WL.val (v_move rfl rfl) (.none rfl) rfl rfl ?_
          refine WL.val (v_move rfl rfl) (.none rfl) rfl rfl ?_
          refine WL.val (v_gtr rfl rfl rfl) (.none rfl) rfl rfl ?_
          refine WL.val (v_assign rfl rfl) (.none rfl) rfl rfl ?_
          refine WL.nil ?_
          refine WE.then_n ?_
          refine WC.ret ?_
          refine WE.ret1 (P := Try.prog) (.inl rfl) Try.results19 rfl ?_
          have hf := hI.fin (fun k hk hk2 => by rcases hk2 with rfl | rfl; exact h39; exact nlt_trans h33 h39)
          refine fun w' h => ⟨h2, _, rfl, hlen, hI.perm, hI.rest, fun hb => hf.1 (by simpa using hb), fun hb => hf.2 (by simpa using hb), h⟩
        · -- 39F
          refine WC.skip ?_
          refine WE.then_n ?_
          refine WC.seq ?_
          refine WC.region ?_
          refine WL.val (v_move rfl rfl) (.none rfl) rfl rfl ?_
          refine WL.val (v_move rfl rfl) (.none rfl) rfl rfl ?_
          refine WL.val (v_move rfl rfl) (.none rfl) rfl rfl ?_
          refine WL.invoke rfl rfl rfl (m_Swap (g := gC) rfl) ck_39 (.none rfl) rfl rfl ?_
          intro w hS
          refine Calls.thenS (Swap_h (i := i) (j := 2 * i + 1) (by omega) (by omega) hS) ?_
          refine WL.nil ?_
          refine WE.then_n ?_
          refine WC.region ?_
          refine WL.val (v_move rfl rfl) (.none rfl) rfl rfl ?_
          refine WL.val (v_assign rfl rfl) (.none rfl) rfl rfl ?_
          refine WL.nil ?_
          refine WE.block_n ?_
          exact WE.next (swp h2 i (2 * i + 1), 2 * i + 1) (by dsimp only; omega) ⟨hI.step (by omega) (by omega) (by omega) (Classical.not_not.1 h39) (fun k hk hk2 => by rcases hk2 with rfl | rfl; exact fun h => lt_asymm h h; exact h33), by rw [swp_len]; exact hlen, by dsimp only; omega⟩ (.cons rfl (.cons rfl (.cons rfl (.cons rfl .nil)))) (.refl _)
    · -- 27F
      refine WL.val (v_move rfl rfl) (.none rfl) rfl rfl ?_
      refine WL.skip rfl rfl rfl rfl rfl rfl ?_
      refine WL.skip rfl rfl rfl rfl rfl rfl ?_
      refine WL.skip rfl rfl rfl rfl rfl rfl ?_
      refine WL.skip rfl rfl rfl rfl rfl rfl ?_
      refine WL.val (v_pick_f rfl rfl rfl) (.none rfl) rfl rfl ?_
      refine WL.nil ?_
      refine WE.then_n ?_
      refine WC.cond_f rfl ?_
      refine WC.skip ?_
      refine WE.then_n ?_
      refine WC.seq ?_
      refine WC.seq ?_
      refine WC.region ?_
      refine WL.val (v_move rfl rfl) (.none rfl) rfl rfl ?_
      refine WL.val (v_move rfl rfl) (.none rfl) rfl rfl ?_
      refine WL.val (v_move rfl rfl) (.none rfl) rfl rfl ?_
      refine WL.invoke rfl rfl rfl (m_Less (g := gC) rfl) ck_38 (.none rfl) rfl rfl ?_
      intro w hS
      refine Calls.then (Less_h (i := 2 * i + 1) (j := i) (by omega) (by omega) hS) hS ?_
      refine WL.val (v_notD rfl rfl) (.none rfl) rfl rfl ?_
      refine WL.nil ?_
      refine WE.then_n ?_
      refine WC.cond_d rfl (fun h39 => ?_) (fun h39 => ?_)
      · -- 39T
        refine WC.exit ?_
        refine WE.then_exit ?_
        refine WE.block_miss rfl ?_
        refine WE.then_exit ?_
        refine WE.block_hit ?_
        refine WE.then_n ?_
        refine WC.seq ?_
        refine WC.region ?_
        refine WL.val (v_move rfl rfl) (.none rfl) rfl rfl ?_
        refine WL.val (v_move rfl rfl) (.none rfl) rfl rfl ?_
        refine WL.val (v_gtr rfl rfl rfl) (.none rfl) rfl rfl ?_
        refine WL.val (v_assign rfl rfl) (.none rfl) rfl rfl ?_
        refine WL.nil ?_
        refine WE.then_n ?_
        refine WC.ret ?_
        refine WE.ret1 (P := Try.prog) (.inl rfl) Try.results19 rfl ?_
        have hf := hI.fin (fun k hk hk2 => by rcases hk2 with rfl | rfl; exact h39; exact absurd hk (by omega))
        refine fun w' h => ⟨h2, _, rfl, hlen, hI.perm, hI.rest, fun hb => hf.1 (by simpa using hb), fun hb => hf.2 (by simpa using hb), h⟩
      · -- 39F
        refine WC.skip ?_
        refine WE.then_n ?_
        refine WC.seq ?_
        refine WC.region ?_
        refine WL.val (v_move rfl rfl) (.none rfl) rfl rfl ?_
        refine WL.val (v_move rfl rfl) (.none rfl) rfl rfl ?_
        refine WL.val (v_move rfl rfl) (.none rfl) rfl rfl ?_
        refine WL.invoke rfl rfl rfl (m_Swap (g := gC) rfl) ck_39 (.none rfl) rfl rfl ?_
        intro w hS
        refine Calls.thenS (Swap_h (i := i) (j := 2 * i + 1) (by omega) (by omega) hS) ?_
        refine WL.nil ?_
        refine WE.then_n ?_
        refine WC.region ?_
        refine WL.val (v_move rfl rfl) (.none rfl) rfl rfl ?_
        refine WL.val (v_assign rfl rfl) (.none rfl) rfl rfl ?_
        refine WL.nil ?_
        refine WE.block_n ?_
        exact WE.next (swp h2 i (2 * i + 1), 2 * i + 1) (by dsimp only; omega) ⟨hI.step (by omega) (by omega) (by omega) (Classical.not_not.1 h39) (fun k hk hk2 => by rcases hk2 with rfl | rfl; exact fun h => lt_asymm h h; exact absurd hk (by omega)), by rw [swp_len]; exact hlen, by dsimp only; omega⟩ (.cons rfl (.cons rfl (.cons rfl (.cons rfl .nil)))) (.refl _)
theorem quo_up (j : Nat) (h : j ≤ 300) : IntKind.i64.wrap (((j : Int) - 1).tdiv 2) = (((j - 1) / 2 : Nat) : Int) := by
  cases j with
  | zero => rfl
  | succ j =>
    have e : (((j + 1 : Nat) : Int) - 1).tdiv 2 = ((j / 2 : Nat) : Int) := by
      rw [show ((j + 1 : Nat) : Int) - 1 = (j : Int) by omega, Int.tdiv_eq_ediv_of_nonneg (by omega)]; omega
    rw [e, show j + 1 - 1 = j by omega]
    exact w_i64 (by omega) (by omega)
set_option maxHeartbeats 1000000 in
theorem up_c {j0 m : Nat} (hS : St p w0 w (hsL gC gL now rm c hs r R)) (hm : m ≤ hs.length) (hj0 : j0 < m) (hl : hs.length ≤ 300) (hU : UPre m hs j0) :
    Calls Try.prog 20 #[lnI gC, .int .i64 j0] w fun e w' => ∃ hs', e = .returned (.tuple #[]) ∧ hs'.length = hs.length ∧ hs'.Perm hs ∧ (∀ k, m ≤ k → el hs' k = el hs k) ∧ HeapB m hs' ∧ St p w0 w' (hsL gC gL now rm c hs' r R) := by
  refine enter Try.func20 rfl Try.ntmps20 rfl hS ?_
  refine WC.block ?_
  refine WC.loop (fun x : List En × Nat => [(0, lnI gC), (1, .int .i64 x.2)]) (fun x => hsL gC gL now rm c x.1 r R) (fun x => UPre m x.1 x.2 ∧ x.1.length = hs.length ∧ x.2 < m ∧ x.1.Perm hs ∧ ∀ k, m ≤ k → el x.1 k = el hs k) (fun x => x.2) (hs, j0) ⟨hU, rfl, hj0, List.Perm.refl _, fun _ _ => rfl⟩ (.cons rfl (.cons rfl .nil)) (.refl _) ?_
  rintro ⟨h2, j⟩ ⟨hI, hlen, hj, hp, hrest⟩
  dsimp only at hI hlen hj hp hrest
  dsimp only
  refine WC.block ?_
  refine WC.seq ?_
  refine WC.region ?_
  refine WL.val (v_move rfl rfl) (.none rfl) rfl rfl ?_
  refine WL.val (v_sub rfl rfl rfl (w_i64 (by omega) (by omega))) (.none rfl) rfl rfl ?_
  refine WL.val (v_quoT rfl rfl rfl (by decide) (quo_up j (by omega))) (.none rfl) rfl rfl ?_
  refine WL.val (v_assign rfl rfl) (.none rfl) rfl rfl ?_
  refine WL.nil ?_
  refine WE.then_n ?_
  refine WC.seq ?_
  refine WC.seq ?_
  refine WC.region ?_
  refine WL.val (v_move rfl rfl) (.none rfl) rfl rfl ?_
  refine WL.val (v_move rfl rfl) (.none rfl) rfl rfl ?_
  refine WL.test (v_eql rfl rfl rfl) (.none rfl) rfl rfl (fun h10 => ?_) (fun h10 => ?_)
  · -- 10T
    refine WL.val (v_move rfl rfl) (.none rfl) rfl rfl ?_
    refine WL.skip rfl rfl rfl rfl rfl rfl ?_
    refine WL.skip rfl rfl rfl rfl rfl rfl ?_
    refine WL.skip rfl rfl rfl rfl rfl rfl ?_
    refine WL.skip rfl rfl rfl rfl rfl rfl ?_
    refine WL.skip rfl rfl rfl rfl rfl rfl ?_
    refine WL.val (v_pick_t rfl rfl rfl) (.none rfl) rfl rfl ?_
    refine WL.nil ?_
    refine WE.then_n ?_
    refine WC.cond_t rfl ?_
    refine WC.exit ?_
    refine WE.then_exit ?_
    refine WE.block_miss rfl ?_
    refine WE.then_exit ?_
    refine WE.block_hit ?_
    refine WE.ret0 (P := Try.prog) (.inr rfl) Try.results20  ?_
    exact fun w' h => ⟨h2, rfl, hlen, hp, hrest, hI.fin (.inl (by omega)), h⟩
  · -- 10F
    refine WL.val (v_move rfl rfl) (.none rfl) rfl rfl ?_
    refine WL.val (v_move rfl rfl) (.some rfl rfl rfl) rfl rfl ?_
    refine WL.val (v_move rfl rfl) (.some rfl rfl rfl) rfl rfl ?_
    refine WL.val (v_move rfl rfl) (.some rfl rfl rfl) rfl rfl ?_
    refine WL.invoke rfl rfl rfl (m_Less (g := gC) rfl) ck_38 (.some rfl rfl rfl) rfl rfl ?_
    intro w hS
    refine Calls.then (Less_h (i := j) (j := (j - 1) / 2) (by omega) (by omega) hS) hS ?_
    refine WL.val (v_notD rfl rfl) (.some rfl rfl rfl) rfl rfl ?_
    refine WL.val (v_pick_f rfl rfl rfl) (.none rfl) rfl rfl ?_
    refine WL.nil ?_
    refine WE.then_n ?_
    refine WC.cond_d rfl (fun h17 => ?_) (fun h17 => ?_)
    · -- 17T
      refine WC.exit ?_
      refine WE.then_exit ?_
      refine WE.block_miss rfl ?_
      refine WE.then_exit ?_
      refine WE.block_hit ?_
      refine WE.ret0 (P := Try.prog) (.inr rfl) Try.results20  ?_
      exact fun w' h => ⟨h2, rfl, hlen, hp, hrest, hI.fin (.inr h17), h⟩
    · -- 17F
      refine WC.skip ?_
      refine WE.then_n ?_
      refine WC.seq ?_
      refine WC.region ?_
      refine WL.val (v_move rfl rfl) (.none rfl) rfl rfl ?_
      refine WL.val (v_move rfl rfl) (.none rfl) rfl rfl ?_
      refine WL.val (v_move rfl rfl) (.none rfl) rfl rfl ?_
      refine WL.invoke rfl rfl rfl (m_Swap (g := gC) rfl) ck_39 (.none rfl) rfl rfl ?_
      intro w hS
      refine Calls.thenS (Swap_h (i := (j - 1) / 2) (j := j) (by omega) (by omega) hS) ?_
      refine WL.nil ?_
      refine WE.then_n ?_
      refine WC.region ?_
      refine WL.val (v_move rfl rfl) (.none rfl) rfl rfl ?_
      refine WL.val (v_assign rfl rfl) (.none rfl) rfl rfl ?_
      refine WL.nil ?_
      refine WE.block_n ?_
      exact WE.next (swp h2 ((j - 1) / 2) j, (j - 1) / 2) (by dsimp only; omega) ⟨hI.step (by omega) hj (by omega) (Classical.not_not.1 h17), by rw [swp_len]; exact hlen, by dsimp only; omega, (swp_perm (by omega) (by omega)).trans hp, fun k hk => by dsimp only; rw [el_swp (by omega) (by omega), if_neg (by omega), if_neg (by omega)]; exact hrest k hk⟩ (.cons rfl (.cons rfl .nil)) (.refl _)
end
end Go.Proofs.Ytaoipmdddagngaa
