/- arp: answers to frames that were emitted; the document's example; ArpBack. -/
import Derived.Test.YtpjjlggonpbegaaArp
namespace Go.Proofs.Ytpjjlggonpbegaa
open Go.RowKit

theorem ansErr_x {w : World} {g : Nat} {port : Int} {a : Option Addr} {n cap : Nat} {f : Nat → Int} {mv : Value} (hR : Row w g [fnV, mv]) (hr : RdO w a n f) (hf : Byt f) (hc : n ≤ cap) (h : ansErr port f n ≠ 0) :
    Calls Try.prog 22 #[.pointer (some ⟨g, 0, none⟩), .int .i64 port, .slice a n cap] w fun e w' => e = .returned (.tuple #[.slice none 0 0, .int .i64 (ansErr port f n)]) ∧ Frm (fun _ => False) w w' := by
  unfold ansErr at h ⊢
  by_cases h1 : prErr port f n = 0
  · rw [if_neg (by omega)] at h ⊢
    have hb : 14 ≤ n ∧ n ≤ 1514 := by
      unfold prErr at h1
      split at h1
      · exact absurd h1 (by decide)
      · split at h1
        · exact absurd h1 (by decide)
        · split at h1
          · exact absurd h1 (by decide)
          · omega
    by_cases h2 : arpErr f n (two f 12) = 0
    · rw [if_neg (by omega)] at h ⊢
      have h3 : f 21 = 2 ∨ four f 38 % 2 = 1 := by
        by_cases k1 : f 21 = 2
        · exact .inl k1
        · rw [if_neg k1] at h
          by_cases k2 : four f 38 % 2 = 1
          · exact .inr k2
          · rw [if_neg k2] at h; exact absurd rfl h
      have := Answer_x3 w g port a n cap f mv hR hr hf hc h1 hb.1 hb.2 h2 h3
      by_cases k1 : f 21 = 2
      · rw [if_pos k1] at this ⊢; exact this
      · rw [if_neg k1] at this ⊢; rw [if_pos (h3.resolve_left k1)]; exact this
    · rw [if_pos h2]
      exact Answer_x2 w g port a n cap f hr hf hc h1 hb.1 hb.2 h2
  · rw [if_pos h1]
    exact Answer_x1 w g port a n cap f hr hf hc h1
theorem ansErr_0 {port : Int} {f : Nat → Int} {n : Nat} (h : ansErr port f n = 0) : prErr port f n = 0 ∧ arpErr f n (two f 12) = 0 ∧ f 21 ≠ 2 ∧ four f 38 % 2 ≠ 1 := by
  unfold ansErr at h
  split at h
  · rename_i k; exact absurd h k
  · rename_i k1
    split at h
    · rename_i k; exact absurd h k
    · rename_i k2
      split at h
      · exact absurd h (by decide)
      · rename_i k3
        split at h
        · exact absurd h (by decide)
        · rename_i k4
          exact ⟨by omega, by omega, k3, k4⟩
theorem prErr_len {port : Int} {f : Nat → Int} {n : Nat} (h1 : prErr port f n = 0) : 14 ≤ n ∧ n ≤ 1514 := by
  unfold prErr at h1
  split at h1
  · exact absurd h1 (by decide)
  · split at h1
    · exact absurd h1 (by decide)
    · split at h1
      · exact absurd h1 (by decide)
      · omega
theorem rdORow {w : World} {b n : Nat} {f : Nat → Int} (hR : Row w b (bcs f n)) : RdO w (some ⟨b, 0, none⟩) n f := fun _ => ⟨b, 0, rfl, hR.rd (bcsAt rfl)⟩

/-- The answer to a question. -/
def repAk (A : Ak) : Ak := ⟨true, macOf A.tip, A.tip, A.mac, A.ip⟩
theorem macOf_byt {a : Int} (h0 : 0 ≤ a) (h1 : a ≤ 4294967295) : Byt (macOf a) := fun i => by
  match i with
  | 0 => exact ⟨by show (0 : Int) ≤ 2; decide, by show (2 : Int) ≤ 255; decide⟩
  | 1 => exact ⟨by show (0 : Int) ≤ 9; decide, by show (9 : Int) ≤ 255; decide⟩
  | 2 => show 0 ≤ a / 16777216 ∧ a / 16777216 ≤ 255; omega
  | 3 => show 0 ≤ a / 65536 % 256 ∧ a / 65536 % 256 ≤ 255; omega
  | 4 => show 0 ≤ a / 256 % 256 ∧ a / 256 % 256 ≤ 255; omega
  | 5 => show 0 ≤ a % 256 ∧ a % 256 ≤ 255; omega
  | _ + 6 => exact ⟨Int.le_refl _, show (0 : Int) ≤ 255 by decide⟩
theorem repAk_fits {A : Ak} (h : A.Fits) : (repAk A).Fits := ⟨macOf_byt h.tip.1 h.tip.2, h.mac, h.tip, h.ip⟩
theorem arpF_38 {A : Ak} (h : A.Fits) : four (arpF A) 38 = A.tip := by
  have := h.tip
  show (A.tip / 65536 / 256 * 256 + A.tip / 65536 % 256) * 65536 + (A.tip % 65536 / 256 * 256 + A.tip % 65536 % 256) = A.tip
  omega
theorem arpF_28 {A : Ak} (h : A.Fits) : four (arpF A) 28 = A.ip := by
  have := h.ip
  show (A.ip / 65536 / 256 * 256 + A.ip / 65536 % 256) * 65536 + (A.ip % 65536 / 256 * 256 + A.ip % 65536 % 256) = A.ip
  omega
theorem arpF_rep {A : Ak} (h : A.Fits) : bcs (arpF (ansAk (arpF A))) 42 = bcs (arpF (repAk A)) 42 := by
  rw [arpF_T (A := ansAk (arpF A)) rfl, arpF_T (A := repAk A) rfl]
  unfold ansAk repAk
  rw [arpF_38 h, arpF_28 h]
  rfl
def ansE (A : Ak) : Int := if A.ans = true then 7 else if A.tip % 2 = 1 then 4 else 0
theorem ansE_eq {A : Ak} (h : A.Fits) {port : Int} (hp : 0 ≤ port ∧ port ≤ 255) : ansErr port (arpF A) 42 = ansE A := by
  have h1 := arpF_err A port hp
  have e : two (arpF A) 12 = 2054 := by show (8 : Int) * 256 + 6 = 2054; decide
  have h2 : arpErr (arpF A) 42 (two (arpF A) 12) = 0 := by rw [e]; exact arpF_arp A
  have h21 : arpF A 21 = if A.ans = true then 2 else 1 := rfl
  unfold ansErr ansE
  rw [if_neg (by omega), if_neg (by omega), arpF_38 h, h21]
  cases A.ans
  · rw [if_neg (by decide), if_neg (by decide : ¬ (false = true))]
  · rw [if_pos (by decide), if_pos rfl]
theorem AnswerE_x {w : World} {p : Nat → Prop} {w0 : World} {E L : List Ent} {g b : Nat} {M : Option (Nat × Array MapEntry × Nat)} {port : Int} {A : Ak} (hS : St p w0 w (E ++ (resp g M ++ L))) (hb : Ent.row b (bcs (arpF A) 42) ∈ E ++ L) (hA : A.Fits) (hp : 0 ≤ port ∧ port ≤ 255) (h : ansE A ≠ 0) :
    Calls Try.prog 22 #[.pointer (some ⟨g, 0, none⟩), .int .i64 port, .slice (some ⟨b, 0, none⟩) 42 42] w fun e w' => e = .returned (.tuple #[.slice none 0 0, .int .i64 (ansE A)]) ∧ Frm (fun _ => False) w w' := by
  obtain ⟨r, hR, _⟩ := resp_row hS
  have hB : Row w b (bcs (arpF A) 42) := hS.holds (.row b (bcs (arpF A) 42)) ((List.mem_append.1 hb).elim (fun h => List.mem_append_left _ h) (fun h => List.mem_append_right _ (List.mem_append_right _ h)))
  have := ansErr_x (port := port) (cap := 42) hR (rdORow hB) (arpF_byt hA) (Nat.le_refl _) (by rw [ansE_eq hA hp]; exact h)
  rw [ansE_eq hA hp] at this
  exact this
theorem AnswerE_k {w : World} {p : Nat → Prop} {w0 : World} {E L : List Ent} {g b : Nat} {M : Option (Nat × Array MapEntry × Nat)} {m : Value → Option Value} {port : Int} {A : Ak} (hS : St p w0 w (E ++ (resp g M ++ L))) (hM : IMap (KInt .u32) (esOf M) m) (hm : Macs m) (hb : Ent.row b (bcs (arpF A) 42) ∈ E ++ L) (hA : A.Fits) (hp : 0 ≤ port ∧ port ≤ 255) (h : ansE A = 0) :
    Calls Try.prog 22 #[.pointer (some ⟨g, 0, none⟩), .int .i64 port, .slice (some ⟨b, 0, none⟩) 42 42] w fun e w' => ∃ go M', e = .returned (.tuple #[.slice (some ⟨go, 0, none⟩) 42 42, .int .i64 0]) ∧ w0.heap.size ≤ go ∧ St p w0 w' (.row go (bcs (arpF (repAk A)) 42) :: (resp g M' ++ (E ++ L))) ∧
      IMap (KInt .u32) (esOf M') (noteM m (esOf M).size A.ip (.agg (u8s A.mac).toArray)) ∧ (esOf M').size = noteS m (esOf M).size A.ip := by
  have h' : ansErr port (arpF A) 42 = 0 := by rw [ansE_eq hA hp]; exact h
  obtain ⟨k1, k2, k3, k4⟩ := ansErr_0 h'
  refine (Answer_k w p w0 (E ++ L) g M m port (some ⟨b, 0, none⟩) 42 42 (arpF A) (hS.front E) hM hm (fun w' hS' => rdORow (hS'.holds (.row b (bcs (arpF A) 42)) (List.mem_append_right _ hb))) (arpF_byt hA) (Nat.le_refl _) k1 (by omega) (by omega) k2 k3 k4).mono ?_
  rintro e w' ⟨go, M', rfl, hgo, hS', hM', hs'⟩
  rw [arpF_rep hA] at hS'
  rw [arpF_28 hA] at hM' hs'
  exact ⟨go, M', rfl, hgo, hS', hM', hs'⟩
theorem Macs.empty : Macs fun _ => none := fun _ _ h => by cases h

def exAk (t : Int) : Ak := ⟨false, nth6 1 0 0 0 0 0, 5, fun _ => 0, t⟩
theorem exAk_fits (t : Int) (h : 0 ≤ t ∧ t ≤ 4294967295) : (exAk t).Fits := ⟨nth6_byt (by decide) (by decide) (by decide) (by decide) (by decide) (by decide), fun _ => ⟨Int.le_refl _, by show (0 : Int) ≤ 255; decide⟩, (by show (0 : Int) ≤ 5 ∧ (5 : Int) ≤ 4294967295; decide), h⟩
set_option maxHeartbeats 1000000 in
theorem arpHead_c (w : World) :
    Calls Try.prog 19 #[] w fun e w' => e = .returned (.bool true) ∧ Frm (fun _ => False) w w' := by
  refine enter (vs := []) Try.func19 rfl Try.ntmps19 rfl (St.start (fun _ => False) w) ?_
  refine WC.seq ?_
  refine WC.region ?_
  refine WL.val (v_assign rfl rfl) (.none rfl) rfl rfl ?_
  refine WL.nil ?_
  refine WE.then_n ?_
  refine WC.seq ?_
  refine WC.region ?_
  refine WL.call rfl rfl ck_20 (.none rfl) rfl rfl ?_
  intro w1 hS
  refine (New_c w1 _ _ _ fnV hS (.inr rfl)).mono ?_
  rintro e w' ⟨g6, hg6, rfl, hS'⟩
  refine ⟨_, _, rfl, hS', ?_⟩
  refine WL.val (v_assign rfl rfl) (.none rfl) rfl rfl ?_
  refine WL.nil ?_
  refine WE.then_n ?_
  refine WC.seq ?_
  refine WC.seq ?_
  refine WC.region ?_
  refine WL.val (v_move rfl rfl) (.none rfl) rfl rfl ?_
  refine WL.val (v_eql_nil false rfl rfl Try.underlying51 rfl) (.none rfl) rfl rfl ?_
  refine WL.nil ?_
  refine WE.then_n ?_
  refine WC.cond_f rfl ?_
  refine WC.skip ?_
  refine WE.then_n ?_
  refine WC.seq ?_
  refine WC.region ?_
  refine WL.val (v_move rfl rfl) (.none rfl) rfl rfl ?_
  refine WL.val (v_buildA rfl rfl zero_26 Try.underlying26 sz_5 rfl) (.none rfl) rfl rfl ?_
  refine WL.val (v_build rfl rfl zero_44 plc_44 rfl) (.none rfl) rfl rfl ?_
  refine WL.call rfl rfl ck_18 (.none rfl) rfl rfl ?_
  intro w1 hS
  refine (EmitArp_c (exAk 8) hS (by decide) (by decide) (by decide) (by decide)).mono ?_
  rintro e w' ⟨g13, hg13, rfl, hS'⟩
  refine ⟨_, _, rfl, hS', ?_⟩
  refine WL.call rfl rfl ck_22 (.none rfl) rfl rfl ?_
  intro w1 hS
  refine (AnswerE_k (E := [.row g13 (bcs (arpF (exAk 8)) 42)]) (L := []) (g := g6) (b := g13) (M := none) (port := 1) (A := exAk 8) hS (IMap.empty _) Macs.empty (by simp) (exAk_fits 8 (by decide)) (by decide) (by decide)).mono ?_
  rintro e w' ⟨g14, M14, rfl, hg14, hS', hM14, hs14⟩
  refine ⟨_, _, rfl, hS', ?_⟩
  refine WL.val (v_move rfl rfl) (.none rfl) rfl rfl ?_
  refine WL.val (v_extract rfl rfl rfl) (.none rfl) rfl rfl ?_
  refine WL.val (v_extract rfl rfl rfl) (.none rfl) rfl rfl ?_
  refine WL.val (v_assign rfl rfl) (.none rfl) rfl rfl ?_
  refine WL.val (v_assign rfl rfl) (.none rfl) rfl rfl ?_
  refine WL.nil ?_
  refine WE.then_n ?_
  refine WC.seq ?_
  refine WC.region ?_
  refine WL.val (v_move rfl rfl) (.none rfl) rfl rfl ?_
  refine WL.val (v_buildA rfl rfl zero_26 Try.underlying26 sz_5 rfl) (.none rfl) rfl rfl ?_
  refine WL.val (v_build rfl rfl zero_44 plc_44 rfl) (.none rfl) rfl rfl ?_
  refine WL.call rfl rfl ck_18 (.none rfl) rfl rfl ?_
  intro w1 hS
  refine (EmitArp_c (exAk 9) hS (by decide) (by decide) (by decide) (by decide)).mono ?_
  rintro e w' ⟨g21, hg21, rfl, hS'⟩
  refine ⟨_, _, rfl, hS', ?_⟩
  refine WL.call rfl rfl ck_22 (.none rfl) rfl rfl ?_
  intro w hS
  refine Calls.then (AnswerE_x (E := [.row g21 (bcs (arpF (exAk 9)) 42), .row g14 (bcs (arpF (repAk (exAk 8))) 42)]) (L := [.row g13 (bcs (arpF (exAk 8)) 42)]) (M := M14) (A := exAk 9) hS (by simp) (exAk_fits 9 (by decide)) (by decide) (by decide)) hS ?_
  refine WL.val (v_move rfl rfl) (.none rfl) rfl rfl ?_
  refine WL.val (v_extract rfl rfl rfl) (.none rfl) rfl rfl ?_
  refine WL.val (v_extract rfl rfl rfl) (.none rfl) rfl rfl ?_
  refine WL.val (v_assign rfl rfl) (.none rfl) rfl rfl ?_
  refine WL.val (v_assign rfl rfl) (.none rfl) rfl rfl ?_
  refine WL.nil ?_
  refine WE.then_n ?_
  refine WC.seq ?_
  refine WC.region ?_
  refine WL.val (v_move rfl rfl) (.none rfl) rfl rfl ?_
  refine WL.val ((v_eql rfl rfl rfl).t (by omega)) (.none rfl) rfl rfl ?_
  refine WL.val (v_move rfl rfl) (.none rfl) rfl rfl ?_
  refine WL.val (v_move rfl rfl) (.some rfl rfl rfl) rfl rfl ?_
  refine WL.val (v_len_slice rfl rfl Try.underlying22) (.some rfl rfl rfl) rfl rfl ?_
  refine WL.val ((v_eql rfl rfl rfl).t (by omega)) (.some rfl rfl rfl) rfl rfl ?_
  refine WL.val (v_pick_t rfl rfl rfl) (.none rfl) rfl rfl ?_
  refine WL.val (v_move rfl rfl) (.none rfl) rfl rfl ?_
  refine WL.val (v_move rfl rfl) (.some rfl rfl rfl) rfl rfl ?_
  refine WL.val ((v_eql rfl rfl rfl).t (rfl)) (.some rfl rfl rfl) rfl rfl ?_
  refine WL.val (v_pick_t rfl rfl rfl) (.none rfl) rfl rfl ?_
  refine WL.val (v_assign rfl rfl) (.none rfl) rfl rfl ?_
  refine WL.nil ?_
  refine WE.then_n ?_
  refine WC.ret ?_
  refine WE.ret1 (P := Try.prog) (.inl rfl) Try.results19 rfl ?_
  exact fun w' h => ⟨rfl, h.frm⟩
end Go.Proofs.Ytpjjlggonpbegaa
