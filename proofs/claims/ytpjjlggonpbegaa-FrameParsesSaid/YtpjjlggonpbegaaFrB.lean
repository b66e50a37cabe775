/- The sums of frame and of its reference over bytes. -/
import Derived.Test.YtpjjlggonpbegaaFrA
namespace Go.Proofs.Ytpjjlggonpbegaa
open Go.RowKit

theorem pairs_two (f : Nat → Int) (k : Nat) : pairs f (k + 1) = pairs f k + two (fun i => f (2 * k + i)) 0 := rfl
theorem total_even {f : Nat → Int} {n k : Nat} (h : n = 2 * k) : total f n = pairs f k := by
  subst h; unfold total; rw [if_neg (by omega), Nat.mul_div_cancel_left _ (by omega)]; omega
theorem total_odd {f : Nat → Int} {n k : Nat} (h : n = 2 * k + 1) : total f n = pairs f k + f (2 * k) * 256 := by
  subst h; unfold total; rw [if_pos (by omega), show (2 * k + 1) / 2 = k from by omega]; rfl

set_option maxHeartbeats 400000 in
theorem check_c (w : World) (b off n cap : Nat) (f : Nat → Int) (hr : Rd w b off n f) (hf : Byt f) (hn : n ≤ 1000000) (hc : n ≤ cap) :
    Calls Try.prog 34 #[.slice (some ⟨b, off, none⟩) n cap] w fun e w' => e = .returned (.int .i64 (fc (total f n))) ∧ ∃ m, w' = w.drewN m := by
  go_enter Try.func34, Try.ntmps34
  go_wp2
  go_loopw [0, 3] (fun v s wr => ∃ k o m : Nat, 2 * k ≤ n ∧ v = .slice (some ⟨b, o, none⟩) (n - 2 * k) (cap - 2 * k) ∧ (2 * k < cap → o = off + 2 * k) ∧ s = .int .i64 (pairs f k) ∧ wr = w.drewN m)
     (fun v _ _ => lenOf v)
  case atStart => exact ⟨0, off, 0, by omega, rfl, fun _ => rfl, rfl, rfl⟩
  case round =>
    obtain ⟨k, o, m, hk, rfl, ho, rfl, rfl⟩ := hrel
    have hp := pairs_le hf k
    have ht := two_le (hf.sub (2 * k)) 0
    by_cases hlt : 1 < n - 2 * k
    · obtain rfl := ho (by omega)
      clear ho
      have r0 := hr.sub (2 * k) 2 (by omega)
      go_wp2_with fail
      refine (get_c _ _ _ _ _ (fun i => f (2 * k + i)) (r0.drewN _) (hf.sub _) (by omega) _ rfl).mono ?_
      rintro e w' ⟨rfl, m', rfl⟩
      go_wp2_with fail
      refine ⟨⟨k + 1, if cap - 2 * k = 2 then off + 2 * k else off + 2 * k + 2, m + m', by omega, ?_, ?_, by rw [pairs_two], rfl⟩, ?_⟩
      · rw [ite_at]; exact sl_eq rfl (by omega) (by omega)
      · intro h; rw [if_neg (by omega)]; omega
      · simp only [lenOf]; omega
    · have r0 : n - 2 * k = 1 → w.cell? ⟨b, off + 2 * k, none⟩ = some (.int .u8 (f (2 * k))) := fun h => hr (2 * k) (by omega)
      have hb := hf (2 * k)
      by_cases h1 : n - 2 * k = 1
      · obtain rfl := ho (by omega)
        have r1 := r0 h1
        have ht := total_odd (f := f) (n := n) (k := k) (by omega)
        have H := Lib.hid ht
        have H1 := Lib.hid h1
        clear ho r0 h1 ht
        have h2 : ((n - 2 * k : Nat) : Int) = 1 := by have := H1.out; omega
        go_wp2_with fail
        refine (fold_c _ _ (by omega) (by omega)).mono ?_
        rintro e w' ⟨rfl, rfl⟩
        go_wp2
        go_ret
        exact ⟨ret_int (by rw [H.out]), _, rfl⟩
      · have ht := total_even (f := f) (n := n) (k := k) (by omega)
        have H := Lib.hid ht
        clear ho r0 ht
        have h2 : (((n - 2 * k : Nat) : Int) == 1) = false := by simp; omega
        go_wp2_with fail
        refine (fold_c _ _ (by omega) (by omega)).mono ?_
        rintro e w' ⟨rfl, rfl⟩
        go_wp2
        go_ret
        exact ⟨ret_int (by rw [H.out]), _, rfl⟩

/-- What the reference's sum has come to behind k pairs. -/
def psum (f : Nat → Int) (n : Nat) (k : Nat) : Int := fc (if 2 * k ≤ n then pairs f k else total f n)
theorem psum_le {f : Nat → Int} (hf : Byt f) (n k : Nat) : 0 ≤ psum f n k ∧ psum f n k ≤ 65535 := by
  unfold psum; apply fc_le; split
  · exact (pairs_le hf k).1
  · exact (total_le hf n).1
theorem psum_step {f : Nat → Int} (hf : Byt f) (n k : Nat) (h : 2 * k + 1 < n) : fc (psum f n k + (f (2 * k) * 256 + f (2 * k + 1))) = psum f n (k + 1) := by
  have hp := pairs_le hf k
  have h0 := hf (2 * k)
  have h1 := hf (2 * k + 1)
  unfold psum
  rw [if_pos (by omega), if_pos (by omega), fc_add _ _ hp.1 (by omega)]; rfl
theorem psum_last {f : Nat → Int} (hf : Byt f) (n k : Nat) (h : 2 * k + 1 = n) : fc (psum f n k + f (2 * k) * 256) = psum f n (k + 1) := by
  have hp := pairs_le hf k
  have h0 := hf (2 * k)
  unfold psum
  rw [if_pos (by omega), if_neg (by omega), fc_add _ _ hp.1 (by omega), total_odd (k := k) (by omega)]
theorem psum_end {f : Nat → Int} (n k : Nat) (h : n ≤ 2 * k) : psum f n k = fc (total f n) := by
  unfold psum
  split
  · rw [total_even (k := k) (by omega)]
  · rfl

set_option maxHeartbeats 400000 in
theorem Sum_c (w : World) (b off n cap : Nat) (f : Nat → Int) (hr : Rd w b off n f) (hf : Byt f) (hn : n ≤ 1000000) :
    Calls Try.prog 29 #[.slice (some ⟨b, off, none⟩) n cap] w fun e w' => e = .returned (.int .i64 (fc (total f n))) ∧ w = w' := by
  go_enter Try.func29, Try.ntmps29
  go_wp2
  go_loop [3, 4, 5] (fun s i _ => ∃ k : Nat, 2 * k ≤ n + 1 ∧ i = .int .i64 (2 * (k : Int)) ∧ s = .int .i64 (psum f n k)) (fun _ i _ => n + 1 - (intOf i).toNat)
  case atStart => exact ⟨0, by omega, rfl, by simp [psum, pairs]; rfl⟩
  case round =>
    obtain ⟨k, hk, rfl, rfl⟩ := hrel
    have hp := psum_le hf n k
    by_cases hlt : 2 * k < n
    · have r0 := hr (2 * k) (by omega)
      have hb0 := hf (2 * k)
      have hb1 := hf (2 * k + 1)
      by_cases hodd : 2 * k + 1 < n
      · have r1 := hr (2 * k + 1) (by omega)
        have H := Lib.hid (psum_step hf n k hodd)
        go_wp2_with fail
        refine (Add_c _ _ _ (by omega) (by omega) (by omega) (by omega)).mono ?_
        rintro e w' ⟨rfl, rfl⟩
        go_wp2_with fail
        go_round
        case rel => exact ⟨k + 1, by omega, by go_num, by rw [← H.out]⟩
        case measure => simp [intOf]; omega
      · have H := Lib.hid (psum_last hf n k (by omega))
        go_wp2_with fail
        refine (Add_c _ _ _ (by omega) (by omega) (by omega) (by omega)).mono ?_
        rintro e w' ⟨rfl, rfl⟩
        go_wp2_with fail
        go_round
        case rel => exact ⟨k + 1, by omega, by go_num, by rw [← H.out]⟩
        case measure => simp [intOf]; omega
    · have H := Lib.hid (psum_end (f := f) n k (by omega))
      go_wp2
      go_ret
      exact ⟨ret_int H.out, rfl⟩
end Go.Proofs.Ytpjjlggonpbegaa
