/- The small functions of frame and of its reference: numbers of bytes, sums. -/
import Derived.Test.YtpjjlggonpbegaaLib
import Derived.Test.YtpjjlggonpbegaaProg
namespace Go.Proofs.Ytpjjlggonpbegaa
open Go.RowKit

set_option maxHeartbeats 400000 in
theorem get_c (w : World) (b off n cap : Nat) (f : Nat → Int) (hr : Rd w b off 2 f) (hf : Byt f) (hn : 2 ≤ n) (x : Int) (hx : two f 0 = x) :
    Calls Try.prog 25 #[.slice (some ⟨b, off, none⟩) n cap] w fun e w' => e = .returned (.int .i64 x) ∧ ∃ m, w' = w.drewN m := by
  subst hx
  have h0 := hr 0 (by omega)
  have h1 := hr 1 (by omega)
  simp only [Nat.add_zero] at h0
  have b0 := hf 0
  have b1 := hf 1
  have e1 := i64_or8 (f 0) (f 1) (by omega) (by omega) (by omega) (by omega)
  go_enter Try.func25, Try.ntmps25
  go_wp2
  go_quiet (fail)
  go_wp2
  go_ret
  exact ⟨rfl, _, rfl⟩

set_option maxHeartbeats 400000 in
theorem Two_c (w : World) (b off n cap : Nat) (i : Nat) (f : Nat → Int) (hr : Rd w b off n f) (hf : Byt f) (hi : i + 1 < n) (hn : n ≤ 9223372036854775807) :
    Calls Try.prog 28 #[.slice (some ⟨b, off, none⟩) n cap, .int .i64 i] w fun e w' => e = .returned (.int .i64 (two f i)) ∧ ∃ m, w' = w.drewN m := by
  have h0 := hr i (by omega)
  have h1 := hr (i + 1) (by omega)
  have b0 := hf i
  have b1 := hf (i + 1)
  go_enter Try.func28, Try.ntmps28
  go_wp2
  go_quiet (fail)
  go_wp2
  go_ret
  exact ⟨rfl, _, rfl⟩

set_option maxHeartbeats 400000 in
theorem getAddr_c (w : World) (b off n cap : Nat) (f : Nat → Int) (hr : Rd w b off 4 f) (hf : Byt f) (hn : 4 ≤ n) (hc : n ≤ cap) (x : Int) (hx : four f 0 = x) :
    Calls Try.prog 30 #[.slice (some ⟨b, off, none⟩) n cap] w fun e w' => e = .returned (.int .u32 x) ∧ ∃ m, w' = w.drewN m := by
  subst hx
  have b0 := two_le hf 0
  have b2 := two_le hf 2
  have e1 := u32_or16 (two f 0) (two f 2) (by omega) (by omega) (by omega) (by omega)
  go_enter Try.func30, Try.ntmps30
  go_wp2
  have r0 := hr.to 2 (by omega)
  have r2 := hr.sub 2 2 (by omega)
  have hn2 : 2 ≤ n := by omega
  have hn4 : 2 ≤ n - 2 := by omega
  go_quiet ((first | (go_at_call 25; with_reducible exact Calls.quiet_of (get_c _ _ _ _ _ f (r0.drewN _) hf hn2 (two f 0) rfl)) | (go_at_call 25; with_reducible exact Calls.quiet_of (get_c _ _ _ _ _ (fun i => f (2 + i)) (r2.drewN _) (hf.sub 2) hn4 (two f 2) rfl))))
  go_wp2
  go_ret
  exact ⟨rfl, _, rfl⟩

/-! fold, Add -/
set_option maxHeartbeats 400000 in
theorem fold_c (w : World) (s : Int) (h0 : 0 ≤ s) (h1 : s < 4611686018427387904) :
    Calls Try.prog 36 #[.int .i64 s] w fun e w' => e = .returned (.int .i64 (fc s)) ∧ w = w' := by
  go_enter Try.func36, Try.ntmps36
  go_wp2
  go_loop [0] (fun v => ∃ t : Int, 0 ≤ t ∧ t < 4611686018427387904 ∧ fc t = fc s ∧ v = .int .i64 t) (fun v => (intOf v).toNat)
  case atStart => exact ⟨s, h0, h1, rfl, rfl⟩
  case round =>
    obtain ⟨t, ht0, ht1, hts, rfl⟩ := hrel
    have H := Lib.hid hts; clear hts
    have em := i64_and16 t (by omega) (by omega)
    by_cases hlt : 65535 < t
    · go_wp2
      go_round
      case rel => exact ⟨t / 65536 + t % 65536, by omega, by omega, by rw [fc_step t hlt]; exact H.out, by rfl⟩
      case measure => simp [intOf]; omega
    · go_wp2
      go_ret
      exact ⟨ret_int (by rw [← H.out, fc_small t ht0 (by omega)]), rfl⟩

set_option maxHeartbeats 400000 in
theorem Add_c (w : World) (a b : Int) (ha0 : 0 ≤ a) (ha1 : a ≤ 65535) (hb0 : 0 ≤ b) (hb1 : b ≤ 65535) :
    Calls Try.prog 35 #[.int .i64 a, .int .i64 b] w fun e w' => e = .returned (.int .i64 (fc (a + b))) ∧ w = w' := by
  go_enter Try.func35, Try.ntmps35
  go_wp2
  go_loop [5] (fun v => ∃ t : Int, 0 ≤ t ∧ t ≤ 131070 ∧ fc t = fc (a + b) ∧ v = .int .i64 t) (fun v => (intOf v).toNat)
  case atStart => exact ⟨a + b, by omega, by omega, rfl, rfl⟩
  case round =>
    obtain ⟨t, ht0, ht1, hts, rfl⟩ := hrel
    have H := Lib.hid hts; clear hts
    by_cases hlt : 65535 < t
    · go_wp2
      go_round
      case rel => exact ⟨t % 65536 + t / 65536, by omega, by omega, by rw [Int.add_comm, fc_step t hlt]; exact H.out, by rfl⟩
      case measure => simp [intOf]; omega
    · go_wp2
      go_ret
      exact ⟨ret_int (by rw [← H.out, fc_small t ht0 (by omega)]), rfl⟩

end Go.Proofs.Ytpjjlggonpbegaa
