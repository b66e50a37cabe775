/- frame.Parse and its reference: one contract where there is an error, one where there is none. -/
import Derived.Test.YtpjjlggonpbegaaFrH
import Derived.Test.YtpjjlggonpbegaaRefC
import Derived.Test.YtpjjlggonpbegaaRefD
namespace Go.Proofs.Ytpjjlggonpbegaa
open Go.RowKit

def prErr (port : Int) (f : Nat → Int) (n : Nat) : Int :=
  if port < 0 ∨ 255 < port then 1 else if n < 14 then 10 else if 1514 < n then 6 else if two f 12 ≠ 2048 then 0 else pkErr f n
def prHd (port : Int) (f : Nat → Int) : Hd := if two f 12 = 2048 then pkHd f (ethHd port f) else ethHd port f
def prPorts (f : Nat → Int) : Int := if two f 12 = 2048 then pOf f else 0
def prEnd (f : Nat → Int) : Int := if two f 12 = 2048 then 14 + two f 16 else 0

theorem Parse_e (w : World) (port : Int) (a : Option Addr) (n cap : Nat) (f : Nat → Int) (hr : RdO w a n f) (hf : Byt f) (hc : n ≤ cap) (h : prErr port f n ≠ 0) :
    Calls Try.prog 12 #[.int .i64 port, .slice a n cap] w fun e w' => e = .returned (.tuple #[packV Hd.zero Hd.zero ⟨#[]⟩ 0 0, .int .i64 (prErr port f n)]) ∧ Frm (fun _ => False) w w' := by
  unfold prErr at h ⊢
  by_cases h1 : port < 0 ∨ 255 < port
  · rw [if_pos h1]; exact Parse_port w port _ h1
  · rw [if_neg h1] at h ⊢
    by_cases h2 : n < 14
    · rw [if_pos h2]; exact Parse_short w port a n cap (by omega) (by omega) h2
    · rw [if_neg h2] at h ⊢
      by_cases h3 : 1514 < n
      · rw [if_pos h3]; exact Parse_long w port a n cap (by omega) (by omega) h3
      · rw [if_neg h3] at h ⊢
        by_cases h4 : two f 12 ≠ 2048
        · rw [if_pos h4] at h; exact absurd rfl h
        · rw [if_neg h4] at h ⊢
          obtain ⟨b, off, rfl, hr'⟩ := hr (by omega)
          exact Parse_bad w port b off n cap f (by omega) (by omega) hr' hf (by omega) hc (by omega) (by omega) h

theorem Parse_k (w : World) (port : Int) (a : Option Addr) (n cap : Nat) (f : Nat → Int) (hr : RdO w a n f) (hf : Byt f) (hc : n ≤ cap) (h : prErr port f n = 0) :
    Calls Try.prog 12 #[.int .i64 port, .slice a n cap] w fun e w' => e = .returned (.tuple #[packV (prHd port f) (prHd port f) (str f n) (prPorts f) (prEnd f), .int .i64 0]) ∧ Frm (fun _ => False) w w' := by
  unfold prErr at h
  by_cases h1 : port < 0 ∨ 255 < port
  · rw [if_pos h1] at h; exact absurd h (by decide)
  · rw [if_neg h1] at h
    by_cases h2 : n < 14
    · rw [if_pos h2] at h; exact absurd h (by decide)
    · rw [if_neg h2] at h
      by_cases h3 : 1514 < n
      · rw [if_pos h3] at h; exact absurd h (by decide)
      · rw [if_neg h3] at h
        obtain ⟨b, off, rfl, hr'⟩ := hr (by omega)
        unfold prHd prPorts prEnd
        by_cases h4 : two f 12 = 2048
        · rw [if_neg (by omega)] at h
          rw [if_pos h4, if_pos h4, if_pos h4]
          exact Parse_ip w port b off n cap f (by omega) (by omega) hr' hf (by omega) hc (by omega) h4 h
        · rw [if_neg h4, if_neg h4, if_neg h4]
          exact Parse_other w port b off n cap f (by omega) (by omega) hr' hf (by omega) hc (by omega) h4

theorem RParse_e (w : World) (port : Int) (a : Option Addr) (n cap : Nat) (f : Nat → Int) (hr : RdO w a n f) (hf : Byt f) (hc : n ≤ cap) (h : prErr port f n ≠ 0) :
    Calls Try.prog 13 #[.int .i64 port, .slice a n cap] w fun e w' => e = .returned (.tuple #[.agg (hdCells Hd.zero), .int .i64 0, .int .i64 0, .int .i64 (prErr port f n)]) ∧ Frm (fun _ => False) w w' := by
  unfold prErr at h ⊢
  by_cases h1 : port < 0 ∨ 255 < port
  · rw [if_pos h1]; exact RParse_port w port _ h1
  · rw [if_neg h1] at h ⊢
    by_cases h2 : n < 14
    · rw [if_pos h2]; exact RParse_short w port a n cap (by omega) (by omega) h2
    · rw [if_neg h2] at h ⊢
      by_cases h3 : 1514 < n
      · rw [if_pos h3]; exact RParse_long w port a n cap (by omega) (by omega) h3
      · rw [if_neg h3] at h ⊢
        by_cases h4 : two f 12 ≠ 2048
        · rw [if_pos h4] at h; exact absurd rfl h
        · rw [if_neg h4] at h ⊢
          obtain ⟨b, off, rfl, hr'⟩ := hr (by omega)
          have hL : f 14 % 16 * 4 = ((ihn f : Nat) : Int) := by have := hf 14; unfold ihn ihl; omega
          have hLi : ihl f = ((ihn f : Nat) : Int) := hL
          unfold pkErr at h ⊢
          by_cases k1 : n < 34
          · rw [if_pos k1]; exact RParse_short34 w port b off n cap f (by omega) (by omega) hr' hf (by omega) hc (by omega) (by omega) k1
          · rw [if_neg k1] at h ⊢
            by_cases k2 : f 14 / 16 ≠ 4 ∨ ihl f < 20 ∨ two f 16 < ihl f
            · rw [if_pos k2]
              exact RParse_form w port b off n cap (ihn f) f (by omega) (by omega) hr' hf (by omega) hc (by omega) (by omega) (by omega) hL (by omega)
            · rw [if_neg k2] at h ⊢
              by_cases k3 : (n : Int) < 14 + two f 16
              · rw [if_pos k3]
                exact RParse_cut w port b off n cap (ihn f) f (by omega) (by omega) hr' hf (by omega) hc (by omega) (by omega) (by omega) hL (by omega) (by omega) (by omega) k3
              · rw [if_neg k3] at h ⊢
                by_cases k4 : fc (total (fun i => f (14 + i)) (ihl f).toNat) ≠ 65535
                · rw [if_pos k4]
                  exact RParse_sum w port b off n cap (ihn f) f (by omega) (by omega) hr' hf (by omega) hc (by omega) (by omega) (by omega) hL (by omega) (by omega) (by omega) (by omega) k4
                · rw [if_neg k4] at h; exact absurd rfl h

theorem RParse_k (w : World) (port : Int) (a : Option Addr) (n cap : Nat) (f : Nat → Int) (hr : RdO w a n f) (hf : Byt f) (hc : n ≤ cap) (h : prErr port f n = 0) :
    Calls Try.prog 13 #[.int .i64 port, .slice a n cap] w fun e w' => e = .returned (.tuple #[.agg (hdCells (prHd port f)), .int .i64 (prPorts f), .int .i64 (prEnd f), .int .i64 0]) ∧ Frm (fun _ => False) w w' := by
  unfold prErr at h
  by_cases h1 : port < 0 ∨ 255 < port
  · rw [if_pos h1] at h; exact absurd h (by decide)
  · rw [if_neg h1] at h
    by_cases h2 : n < 14
    · rw [if_pos h2] at h; exact absurd h (by decide)
    · rw [if_neg h2] at h
      by_cases h3 : 1514 < n
      · rw [if_pos h3] at h; exact absurd h (by decide)
      · rw [if_neg h3] at h
        obtain ⟨b, off, rfl, hr'⟩ := hr (by omega)
        unfold prHd prPorts prEnd
        by_cases h4 : two f 12 = 2048
        · rw [if_neg (by omega)] at h
          rw [if_pos h4, if_pos h4, if_pos h4]
          obtain ⟨k34, k4, k20, kall, kle, ks⟩ := pkErr_zero h
          have hL : f 14 % 16 * 4 = ((ihn f : Nat) : Int) := by have := hf 14; unfold ihn ihl; omega
          have hLi : ihl f = ((ihn f : Nat) : Int) := hL
          by_cases hp : hasPorts f = true
          · have hp' := hp
            unfold hasPorts at hp'
            simp only [Bool.and_eq_true, Bool.or_eq_true, beq_iff_eq, decide_eq_true_eq] at hp'
            unfold pkHd pOf
            rw [if_pos hp, if_pos hp, hLi]
            exact RParse_ports w port b off n cap (ihn f) f (by omega) (by omega) hr' hf (by omega) hc (by omega) h4 k34 hL k4 (by omega) (by omega) kle ks hp'.1.1 hp'.1.2 (by omega)
          · have hp' := hp
            unfold hasPorts at hp'
            simp only [Bool.and_eq_true, Bool.or_eq_true, beq_iff_eq, decide_eq_true_eq] at hp'
            unfold pkHd pOf
            rw [if_neg hp, if_neg hp]
            exact RParse_noports w port b off n cap (ihn f) f (by omega) (by omega) hr' hf (by omega) hc (by omega) h4 k34 hL k4 (by omega) (by omega) kle ks (by omega)
        · rw [if_neg h4, if_neg h4, if_neg h4]
          exact RParse_other w port b off n cap f (by omega) (by omega) hr' hf (by omega) hc (by omega) h4
end Go.Proofs.Ytpjjlggonpbegaa
