/- (*frame.Pack).packet: one contract where something is wrong, one where nothing is. -/
import Derived.Test.YtpjjlggonpbegaaFrE
namespace Go.Proofs.Ytpjjlggonpbegaa
open Go.RowKit

/-- How many bytes the header has. -/
def ihn (f : Nat → Int) : Nat := (ihl f).toNat
def hasPorts (f : Nat → Int) : Bool := (f 23 == 6 || f 23 == 17) && two f 20 % 8192 == 0 && decide (8 ≤ two f 16 - ihl f)
/-- Where the ports begin; 0: there are none. -/
def pOf (f : Nat → Int) : Int := if hasPorts f = true then 14 + ihl f else 0
/-- The header of a frame whose packet is right. -/
def pkHd (f : Nat → Int) (W : Hd) : Hd :=
  if hasPorts f = true then { W with sip := four f 26, dip := four f 30, proto := f 23, sp := two f (14 + ihn f), dp := two f (14 + ihn f + 2) }
  else { W with sip := four f 26, dip := four f 30, proto := f 23 }

theorem packet_err (w : World) (bp b off n cap : Nat) (f : Nat → Int) (hr : Rd w b off n f) (hf : Byt f) (h14 : 14 ≤ n) (hc : n ≤ cap) (hn : n ≤ 2000) (h : pkErr f n ≠ 0) :
    Calls Try.prog 26 #[.pointer (some ⟨bp, 0, none⟩), .slice (some ⟨b, off, none⟩) n cap] w fun e w' => e = .returned (.int .i64 (pkErr f n)) ∧ ∃ m, w' = w.drewN m := by
  unfold pkErr at h ⊢
  by_cases h1 : n < 34
  · rw [if_pos h1]
    exact (packet_short w bp b off n cap f h1 h14 hc).mono fun e w' ⟨he, hw⟩ => ⟨he, 0, hw.symm⟩
  · rw [if_neg h1] at h ⊢
    by_cases h2 : f 14 / 16 ≠ 4 ∨ ihl f < 20 ∨ two f 16 < ihl f
    · rw [if_pos h2]
      exact packet_form w bp b off n cap f hr hf (by omega) hc h2
    · rw [if_neg h2] at h ⊢
      by_cases h3 : (n : Int) < 14 + two f 16
      · rw [if_pos h3]
        exact packet_cut w bp b off n cap f hr hf (by omega) hc (by omega) (by omega) (by omega) h3
      · rw [if_neg h3] at h ⊢
        by_cases h4 : fc (total (fun i => f (14 + i)) (ihl f).toNat) ≠ 65535
        · rw [if_pos h4]
          exact packet_sum w bp b off n cap f hr hf (by omega) hc (by omega) (by omega) (by omega) (by omega) h4
        · rw [if_neg h4] at h
          exact absurd rfl h

theorem pkErr_zero {f : Nat → Int} {n : Nat} (h : pkErr f n = 0) : 34 ≤ n ∧ f 14 / 16 = 4 ∧ 20 ≤ ihl f ∧ ihl f ≤ two f 16 ∧ 14 + two f 16 ≤ (n : Int) ∧ fc (total (fun i => f (14 + i)) (ihl f).toNat) = 65535 := by
  unfold pkErr at h
  split at h
  · exact absurd h (by decide)
  · split at h
    · exact absurd h (by decide)
    · split at h
      · exact absurd h (by decide)
      · split at h
        · exact absurd h (by decide)
        · rename_i h1 h2 h3 h4
          exact ⟨by omega, by omega, by omega, by omega, by omega, by simpa using h4⟩

theorem packet_okc (w : World) (bp b off n cap : Nat) (f : Nat → Int) (W : Hd) (raw : ByteArray) (T : TypeId) (hr : Rd w b off n f) (hf : Byt f) (hn : n ≤ 2000) (hc : n ≤ cap) (h : pkErr f n = 0)
    (hne : b ≠ bp) (hB : Blk w bp (pkCells Hd.zero W raw 0 0) T) :
    Calls Try.prog 26 #[.pointer (some ⟨bp, 0, none⟩), .slice (some ⟨b, off, none⟩) n cap] w fun e w' => e = .returned (.int .i64 0) ∧ Frm (fun k => k = bp) w w' ∧
      Blk w' bp (pkCells Hd.zero (pkHd f W) raw (pOf f) (14 + two f 16)) T := by
  obtain ⟨h34, h4, h20, hall, hle, hs⟩ := pkErr_zero h
  have hL : f 14 % 16 * 4 = ((ihn f : Nat) : Int) := by unfold ihn; unfold ihl at *; omega
  have hLi : ihl f = ((ihn f : Nat) : Int) := hL
  by_cases hp : hasPorts f = true
  · have hp' := hp
    unfold hasPorts at hp'
    simp only [Bool.and_eq_true, Bool.or_eq_true, beq_iff_eq, decide_eq_true_eq] at hp'
    have := packet_ports w bp b off n cap (ihn f) f W raw T hr hf h34 hn hc h4 hL (by omega) (by omega) hle hs hne hB hp'.1.1 hp'.1.2 (by omega)
    refine this.mono fun e w' ⟨he, hF, hB'⟩ => ⟨he, hF, ?_⟩
    unfold pkHd pOf
    rw [if_pos hp, if_pos hp, hLi]
    exact hB'
  · have hp' := hp
    unfold hasPorts at hp'
    simp only [Bool.and_eq_true, Bool.or_eq_true, beq_iff_eq, decide_eq_true_eq] at hp'
    have := packet_noports w bp b off n cap (ihn f) f W raw T hr hf h34 hn hc h4 hL (by omega) (by omega) hle hs hne hB (by omega)
    refine this.mono fun e w' ⟨he, hF, hB'⟩ => ⟨he, hF, ?_⟩
    unfold pkHd pOf
    rw [if_neg hp, if_neg hp]
    exact hB'
end Go.Proofs.Ytpjjlggonpbegaa
