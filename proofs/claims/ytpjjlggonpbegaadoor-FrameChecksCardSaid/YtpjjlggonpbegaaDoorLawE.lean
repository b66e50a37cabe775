/- What Emit makes, as a plain law: no program in sight. -/
import Derived.Test.YtpjjlggonpbegaaDoorEmit
namespace Go.Proofs.YtpjjlggonpbegaaDoor
open Go.RowKit

theorem up2_at {f : Nat → Int} {off : Nat} {x : Int} : up2 f off x off = x / 256 := by unfold up2; rw [if_pos rfl]
theorem up2_at1 {f : Nat → Int} {off : Nat} {x : Int} : up2 f off x (off + 1) = x % 256 := by unfold up2; rw [if_neg (by omega), if_pos rfl]
theorem up2_far {f : Nat → Int} {off i : Nat} {x : Int} (h : i < off ∨ off + 2 ≤ i) : up2 f off x i = f i := by unfold up2; rw [if_neg (by omega), if_neg (by omega)]
theorem two_up2 {f : Nat → Int} {off : Nat} {x : Int} : two (up2 f off x) off = x := by unfold two; rw [up2_at, up2_at1]; omega
theorem two_far {f : Nat → Int} {off i : Nat} {x : Int} (h : i + 2 ≤ off ∨ off + 2 ≤ i) : two (up2 f off x) i = two f i := by unfold two; rw [up2_far (by omega), up2_far (by omega)]
theorem four_up4 {f : Nat → Int} {off : Nat} {x : Int} : four (up4 f off x) off = x := by
  unfold four up4; rw [two_far (by omega), two_up2, two_up2]; omega
theorem up4_far {f : Nat → Int} {off i : Nat} {x : Int} (h : i < off ∨ off + 4 ≤ i) : up4 f off x i = f i := by unfold up4; rw [up2_far (by omega), up2_far (by omega)]
theorem up6_far {f g : Nat → Int} {off i : Nat} (h : i < off ∨ off + 6 ≤ i) : up6 f off g i = f i := by unfold up6; rw [if_neg (by omega)]
theorem pairs_congr {f g : Nat → Int} : ∀ k, (∀ i, i < 2 * k → f i = g i) → pairs f k = pairs g k
  | 0, _ => rfl
  | k + 1, h => by
    simp only [pairs]
    rw [pairs_congr k (fun i hi => h i (by omega))]
    unfold two
    rw [h (2 * k) (by omega), h (2 * k + 1) (by omega)]
theorem pairs_up2 {f : Nat → Int} {k j : Nat} {x : Int} (h : j < k) : pairs (up2 f (2 * j) x) k = pairs f k + x - two f (2 * j) := by
  induction k with
  | zero => omega
  | succ k ih =>
    simp only [pairs]
    by_cases hj : j = k
    · subst hj
      rw [pairs_congr (f := up2 f (2 * j) x) (g := f) j (fun i hi => up2_far (by omega)), two_up2]; omega
    · rw [ih (by omega), two_far (by omega)]; omega
theorem total_even' {f : Nat → Int} {k : Nat} : total f (2 * k) = pairs f k := total_even rfl
/-- A sum, and what is lacking: all bits. -/
theorem fc_fill {T : Int} (h : 0 < T) : fc (T + (65535 - fc T)) = 65535 := by
  unfold fc
  rw [if_neg (by omega : ¬ T = 0), if_neg (by omega)]
  omega
/-- A check that was right, and the one that is made: the same, or both mean nought. -/
theorem fc_again {T c : Int} (h : 0 < T) (h0 : 0 ≤ c) (h1 : c ≤ 65535) (hc : fc (T + c) = 65535) : 65535 - fc T = c ∨ (c = 65535 ∧ 65535 - fc T = 0) := by
  unfold fc at hc ⊢
  rw [if_neg (by omega)] at hc
  rw [if_neg (by omega)]
  omega
theorem mv_same {old : Int} {W : Hd} (udp : Bool) (h0 : 0 ≤ old) (h1 : old ≤ 65535) (hu : udp = true → old ≠ 0) : mvNew old udp W W = old ∨ (old = 65535 ∧ mvNew old udp W W = 0) := by
  have hs : mvSum old W W = 458745 - old := by
    unfold mvSum; simp only [psum]; omega
  unfold mvNew
  rw [hs]
  have : fc (458745 - old) = (458745 - old - 1) % 65535 + 1 := by unfold fc; rw [if_neg (by omega)]
  rw [this]
  cases udp
  · rw [if_neg (by simp)]; omega
  · have := hu rfl
    split <;> omega

theorem mvF_lo {e : Nat → Int} {W h : Hd} {po i : Nat} {en : Int} (hi : i < po + 6) : mvF e W h po en i = e i := by
  unfold mvF
  split
  · rfl
  · split
    · split
      · rfl
      · exact up2_far (by omega)
    · split
      · rfl
      · exact up2_far (by omega)
/-- Ahead of the ports: as em3 says. -/
theorem emF_lo {f : Nat → Int} {W h : Hd} {po i : Nat} {en : Int} (hty : h.ty = 2048) (hpo : po = 0 ∨ i < po) : emF f W po en h i = em3 f h i := by
  unfold emF
  rw [if_neg (by omega)]
  split
  · rfl
  · rw [mvF_lo (by omega), up2_far (by omega), up2_far (by omega)]
theorem em0_far {f : Nat → Int} {h : Hd} {i : Nat} (hi : 12 ≤ i) : em0 f h i = f i := by unfold em0; rw [up6_far (by omega), up6_far (by omega)]
theorem em0_dst {f : Nat → Int} {h : Hd} {i : Nat} (hi : i < 6) : em0 f h i = h.dst i := by
  unfold em0; rw [up6_far (by omega)]; unfold up6; rw [if_pos (by omega)]; rfl
theorem em0_src {f : Nat → Int} {h : Hd} {i : Nat} (hi : i < 6) : em0 f h (6 + i) = h.src i := by
  unfold em0; unfold up6; rw [if_pos (by omega), show 6 + i - 6 = i by omega]
theorem em2_far {f : Nat → Int} {h : Hd} {i : Nat} (hi : i < 24 ∨ 34 ≤ i) : em2 f h i = em0 f h i := by unfold em2; rw [up2_far (by omega), up4_far (by omega), up4_far (by omega)]
theorem em3_far {f : Nat → Int} {h : Hd} {i : Nat} (hi : i < 24 ∨ 34 ≤ i) : em3 f h i = em0 f h i := by unfold em3; rw [up2_far (by omega), em2_far hi]
theorem em3_sip {f : Nat → Int} {h : Hd} : four (em3 f h) 26 = h.sip := by
  unfold em3 em2 four
  rw [two_far (by omega), two_far (by omega), two_far (by omega), two_far (by omega)]
  unfold up4
  rw [two_far (by omega), two_far (by omega), two_far (by omega), two_up2, two_far (by omega), two_far (by omega), two_up2]
  omega
theorem em3_dip {f : Nat → Int} {h : Hd} : four (em3 f h) 30 = h.dip := by
  unfold em3 em2 four
  rw [two_far (by omega), two_far (by omega), two_far (by omega), two_far (by omega)]
  unfold up4
  rw [two_far (by omega), two_up2, two_up2]
  omega

/-- Where the ports begin, as a count. -/
def poN (f : Nat → Int) : Nat := if two f 12 = 2048 ∧ hasPorts f = true then 14 + ihn f else 0
theorem ihn_eq {f : Nat → Int} (hf : Byt f) : ihl f = ((ihn f : Nat) : Int) ∧ ihn f ≤ 60 := by
  have := hf 14
  unfold ihn ihl; omega
theorem poN_eq {f : Nat → Int} (hf : Byt f) : prPorts f = ((poN f : Nat) : Int) := by
  have := (ihn_eq hf).1
  unfold prPorts poN pOf
  by_cases h1 : two f 12 = 2048
  · by_cases h2 : hasPorts f = true
    · rw [if_pos h1, if_pos h2, if_pos ⟨h1, h2⟩, this]; rfl
    · rw [if_pos h1, if_neg h2, if_neg (fun k => h2 k.2)]; rfl
  · rw [if_neg h1, if_neg (fun k => h1 k.1)]; rfl
theorem hasPorts_iff {f : Nat → Int} : hasPorts f = true ↔ ((f 23 = 6 ∨ f 23 = 17) ∧ two f 20 % 8192 = 0) ∧ 8 ≤ two f 16 - ihl f := by
  unfold hasPorts
  simp only [Bool.and_eq_true, Bool.or_eq_true, beq_iff_eq, decide_eq_true_eq]
/-- What a frame that is parsed says: its IPv4 packet is whole. -/
theorem prErr_ip {port : Int} {f : Nat → Int} {n : Nat} (h : prErr port f n = 0) (h2 : two f 12 = 2048) : pkErr f n = 0 := by
  unfold prErr at h
  split at h
  · exact absurd h (by decide)
  · split at h
    · exact absurd h (by decide)
    · split at h
      · exact absurd h (by decide)
      · split at h
        · rename_i k; exact absurd h2 k
        · exact h
theorem poN_bounds {port : Int} {f : Nat → Int} {n : Nat} (hf : Byt f) (h : prErr port f n = 0) (h2 : two f 12 = 2048) : poN f = 0 ∨ (34 ≤ poN f ∧ poN f + 8 ≤ n ∧ poN f = 14 + ihn f ∧ hasPorts f = true) := by
  obtain ⟨k1, k2, k3, k4, k5, k6⟩ := pkErr_zero (prErr_ip h h2)
  have := ihn_eq hf
  unfold poN
  by_cases hp : hasPorts f = true
  · rw [if_pos ⟨h2, hp⟩]
    have := (hasPorts_iff.1 hp).2
    right; refine ⟨by omega, by omega, rfl, hp⟩
  · rw [if_neg (fun k => hp k.2)]; exact .inl rfl

section
variable {f : Nat → Int} {W h : Hd} {po n : Nat} {en port : Int}
theorem two_em0 (i : Nat) (hi : 12 ≤ i) : two (em0 f h) i = two f i := by unfold two; rw [em0_far hi, em0_far (by omega)]
/-- Of what is no IPv4. -/
theorem emF_other (hty : h.ty ≠ 2048) : emF f W po en h = em0 f h := by unfold emF; rw [if_pos hty]
theorem emF_far (hty : h.ty = 2048) (hpo : po = 0 ∨ 34 ≤ po) {i : Nat} (h1 : 12 ≤ i) (h2 : i < 24) : emF f W po en h i = f i := by
  rw [emF_lo hty (by omega), em3_far (by omega), em0_far h1]
theorem two_emF (hty : h.ty = 2048) (hpo : po = 0 ∨ 34 ≤ po) {i : Nat} (h1 : 12 ≤ i) (h2 : i + 1 < 24) : two (emF f W po en h) i = two f i := by
  unfold two; rw [emF_far hty hpo h1 (by omega), emF_far hty hpo (by omega) h2]
theorem emF_ihn (hty : h.ty = 2048) (hpo : po = 0 ∨ 34 ≤ po) : ihl (emF f W po en h) = ihl f ∧ ihn (emF f W po en h) = ihn f := by
  have e : ihl (emF f W po en h) = ihl f := by unfold ihl; rw [emF_far hty hpo (by omega) (by omega)]
  exact ⟨e, by unfold ihn; rw [e]⟩
theorem emF_ports (hty : h.ty = 2048) (hpo : po = 0 ∨ 34 ≤ po) : hasPorts (emF f W po en h) = hasPorts f := by
  unfold hasPorts
  rw [emF_far hty hpo (i := 23) (by omega) (by omega), two_emF hty hpo (i := 20) (by omega) (by omega), two_emF hty hpo (i := 16) (by omega) (by omega), (emF_ihn hty hpo).1]
theorem emF_sip (hty : h.ty = 2048) (hpo : po = 0 ∨ 34 ≤ po) : four (emF f W po en h) 26 = h.sip ∧ four (emF f W po en h) 30 = h.dip := by
  have e : ∀ i, i < 34 → emF f W po en h i = em3 f h i := fun i hi => emF_lo hty (by omega)
  constructor
  · rw [← em3_sip (f := f) (h := h)]; unfold four two; rw [e _ (by omega), e _ (by omega), e _ (by omega), e _ (by omega)]
  · rw [← em3_dip (f := f) (h := h)]; unfold four two; rw [e _ (by omega), e _ (by omega), e _ (by omega), e _ (by omega)]
theorem emF_pp (hty : h.ty = 2048) (hpo : 34 ≤ po) : two (emF f W po en h) po = h.sp ∧ two (emF f W po en h) (po + 2) = h.dp := by
  unfold emF
  rw [if_neg (by omega), if_neg (by omega)]
  unfold two
  rw [mvF_lo (by omega), mvF_lo (by omega), mvF_lo (by omega), mvF_lo (by omega)]
  constructor
  · show two (up2 (up2 (em3 f h) po h.sp) (po + 2) h.dp) po = _
    rw [two_far (by omega), two_up2]
  · show two (up2 (up2 (em3 f h) po h.sp) (po + 2) h.dp) (po + 2) = _
    rw [two_up2]
end

theorem total_congr {f g : Nat → Int} {k : Nat} (h : ∀ i, i < 2 * k → f i = g i) : total f (2 * k) = total g (2 * k) := by rw [total_even', total_even', pairs_congr k h]
theorem pairs_pos {f : Nat → Int} (hf : Byt f) {k : Nat} (hk : 0 < k) (h : 0 < f 0) : 0 < pairs f k := by
  induction k with
  | zero => omega
  | succ k ih =>
    simp only [pairs]
    have := two_le hf (2 * k)
    by_cases hk0 : k = 0
    · subst hk0; have := hf 1; show 0 < 0 + (f 0 * 256 + f 1); omega
    · have := ih (by omega); omega
theorem shift_up2 {f : Nat → Int} {c off : Nat} {x : Int} : (fun i => up2 f (c + off) x (c + i)) = up2 (fun i => f (c + i)) off x := by
  funext i; unfold up2
  by_cases h1 : i = off
  · rw [if_pos (by omega), if_pos h1]
  · rw [if_neg (by omega), if_neg h1]
    by_cases h2 : i = off + 1
    · rw [if_pos (by omega), if_pos h2]
    · rw [if_neg (by omega), if_neg h2]
/-- The header's sum without its check. -/
def hdT (f : Nat → Int) (h : Hd) : Int := total (fun i => em2 f h (14 + i)) (ihn f)
theorem hdT_pos {f : Nat → Int} {h : Hd} (hf : Byt f) (hh : h.In) (h14 : f 14 / 16 = 4) (h20 : 20 ≤ ihl f) : 0 < hdT f h := by
  have he := (em2_byt hf hh).sub 14
  obtain ⟨h1, h2⟩ := ihn_eq hf
  obtain ⟨k, hk⟩ : ∃ k, ihn f = 2 * k := ⟨ihn f / 2, by unfold ihl at h1; omega⟩
  unfold hdT
  rw [hk, total_even']
  refine pairs_pos he (by omega) ?_
  show 0 < em2 f h (14 + 0)
  rw [em2_14]; omega
theorem em3_sum {f : Nat → Int} {h : Hd} (hf : Byt f) (h20 : 20 ≤ ihl f) (c : Int) : total (fun i => up2 (em2 f h) 24 c (14 + i)) (ihn f) = hdT f h + c := by
  obtain ⟨h1, h2⟩ := ihn_eq hf
  obtain ⟨k, hk⟩ : ∃ k, ihn f = 2 * k := ⟨ihn f / 2, by unfold ihl at h1; omega⟩
  have e := shift_up2 (f := em2 f h) (c := 14) (off := 2 * 5) (x := c)
  have e0 : two (fun i => em2 f h (14 + i)) (2 * 5) = 0 := by
    show two (em2 f h) 24 = 0
    unfold em2; rw [two_up2]
  unfold hdT
  rw [show (24 : Nat) = 14 + 2 * 5 from rfl, e, hk, total_even', total_even', pairs_up2 (by omega), e0]
  omega
/-- Of what Emit makes the header's sum is right. -/
theorem emF_sum {f : Nat → Int} {W h : Hd} {po : Nat} {en : Int} (hf : Byt f) (hh : h.In) (hty : h.ty = 2048) (hpo : po = 0 ∨ po = 14 + ihn f) (h14 : f 14 / 16 = 4) (h20 : 20 ≤ ihl f) :
    fc (total (fun i => emF f W po en h (14 + i)) (ihn f)) = 65535 := by
  obtain ⟨h1, h2⟩ := ihn_eq hf
  obtain ⟨k, hk⟩ : ∃ k, ihn f = 2 * k := ⟨ihn f / 2, by unfold ihl at h1; omega⟩
  have e : total (fun i => emF f W po en h (14 + i)) (ihn f) = hdT f h + (65535 - fc (hdT f h)) := by
    rw [← em3_sum hf h20, hk]
    refine total_congr fun i hi => ?_
    show emF f W po en h (14 + i) = _
    rw [emF_lo hty (by omega)]
    unfold em3 hdT
    have : ihn (em2 f h) = ihn f := by unfold ihn ihl; rw [em2_14]
    rw [this]
  rw [e]
  exact fc_fill (hdT_pos hf hh h14 h20)

theorem hdL_ext {A B : Hd} (h1 : A.port = B.port) (h2 : ∀ i, i < 6 → A.src i = B.src i) (h3 : ∀ i, i < 6 → A.dst i = B.dst i) (h4 : A.ty = B.ty) (h5 : A.sip = B.sip) (h6 : A.dip = B.dip) (h7 : A.proto = B.proto) (h8 : A.sp = B.sp) (h9 : A.dp = B.dp) : hdL A = hdL B := by
  unfold hdL
  rw [h1, h2 0 (by decide), h2 1 (by decide), h2 2 (by decide), h2 3 (by decide), h2 4 (by decide), h2 5 (by decide), h3 0 (by decide), h3 1 (by decide), h3 2 (by decide), h3 3 (by decide), h3 4 (by decide), h3 5 (by decide), h4, h5, h6, h7, h8, h9]
/-- The header with another port. -/
def Hd.at (h : Hd) (port : Int) : Hd := { h with port := port }
theorem prErr_of {port : Int} {f : Nat → Int} {n : Nat} (hp : 0 ≤ port ∧ port ≤ 255) (h14 : 14 ≤ n) (hn : n ≤ 1514) : prErr port f n = if two f 12 ≠ 2048 then 0 else pkErr f n := by
  unfold prErr; rw [if_neg (by omega), if_neg (by omega), if_neg (by omega)]
theorem prErr_n {port : Int} {f : Nat → Int} {n : Nat} (h1 : prErr port f n = 0) : (0 ≤ port ∧ port ≤ 255) ∧ 14 ≤ n ∧ n ≤ 1514 := by
  unfold prErr at h1
  split at h1
  · exact absurd h1 (by decide)
  · split at h1
    · exact absurd h1 (by decide)
    · split at h1
      · exact absurd h1 (by decide)
      · omega
theorem prHd_is {port : Int} {g : Nat → Int} (h : two g 12 = 2048) : prHd port g = pkHd g (ethHd port g) := by unfold prHd; rw [if_pos h]
theorem prHd_no {port : Int} {g : Nat → Int} (h : ¬ two g 12 = 2048) : prHd port g = ethHd port g := by unfold prHd; rw [if_neg h]
theorem prHd_ty' (port : Int) (f : Nat → Int) : (prHd port f).ty = two f 12 := by
  unfold prHd pkHd; split
  · split <;> rfl
  · rfl
theorem emF_prErr {f : Nat → Int} {h : Hd} {n : Nat} {port0 port : Int} {raw : ByteArray} (hf : Byt f) (hh : h.In) (h1 : prErr port0 f n = 0) (hm : May (prHd port0 f) (poN f) raw h) (hp : 0 ≤ port ∧ port ≤ 255) :
    prErr port (emF f (prHd port0 f) (poN f) (prEnd f) h) n = 0 := by
  obtain ⟨_, h14, hn⟩ := prErr_n h1
  have hty : h.ty = two f 12 := hm.2.2.1.trans (prHd_ty' _ _)
  rw [prErr_of hp h14 hn]
  by_cases h2 : two f 12 = 2048
  · have hb := poN_bounds hf h1 h2
    have hty' : h.ty = 2048 := by omega
    have hpo : poN f = 0 ∨ 34 ≤ poN f := by omega
    obtain ⟨k1, k2, k3, k4, k5, k6⟩ := pkErr_zero (prErr_ip h1 h2)
    rw [if_neg (by rw [two_emF hty' hpo (by omega) (by omega)]; omega)]
    obtain ⟨e1, e2⟩ := emF_ihn (f := f) (W := prHd port0 f) (h := h) (en := prEnd f) hty' hpo
    unfold pkErr
    have es : fc (total (fun i => emF f (prHd port0 f) (poN f) (prEnd f) h (14 + i)) (ihl (emF f (prHd port0 f) (poN f) (prEnd f) h)).toNat) = 65535 := by
      have := emF_sum (W := prHd port0 f) (po := poN f) (en := prEnd f) hf hh hty' (by omega) k2 k3
      rw [← e2] at this; exact this
    rw [if_neg (by omega), emF_far hty' hpo (by omega) (by omega), e1, two_emF hty' hpo (by omega) (by omega), if_neg (by omega), if_neg (by omega), ← e1, if_neg (by rw [es]; decide)]
  · rw [if_pos (by rw [emF_other (by omega), two_em0 _ (by omega)]; exact h2)]
theorem emF_hd {f : Nat → Int} {h : Hd} {n : Nat} {port0 port : Int} {raw : ByteArray} (hf : Byt f) (h1 : prErr port0 f n = 0) (hm : May (prHd port0 f) (poN f) raw h) :
    hdL (prHd port (emF f (prHd port0 f) (poN f) (prEnd f) h)) = hdL (h.at port) := by
  obtain ⟨m1, m2, m3, m4, m5, m6⟩ := hm
  have hty : h.ty = two f 12 := m3.trans (prHd_ty' _ _)
  by_cases h2 : two f 12 = 2048
  · have hb := poN_bounds hf h1 h2
    have hty' : h.ty = 2048 := by omega
    have hpo : poN f = 0 ∨ 34 ≤ poN f := by omega
    have e12 := two_emF (f := f) (W := prHd port0 f) (en := prEnd f) hty' hpo (i := 12) (by omega) (by omega)
    have hip : ∀ i, i < 12 → emF f (prHd port0 f) (poN f) (prEnd f) h i = em0 f h i := fun i hi => by rw [emF_lo hty' (by omega), em3_far (by omega)]
    have e23 := emF_far (f := f) (W := prHd port0 f) (en := prEnd f) hty' hpo (i := 23) (by omega) (by omega)
    obtain ⟨es, ed⟩ := emF_sip (f := f) (W := prHd port0 f) (en := prEnd f) hty' hpo
    have hpr : (prHd port0 f).proto = f 23 := by unfold prHd pkHd; rw [if_pos h2]; split <;> rfl
    have hport : prHd port (emF f (prHd port0 f) (poN f) (prEnd f) h) = pkHd (emF f (prHd port0 f) (poN f) (prEnd f) h) (ethHd port (emF f (prHd port0 f) (poN f) (prEnd f) h)) := prHd_is (by rw [e12]; exact h2)
    rw [hport]
    unfold pkHd
    rw [emF_ports hty' hpo]
    by_cases hp : hasPorts f = true
    · rw [if_pos hp]
      have hpn : poN f = 14 + ihn f ∧ 34 ≤ poN f := by
        rcases hb with hb | hb
        · have : poN f = 14 + ihn f := by unfold poN; rw [if_pos ⟨h2, hp⟩]
          omega
        · omega
      have hpp := emF_pp (f := f) (W := prHd port0 f) (en := prEnd f) (h := h) hty' hpn.2
      have e2 := (emF_ihn (f := f) (W := prHd port0 f) (h := h) (en := prEnd f) hty' hpo).2
      refine hdL_ext rfl ?_ ?_ ?_ es ed ?_ ?_ ?_
      · intro i hi; show emF _ _ _ _ h (6 + i) = h.src i; rw [hip _ (by omega), em0_src hi]
      · intro i hi; show emF _ _ _ _ h i = h.dst i; rw [hip _ (by omega), em0_dst hi]
      · show two (emF _ _ _ _ h) 12 = h.ty; rw [e12, hty]
      · show emF _ _ _ _ h 23 = h.proto; rw [e23, m4, hpr]
      · show two (emF _ _ _ _ h) (14 + ihn _) = h.sp; rw [e2, ← hpn.1]; exact hpp.1
      · show two (emF _ _ _ _ h) (14 + ihn _ + 2) = h.dp; rw [e2, ← hpn.1]; exact hpp.2
    · rw [if_neg hp]
      have hp0 : poN f = 0 := by unfold poN; rw [if_neg (fun k => hp k.2)]
      have m6' : h.sp = 0 ∧ h.dp = 0 := by rw [hp0] at m6; exact m6.resolve_left (fun k => k rfl)
      refine hdL_ext rfl ?_ ?_ ?_ es ed ?_ m6'.1.symm m6'.2.symm
      · intro i hi; show emF _ _ _ _ h (6 + i) = h.src i; rw [hip _ (by omega), em0_src hi]
      · intro i hi; show emF _ _ _ _ h i = h.dst i; rw [hip _ (by omega), em0_dst hi]
      · show two (emF _ _ _ _ h) 12 = h.ty; rw [e12, hty]
      · show emF _ _ _ _ h 23 = h.proto; rw [e23, m4, hpr]
  · have hp0 : poN f = 0 := by unfold poN; rw [if_neg (fun k => h2 k.1)]
    have m6' : h.sp = 0 ∧ h.dp = 0 := by rw [hp0] at m6; exact m6.resolve_left (fun k => k rfl)
    have m5' := m5.resolve_left (by omega)
    have e : emF f (prHd port0 f) (poN f) (prEnd f) h = em0 f h := emF_other (by omega)
    rw [e]
    have hport : prHd port (em0 f h) = ethHd port (em0 f h) := prHd_no (by rw [two_em0 _ (by omega)]; exact h2)
    have hpr : (prHd port0 f).proto = 0 := by unfold prHd; rw [if_neg h2]; rfl
    rw [hport]
    refine hdL_ext rfl (fun i hi => em0_src hi) (fun i hi => em0_dst hi) ?_ m5'.1.symm m5'.2.symm ?_ m6'.1.symm m6'.2.symm
    · show two (em0 f h) 12 = h.ty; rw [two_em0 _ (by omega), hty]
    · show 0 = h.proto; rw [m4, hpr]
end Go.Proofs.YtpjjlggonpbegaaDoor
