/- carrefourlaw05.FrameChecks. -/
import Derived.Test.YtpjjlggonpbegaaDoorIp4
import Derived.Test.YtpjjlggonpbegaaDoorBack
namespace Go.Proofs.YtpjjlggonpbegaaDoor
open Go.RowKit

theorem total_up2 {g : Nat → Int} {j n : Nat} {x : Int} (h : 2 * j + 2 ≤ n) : total (up2 g (2 * j) x) n = total g n + x - two g (2 * j) := by
  unfold total
  rw [pairs_up2 (by omega)]
  split
  · rw [up2_far (by omega)]; omega
  · omega
theorem total_congr' {f g : Nat → Int} {n : Nat} (h : ∀ i, i < n → f i = g i) : total f n = total g n := by
  unfold total
  rw [pairs_congr (n / 2) (fun i hi => h i (by omega))]
  split
  · rw [h (n - 1) (by omega)]
  · rfl
theorem whl_up50 {g : Nat → Int} {n : Nat} {x : Int} (h : 52 ≤ n) : whl (up2 g 50 x) n = whl g n + x - two g 50 := by
  have e1 : total (fun i => up2 g 50 x (26 + i)) 8 = total (fun i => g (26 + i)) 8 := total_congr' fun i hi => up2_far (by omega)
  have e2 := shift_up2 (f := g) (c := 34) (off := 2 * 8) (x := x)
  have e3 := total_up2 (g := fun i => g (34 + i)) (j := 8) (n := n - 34) (x := x) (by omega)
  have e4 : two (fun i => g (34 + i)) (2 * 8) = two g 50 := rfl
  unfold whl
  have e5 : two g (34 + 2 * 8) = two g 50 := rfl
  rw [e1, show (50 : Nat) = 34 + 2 * 8 from rfl, e2, e3, e4, e5]
  omega
theorem whl_pos {g : Nat → Int} {n : Nat} (hg : Byt g) (h : 52 ≤ n) : 0 < whl g n := by
  have t1 := total_le (hg.sub 26) 8
  have t2 := total_le (hg.sub 34) (n - 34)
  unfold whl; omega
theorem lay_whl {g : Nat → Int} {n : Nat} (hg : Byt g) (h : 52 ≤ n) : fc (whl (layF g n) n) = 65535 := by
  have h0 : Byt (up2 g 50 0) := up2_byt hg 50 (by omega) (by omega)
  have hp := whl_pos h0 h
  have e : layF g n = up2 (up2 g 50 0) 50 (65535 - fc (whl (up2 g 50 0) n)) := up2_up2.symm
  rw [e, whl_up50 h, two_up2, Int.sub_zero]
  exact fc_fill hp
theorem layF_far {g : Nat → Int} {n i : Nat} (h : i < 50 ∨ 52 ≤ i) : layF g n i = g i := up2_far (by omega)
theorem layF_byt {g : Nat → Int} {n : Nat} (hg : Byt g) (h : 52 ≤ n) : Byt (layF g n) := by
  have h0 : Byt (up2 g 50 0) := up2_byt hg 50 (by omega) (by omega)
  have := fc_le _ (Int.le_of_lt (whl_pos h0 h))
  exact up2_byt hg _ (by omega) (by omega)
section
variable {H : Hd} {f : Nat → Int} {m : Nat}
theorem ip4_lo {i : Nat} (h : i < 16 ∨ (18 ≤ i ∧ i < 24)) : ip4 H f m i = ip0 H.src H.dst i := by
  unfold ip4 ip3
  rw [up2_far (by omega), up2_far (by omega)]
  unfold ip2; rw [if_pos (by omega)]
  unfold ip1; rw [up2_far (by omega), up2_far (by omega), up4_far (by omega), up4_far (by omega)]
theorem ip4_16 : two (ip4 H f m) 16 = 38 + m - 14 := by
  unfold ip4 ip3; rw [two_far (by omega), two_up2]
theorem ip3_24 : two (ip3 H f m) 24 = 0 := by
  have e : ∀ i, 24 ≤ i → i < 26 → ip3 H f m i = ip0 H.src H.dst i := fun i h1 h2 => by
    unfold ip3; rw [up2_far (by omega)]
    unfold ip2; rw [if_pos (by omega)]
    unfold ip1; rw [up2_far (by omega), up2_far (by omega), up4_far (by omega), up4_far (by omega)]
  unfold two; rw [e 24 (by omega) (by omega), e 25 (by omega) (by omega)]; rfl
theorem ip3_14 : ip3 H f m 14 = 69 := by
  unfold ip3; rw [up2_far (by omega)]
  unfold ip2; rw [if_pos (by omega)]
  unfold ip1; rw [up2_far (by omega), up2_far (by omega), up4_far (by omega), up4_far (by omega)]; rfl
theorem ip4_sum (hb : Byt (ip3 H f m)) : fc (total (fun i => ip4 H f m (14 + i)) 20) = 65535 := by
  have e2 := shift_up2 (f := ip3 H f m) (c := 14) (off := 2 * 5) (x := 65535 - fc (total (fun i => ip3 H f m (14 + i)) 20))
  have e3 := total_up2 (g := fun i => ip3 H f m (14 + i)) (j := 5) (n := 20) (x := 65535 - fc (total (fun i => ip3 H f m (14 + i)) 20)) (by omega)
  have e4 : two (fun i => ip3 H f m (14 + i)) (2 * 5) = 0 := ip3_24
  have hp : 0 < total (fun i => ip3 H f m (14 + i)) 20 := by
    rw [show (20 : Nat) = 2 * 10 from rfl, total_even']
    exact pairs_pos (hb.sub 14) (by omega) (by show 0 < ip3 H f m 14; rw [ip3_14]; omega)
  unfold ip4
  rw [show (24 : Nat) = 14 + 2 * 5 from rfl, e2, e3, e4, Int.sub_zero]
  exact fc_fill hp

/-- The frame of the law. -/
def ckF (H : Hd) (f : Nat → Int) (m : Nat) : Nat → Int := layF (ip4 H f m) (38 + m)
theorem ckF_lo {i : Nat} (h : i < 16 ∨ (18 ≤ i ∧ i < 24)) : ckF H f m i = ip0 H.src H.dst i := by
  unfold ckF; rw [layF_far (by omega), ip4_lo h]
theorem ckF_c (H : Hd) (f : Nat → Int) (m : Nat) : ckF H f m 12 = 8 ∧ ckF H f m 13 = 0 ∧ ckF H f m 14 = 69 ∧ ckF H f m 20 = 0 ∧ ckF H f m 21 = 0 ∧ ckF H f m 23 = 6 := by
  refine ⟨?_, ?_, ?_, ?_, ?_, ?_⟩ <;> (rw [ckF_lo (by omega)]; rfl)
theorem ckF_16 : two (ckF H f m) 16 = 38 + m - 14 := by
  have : two (ckF H f m) 16 = two (ip4 H f m) 16 := by unfold two ckF; rw [layF_far (by omega), layF_far (by omega)]
  rw [this, ip4_16]
theorem ckF_sum (hb : Byt (ip3 H f m)) : fc (total (fun i => ckF H f m (14 + i)) 20) = 65535 := by
  rw [total_congr' (g := fun i => ip4 H f m (14 + i)) (fun i hi => by unfold ckF; exact layF_far (by omega))]
  exact ip4_sum hb
theorem ckF_ih : ihl (ckF H f m) = 20 ∧ ihn (ckF H f m) = 20 := by
  have h := (ckF_c H f m).2.2.1
  have e : ihl (ckF H f m) = 20 := by unfold ihl; rw [h]; rfl
  exact ⟨e, by unfold ihn; rw [e]; rfl⟩
theorem ckF_12 : two (ckF H f m) 12 = 2048 := by unfold two; rw [(ckF_c H f m).1, (ckF_c H f m).2.1]; rfl
theorem ckF_20 : two (ckF H f m) 20 = 0 := by unfold two; rw [(ckF_c H f m).2.2.2.1, (ckF_c H f m).2.2.2.2.1]; rfl
theorem ckF_err (hb : Byt (ip3 H f m)) (h16 : 16 ≤ m) (hm : m ≤ 300) : prErr 0 (ckF H f m) (38 + m) = 0 := by
  obtain ⟨c12, c13, c14, c20, c21, c23⟩ := ckF_c H f m
  obtain ⟨e1, e2⟩ := ckF_ih (H := H) (f := f) (m := m)
  have e16 := ckF_16 (H := H) (f := f) (m := m)
  rw [prErr_of (by omega) (by omega) (by omega), if_neg (by rw [ckF_12]; omega)]
  unfold pkErr
  rw [if_neg (by omega), if_neg (by omega), if_neg (by omega), e1, if_neg (fun k => k (ckF_sum hb))]
theorem ckF_ports (h16 : 16 ≤ m) : hasPorts (ckF H f m) = true := by
  have c23 := (ckF_c H f m).2.2.2.2.2
  have e16 := ckF_16 (H := H) (f := f) (m := m)
  have e1 := (ckF_ih (H := H) (f := f) (m := m)).1
  refine hasPorts_iff.2 ⟨⟨.inl c23, ?_⟩, by omega⟩
  rw [ckF_20]; rfl
theorem ckF_po (h16 : 16 ≤ m) : poN (ckF H f m) = 34 := by
  rw [poN_is ckF_12 (ckF_ports h16), (ckF_ih (H := H) (f := f) (m := m)).2]
theorem ckF_end : prEnd (ckF H f m) = 38 + m := by
  unfold prEnd; rw [if_pos ckF_12, ckF_16]; omega
end
/-- A header with another's addresses and ports. -/
def Hd.to (W g : Hd) : Hd := { W with src := g.src, dst := g.dst, sip := g.sip, dip := g.dip, sp := g.sp, dp := g.dp }
theorem mvSum_eq (old : Int) (W h : Hd) : mvSum old W h = 458745 - old - (W.sip / 65536 + W.sip % 65536 + W.dip / 65536 + W.dip % 65536 + W.sp + W.dp) + (h.sip / 65536 + h.sip % 65536 + h.dip / 65536 + h.dip % 65536 + h.sp + h.dp) := by
  have e : ∀ h : Hd, wv h 0 = h.sip / 65536 ∧ wv h 1 = h.sip % 65536 ∧ wv h 2 = h.dip / 65536 ∧ wv h 3 = h.dip % 65536 ∧ wv h 4 = h.sp ∧ wv h 5 = h.dp := fun h => ⟨rfl, rfl, rfl, rfl, rfl, rfl⟩
  obtain ⟨a0, a1, a2, a3, a4, a5⟩ := e W
  obtain ⟨b0, b1, b2, b3, b4, b5⟩ := e h
  unfold mvSum
  simp only [psum, a0, a1, a2, a3, a4, a5, b0, b1, b2, b3, b4, b5]
  omega
theorem total8 (g : Nat → Int) : total (fun i => g (26 + i)) 8 = two g 26 + two g 28 + two g 30 + two g 32 := by
  show pairs (fun i => g (26 + i)) 4 + 0 = _
  simp only [pairs]
  show 0 + two g 26 + two g 28 + two g 30 + two g 32 + 0 = _
  omega
theorem ck_arith {q1 q2 q3 q4 p1 p2 old T s1 s2 d1 d2 sp dp N : Int} (h1 : 0 ≤ q1 ∧ q1 ≤ 65535) (h2 : 0 ≤ q2 ∧ q2 ≤ 65535) (h3 : 0 ≤ q3 ∧ q3 ≤ 65535) (h4 : 0 ≤ q4 ∧ q4 ≤ 65535) (h5 : 0 ≤ p1 ∧ p1 ≤ 65535) (h6 : 0 ≤ p2 ∧ p2 ≤ 65535) (h7 : 0 ≤ old ∧ old ≤ 65535)
    (hN : 0 ≤ N) (hs : 0 ≤ s1 + s2) (hd : 0 ≤ d1 + d2) (hsp : 0 ≤ sp) (hdp : 0 ≤ dp) (hT : p1 + p2 + old ≤ T) (hx : fc (q1 + q2 + q3 + q4 + 6 + N + T) = 65535) :
    fc (s1 + s2 + d1 + d2 + 6 + N + (T + sp - p1 + dp - p2) + (65535 - fc (458745 - old - (q1 + q2 + q3 + q4 + p1 + p2) + (s1 + s2 + d1 + d2 + sp + dp))) - old) = 65535 := by
  unfold fc at hx ⊢
  split at hx
  · omega
  · split <;> split at * <;> omega
theorem three_le {g : Nat → Int} (hg : Byt g) {n : Nat} (hn : 18 ≤ n) : two g 0 + two g 2 + two g 16 ≤ total g n := by
  have key : ∀ k, 9 ≤ k → two g 0 + two g 2 + two g 16 ≤ pairs g k := by
    intro k
    induction k with
    | zero => omega
    | succ k ih =>
      intro hk
      have h1 := two_le hg (2 * k)
      simp only [pairs]
      by_cases h9 : 9 ≤ k
      · have := ih h9; omega
      · obtain rfl : k = 8 := by omega
        have a := two_le hg 4
        have b := two_le hg 6
        have c := two_le hg 8
        have d := two_le hg 10
        have e := two_le hg 12
        have f := two_le hg 14
        show _ ≤ 0 + two g 0 + two g 2 + two g 4 + two g 6 + two g 8 + two g 10 + two g 12 + two g 14 + two g 16
        omega
  have := key (n / 2) (by omega)
  have := hg (n - 1)
  unfold total; split <;> omega
theorem fours {g : Nat → Int} (hg : Byt g) {x : Int} {i : Nat} (h : four g i = x) : two g i = x / 65536 ∧ two g (i + 2) = x % 65536 := by
  have h1 := two_le hg (i + 2)
  unfold four at h
  omega
section
variable {H : Hd} {f : Nat → Int} {m : Nat}
theorem ck_whl {h : Hd} (hb : Byt (ckF H f m)) (hx : fc (whl (ckF H f m) (38 + m)) = 65535) (h16 : 16 ≤ m) (hty : h.ty = 2048) (hh : h.In) (hsp : 0 ≤ h.sp ∧ h.sp ≤ 65535) (hdp : 0 ≤ h.dp ∧ h.dp ≤ 65535) :
    fc (whl (emF (ckF H f m) (prHd 0 (ckF H f m)) (poN (ckF H f m)) (prEnd (ckF H f m)) h) (38 + m)) = 65535 := by
  have hpo := ckF_po (H := H) (f := f) h16
  have hen := ckF_end (H := H) (f := f) (m := m)
  obtain ⟨i1, i2⟩ := prHd_ips (f := ckF H f m) (port := 0) ckF_12
  obtain ⟨p1, p2⟩ := prHd_pp (f := ckF H f m) (port := 0) ckF_12 (ckF_ports h16)
  rw [(ckF_ih (H := H) (f := f) (m := m)).2] at p1 p2
  have hpr : (prHd 0 (ckF H f m)).proto = 6 := by rw [prHd_is ckF_12]; unfold pkHd; split <;> exact (ckF_c H f m).2.2.2.2.2
  obtain ⟨s1, s2⟩ := fours hb i1.symm
  obtain ⟨d1, d2⟩ := fours hb i2.symm
  have e3b := em3_byt (f := ckF H f m) hb hh
  obtain ⟨t1, t2⟩ := fours e3b (em3_sip (f := ckF H f m) (h := h))
  obtain ⟨u1, u2⟩ := fours e3b (em3_dip (f := ckF H f m) (h := h))
  have far : ∀ i, 34 ≤ i → em3 (ckF H f m) h i = ckF H f m i := fun i hi => by rw [em3_far (by omega), em0_far (by omega)]
  have eX20 : two (up2 (up2 (em3 (ckF H f m) h) 34 h.sp) (34 + 2) h.dp) 20 = 0 := by
    rw [two_far (by omega), two_far (by omega)]
    have : two (em3 (ckF H f m) h) 20 = two (ckF H f m) 20 := by unfold two; rw [em3_far (by omega), em3_far (by omega), em0_far (by omega), em0_far (by omega)]
    rw [this, ckF_20]
  have eX50 : two (up2 (up2 (em3 (ckF H f m) h) 34 h.sp) (34 + 2) h.dp) 50 = two (ckF H f m) 50 := by
    rw [two_far (by omega), two_far (by omega)]
    unfold two; rw [far _ (by omega), far _ (by omega)]
  have eF : emF (ckF H f m) (prHd 0 (ckF H f m)) (poN (ckF H f m)) (prEnd (ckF H f m)) h = up2 (up2 (up2 (em3 (ckF H f m) h) 34 h.sp) (34 + 2) h.dp) 50 (65535 - fc (mvSum (two (ckF H f m) 50) (prHd 0 (ckF H f m)) h)) := by
    unfold emF mvF
    rw [if_neg (by omega), hpo, if_neg (by omega), eX20, if_neg (by decide), hpr, if_neg (by decide), hen, if_neg (by omega)]
    show up2 _ 50 (mvNew (two _ 50) false _ _) = _
    rw [eX50]
    unfold mvNew; rw [if_neg (fun k => absurd k.1 (by decide))]
  have w1 : total (fun i => up2 (up2 (em3 (ckF H f m) h) 34 h.sp) (34 + 2) h.dp (26 + i)) 8 = h.sip / 65536 + h.sip % 65536 + h.dip / 65536 + h.dip % 65536 := by
    rw [total8, two_far (by omega), two_far (by omega), two_far (by omega), two_far (by omega), two_far (by omega), two_far (by omega), two_far (by omega), two_far (by omega), t1, t2, u1, u2]
  have w2 : total (fun i => up2 (up2 (em3 (ckF H f m) h) 34 h.sp) (34 + 2) h.dp (34 + i)) (38 + m - 34) = total (fun i => ckF H f m (34 + i)) (38 + m - 34) + h.sp - two (ckF H f m) 34 + h.dp - two (ckF H f m) 36 := by
    have k1 := shift_up2 (f := up2 (em3 (ckF H f m) h) 34 h.sp) (c := 34) (off := 2 * 1) (x := h.dp)
    have k2 := shift_up2 (f := em3 (ckF H f m) h) (c := 34) (off := 2 * 0) (x := h.sp)
    have k2' : (fun i => up2 (em3 (ckF H f m) h) 34 h.sp (34 + i)) = up2 (fun i => em3 (ckF H f m) h (34 + i)) (2 * 0) h.sp := k2
    have k1' : (fun i => up2 (up2 (em3 (ckF H f m) h) 34 h.sp) (34 + 2) h.dp (34 + i)) = up2 (fun i => up2 (em3 (ckF H f m) h) 34 h.sp (34 + i)) (2 * 1) h.dp := k1
    rw [k1', k2', total_up2 (by omega), total_up2 (by omega), two_far (by omega)]
    have a0 : two (fun i => em3 (ckF H f m) h (34 + i)) (2 * 0) = two (ckF H f m) 34 := by show two (em3 (ckF H f m) h) 34 = _; unfold two; rw [far _ (by omega), far _ (by omega)]
    have a1 : two (fun i => em3 (ckF H f m) h (34 + i)) (2 * 1) = two (ckF H f m) 36 := by show two (em3 (ckF H f m) h) 36 = _; unfold two; rw [far _ (by omega), far _ (by omega)]
    have a2 : total (fun i => em3 (ckF H f m) h (34 + i)) (38 + m - 34) = total (fun i => ckF H f m (34 + i)) (38 + m - 34) := total_congr' fun i _ => far _ (by omega)
    rw [a0, a1, a2]
  have wF := total8 (ckF H f m)
  have hq : whl (ckF H f m) (38 + m) = two (ckF H f m) 26 + two (ckF H f m) 28 + two (ckF H f m) 30 + two (ckF H f m) 32 + 6 + (((38 + m : Nat) : Int) - 34) + total (fun i => ckF H f m (34 + i)) (38 + m - 34) := by unfold whl; rw [wF]
  rw [eF, whl_up50 (by omega), eX50]
  unfold whl
  rw [w1, w2]
  have hM := mvSum_eq (two (ckF H f m) 50) (prHd 0 (ckF H f m)) h
  have tt := total_le (hb.sub 34) (38 + m - 34)
  have t50 := two_le hb 50
  have t34 := two_le hb 34
  have t36 := two_le hb 36
  have q1 := two_le hb 26
  have q2 := two_le hb 28
  have q3 := two_le hb 30
  have q4 := two_le hb 32
  have hi := hh.sip
  have hd := hh.dip
  rw [hq] at hx
  rw [← s1, ← s2, ← d1, ← d2, p1, p2] at hM
  rw [hM]
  have h3 := three_le (hb.sub 34) (n := 38 + m - 34) (by omega)
  exact ck_arith q1 q2 q3 q4 t34 t36 t50 (by omega) (by omega) (by omega) hsp.1 hdp.1 h3 hx
theorem to_In {W G : Hd} (hW : W.In) (hG : G.In) : (W.to G).In := ⟨hW.port, hW.ty, hW.proto, hG.sp, hG.dp, hG.sip, hG.dip, hG.src, hG.dst⟩
theorem ck_may {G : Hd} (hb : Byt (ckF H f m)) (he : prErr 0 (ckF H f m) (38 + m) = 0) (h16 : 16 ≤ m) (hg : G.okB = true) : May (prHd 0 (ckF H f m)) (poN (ckF H f m)) (str (ckF H f m) (38 + m)) ((prHd 0 (ckF H f m)).to G) := by
  obtain ⟨a1, a2, a3, a4, a5⟩ := okB_iff.1 (prHd_okB (port := 0) hb (by omega))
  obtain ⟨b1, b2, b3, b4, b5⟩ := okB_iff.1 hg
  refine ⟨toList_ne (by rw [str_size]; omega), okB_iff.2 ⟨a1, a2, a3, b4, b5⟩, rfl, rfl, .inl ?_, .inl ?_⟩
  · show (prHd 0 (ckF H f m)).ty = 2048
    rw [prHd_ty', ckF_12]
  · rw [ckF_po h16]; omega
end
set_option maxHeartbeats 1000000 in
theorem FrameChecks_x (w : World) (a : Option Addr) (m cap : Nat) (H G : Hd) (hH : H.In) (hG : G.In) (hW : GW w) (h : 300 < m ∨ m < 16 ∨ H.okB = false ∨ G.okB = false) :
    Calls Tryd.prog 4 #[.agg (hdCells H), .agg (hdCells G), .slice a m cap] w fun e w' => e = .returned (.bool true) ∧ Frm (fun _ => False) w w' := by
  refine enter Tryd.func4 rfl Tryd.ntmps4 rfl (St.start (fun _ => False) w) ?_
  refine WC.seq ?_
  refine WC.region ?_
  refine WL.box rfl rfl rfl (.none rfl) rfl rfl ?_
  intro g3 hg3
  refine WL.box rfl rfl rfl (.none rfl) rfl rfl ?_
  intro g4 hg4
  refine WL.val (v_assign rfl rfl) (.none rfl) rfl rfl ?_
  refine WL.nil ?_
  refine WE.then_n ?_
  refine WC.seq ?_
  refine WC.seq ?_
  refine WC.region ?_
  refine WL.call rfl rfl ck_5 (.none rfl) rfl rfl ?_
  intro w hS
  refine Calls.then (headOk_c w) hS ?_
  refine WL.val (v_not rfl rfl rfl) (.none rfl) rfl rfl ?_
  refine WL.nil ?_
  refine WE.then_n ?_
  refine WC.cond_f rfl ?_
  refine WC.skip ?_
  refine WE.then_n ?_
  refine WC.seq ?_
  refine WC.seq ?_
  refine WC.region ?_
  refine WL.val (v_move rfl rfl) (.none rfl) rfl rfl ?_
  refine WL.val (v_len_slice rfl rfl Tryd.underlying22) (.none rfl) rfl rfl ?_
  refine WL.test (v_gtr rfl rfl rfl) (.none rfl) rfl rfl (fun h17 => ?_) (fun h17 => ?_)
  · -- 17T
    refine WL.val (v_move rfl rfl) (.none rfl) rfl rfl ?_
    refine WL.skip rfl rfl rfl rfl rfl rfl ?_
    refine WL.skip rfl rfl rfl rfl rfl rfl ?_
    refine WL.skip rfl rfl rfl rfl rfl rfl ?_
    refine WL.val (v_pick_t rfl rfl rfl) (.none rfl) rfl rfl ?_
    refine WL.val (v_move rfl rfl) (.none rfl) rfl rfl ?_
    refine WL.skip rfl rfl rfl rfl rfl rfl ?_
    refine WL.skip rfl rfl rfl rfl rfl rfl ?_
    refine WL.skip rfl rfl rfl rfl rfl rfl ?_
    refine WL.val (v_pick_t rfl rfl rfl) (.none rfl) rfl rfl ?_
    refine WL.val (v_move rfl rfl) (.none rfl) rfl rfl ?_
    refine WL.skip rfl rfl rfl rfl rfl rfl ?_
    refine WL.skip rfl rfl rfl rfl rfl rfl ?_
    refine WL.skip rfl rfl rfl rfl rfl rfl ?_
    refine WL.val (v_pick_t rfl rfl rfl) (.none rfl) rfl rfl ?_
    refine WL.nil ?_
    refine WE.then_n ?_
    refine WC.cond_t rfl ?_
    refine WC.seq ?_
    refine WC.region ?_
    refine WL.val (v_assign rfl rfl) (.none rfl) rfl rfl ?_
    refine WL.nil ?_
    refine WE.then_n ?_
    refine WC.ret ?_
    refine WE.then_ret ?_
    refine WE.ret1 (P := Tryd.prog) (.inl rfl) Tryd.results4 rfl ?_
    exact fun w' h => ⟨rfl, h.frm⟩
  · -- 17F
    refine WL.val (v_move rfl rfl) (.none rfl) rfl rfl ?_
    refine WL.val (v_move rfl rfl) (.some rfl rfl rfl) rfl rfl ?_
    refine WL.val (v_len_slice rfl rfl Tryd.underlying22) (.some rfl rfl rfl) rfl rfl ?_
    refine WL.test (v_lss rfl rfl rfl) (.some rfl rfl rfl) rfl rfl (fun h21 => ?_) (fun h21 => ?_)
    · -- 21T
      refine WL.val (v_pick_f rfl rfl rfl) (.none rfl) rfl rfl ?_
      refine WL.val (v_move rfl rfl) (.none rfl) rfl rfl ?_
      refine WL.skip rfl rfl rfl rfl rfl rfl ?_
      refine WL.skip rfl rfl rfl rfl rfl rfl ?_
      refine WL.skip rfl rfl rfl rfl rfl rfl ?_
      refine WL.val (v_pick_t rfl rfl rfl) (.none rfl) rfl rfl ?_
      refine WL.val (v_move rfl rfl) (.none rfl) rfl rfl ?_
      refine WL.skip rfl rfl rfl rfl rfl rfl ?_
      refine WL.skip rfl rfl rfl rfl rfl rfl ?_
      refine WL.skip rfl rfl rfl rfl rfl rfl ?_
      refine WL.val (v_pick_t rfl rfl rfl) (.none rfl) rfl rfl ?_
      refine WL.nil ?_
      refine WE.then_n ?_
      refine WC.cond_t rfl ?_
      refine WC.seq ?_
      refine WC.region ?_
      refine WL.val (v_assign rfl rfl) (.none rfl) rfl rfl ?_
      refine WL.nil ?_
      refine WE.then_n ?_
      refine WC.ret ?_
      refine WE.then_ret ?_
      refine WE.ret1 (P := Tryd.prog) (.inl rfl) Tryd.results4 rfl ?_
      exact fun w' h => ⟨rfl, h.frm⟩
    · -- 21F
      refine WL.val (v_pick_f rfl rfl rfl) (.none rfl) rfl rfl ?_
      refine WL.val (v_move rfl rfl) (.none rfl) rfl rfl ?_
      refine WL.val (v_loadN rfl rfl many_28 rfl allAt) (.some rfl rfl rfl) rfl rfl ?_
      refine WL.call rfl rfl ck_8 (.some rfl rfl rfl) rfl rfl ?_
      intro w hS
      refine Calls.then (HCheck_c w H hH (hW.keep (fun h => h) hS)) hS ?_
      refine WL.test (v_neq rfl rfl rfl) (.some rfl rfl rfl) rfl rfl (fun h26 => ?_) (fun h26 => ?_)
      · -- 26T
        refine WL.val (v_pick_f rfl rfl rfl) (.none rfl) rfl rfl ?_
        refine WL.val (v_move rfl rfl) (.none rfl) rfl rfl ?_
        refine WL.skip rfl rfl rfl rfl rfl rfl ?_
        refine WL.skip rfl rfl rfl rfl rfl rfl ?_
        refine WL.skip rfl rfl rfl rfl rfl rfl ?_
        refine WL.val (v_pick_t rfl rfl rfl) (.none rfl) rfl rfl ?_
        refine WL.nil ?_
        refine WE.then_n ?_
        refine WC.cond_t rfl ?_
        refine WC.seq ?_
        refine WC.region ?_
        refine WL.val (v_assign rfl rfl) (.none rfl) rfl rfl ?_
        refine WL.nil ?_
        refine WE.then_n ?_
        refine WC.ret ?_
        refine WE.then_ret ?_
        refine WE.ret1 (P := Tryd.prog) (.inl rfl) Tryd.results4 rfl ?_
        exact fun w' h => ⟨rfl, h.frm⟩
      · -- 26F
        refine WL.val (v_pick_f rfl rfl rfl) (.none rfl) rfl rfl ?_
        refine WL.val (v_move rfl rfl) (.none rfl) rfl rfl ?_
        refine WL.val (v_loadN rfl rfl many_28 rfl allAt) (.some rfl rfl rfl) rfl rfl ?_
        refine WL.call rfl rfl ck_8 (.some rfl rfl rfl) rfl rfl ?_
        intro w hS
        refine Calls.then (HCheck_c w G hG (hW.keep (fun h => h) hS)) hS ?_
        refine WL.val ((v_neq rfl rfl rfl).t (by
        rcases h with h | h | h | h
        · omega
        · omega
        · rw [h] at h26; exact absurd (by decide) h26
        · rw [h]; decide)) (.some rfl rfl rfl) rfl rfl ?_
        refine WL.val (v_pick_f rfl rfl rfl) (.none rfl) rfl rfl ?_
        refine WL.nil ?_
        refine WE.then_n ?_
        refine WC.cond_t rfl ?_
        refine WC.seq ?_
        refine WC.region ?_
        refine WL.val (v_assign rfl rfl) (.none rfl) rfl rfl ?_
        refine WL.nil ?_
        refine WE.then_n ?_
        refine WC.ret ?_
        refine WE.then_ret ?_
        refine WE.ret1 (P := Tryd.prog) (.inl rfl) Tryd.results4 rfl ?_
        exact fun w' h => ⟨rfl, h.frm⟩
set_option maxHeartbeats 2000000 in
theorem FrameChecks_k (w : World) (a : Option Addr) (m cap : Nat) (f : Nat → Int) (H G : Hd) (hr : RdO w a m f) (hf : Byt f) (hH : H.In) (hG : G.In) (hW : GW w) (h16 : 16 ≤ m) (hm : m ≤ 300) (hHo : H.okB = true) (hGo : G.okB = true) :
    Calls Tryd.prog 4 #[.agg (hdCells H), .agg (hdCells G), .slice a m cap] w fun e w' => e = .returned (.bool true) ∧ Frm (fun _ => False) w w' := by
  obtain ⟨a1, a2, a3, a4, a5⟩ := okB_iff.1 hHo
  obtain ⟨b1, b2, b3, b4, b5⟩ := okB_iff.1 hGo
  have hb3 := ip3_byt (m := m) hf hH a4 a5 hm
  have hb4 := ip4_byt (m := m) hf hH a4 a5 hm
  have hb : Byt (ckF H f m) := layF_byt hb4 (by omega)
  have he := ckF_err hb3 h16 hm
  have hwh : fc (whl (ckF H f m) (38 + m)) = 65535 := lay_whl hb4 (by omega)
  have hsum := ckF_sum hb3
  have hM := ck_may hb he h16 hGo
  have hIn := to_In (prHd_In (port := 0) hb (by omega)) hG
  have hty : ((prHd 0 (ckF H f m)).to G).ty = 2048 := by show (prHd 0 (ckF H f m)).ty = 2048; rw [prHd_ty', ckF_12]
  have hob := emF_byt (W := prHd 0 (ckF H f m)) (po := poN (ckF H f m)) (en := prEnd (ckF H f m)) hb hIn (okB_WOk hM.2.1 hIn)
  have hos := emF_sum (W := prHd 0 (ckF H f m)) (po := poN (ckF H f m)) (en := prEnd (ckF H f m)) hb hIn hty (by rw [ckF_po h16, ckF_ih.2]; omega) (by rw [(ckF_c H f m).2.2.1]; rfl) (by rw [ckF_ih.1]; omega)
  rw [ckF_ih.2] at hos
  have how := ck_whl hb hwh h16 hty hIn b4 b5
  refine enter Tryd.func4 rfl Tryd.ntmps4 rfl (St.start (fun _ => False) w) ?_
  refine WC.seq ?_
  refine WC.region ?_
  refine WL.box rfl rfl rfl (.none rfl) rfl rfl ?_
  intro g3 hg3
  refine WL.box rfl rfl rfl (.none rfl) rfl rfl ?_
  intro g4 hg4
  refine WL.val (v_assign rfl rfl) (.none rfl) rfl rfl ?_
  refine WL.nil ?_
  refine WE.then_n ?_
  refine WC.seq ?_
  refine WC.seq ?_
  refine WC.region ?_
  refine WL.call rfl rfl ck_5 (.none rfl) rfl rfl ?_
  intro w hS
  refine Calls.then (headOk_c w) hS ?_
  refine WL.val (v_not rfl rfl rfl) (.none rfl) rfl rfl ?_
  refine WL.nil ?_
  refine WE.then_n ?_
  refine WC.cond_f rfl ?_
  refine WC.skip ?_
  refine WE.then_n ?_
  refine WC.seq ?_
  refine WC.seq ?_
  refine WC.region ?_
  refine WL.val (v_move rfl rfl) (.none rfl) rfl rfl ?_
  refine WL.val (v_len_slice rfl rfl Tryd.underlying22) (.none rfl) rfl rfl ?_
  refine WL.val ((v_gtr rfl rfl rfl).f (by omega)) (.none rfl) rfl rfl ?_
  refine WL.val (v_move rfl rfl) (.none rfl) rfl rfl ?_
  refine WL.val (v_move rfl rfl) (.some rfl rfl rfl) rfl rfl ?_
  refine WL.val (v_len_slice rfl rfl Tryd.underlying22) (.some rfl rfl rfl) rfl rfl ?_
  refine WL.val ((v_lss rfl rfl rfl).f (by omega)) (.some rfl rfl rfl) rfl rfl ?_
  refine WL.val (v_pick_f rfl rfl rfl) (.none rfl) rfl rfl ?_
  refine WL.val (v_move rfl rfl) (.none rfl) rfl rfl ?_
  refine WL.val (v_loadN rfl rfl many_28 rfl allAt) (.some rfl rfl rfl) rfl rfl ?_
  refine WL.call rfl rfl ck_8 (.some rfl rfl rfl) rfl rfl ?_
  intro w hS
  refine Calls.then ((HCheck_c w H hH (hW.keep (fun h => h) hS)).mono fun _ _ ⟨he, hF⟩ => ⟨(by rw [he, if_pos hHo] : _ = Ending.returned (.int .i64 0)), hF⟩) hS ?_
  refine WL.val ((v_neq rfl rfl rfl).f (by omega)) (.some rfl rfl rfl) rfl rfl ?_
  refine WL.val (v_pick_f rfl rfl rfl) (.none rfl) rfl rfl ?_
  refine WL.val (v_move rfl rfl) (.none rfl) rfl rfl ?_
  refine WL.val (v_loadN rfl rfl many_28 rfl allAt) (.some rfl rfl rfl) rfl rfl ?_
  refine WL.call rfl rfl ck_8 (.some rfl rfl rfl) rfl rfl ?_
  intro w hS
  refine Calls.then ((HCheck_c w G hG (hW.keep (fun h => h) hS)).mono fun _ _ ⟨he, hF⟩ => ⟨(by rw [he, if_pos hGo] : _ = Ending.returned (.int .i64 0)), hF⟩) hS ?_
  refine WL.val ((v_neq rfl rfl rfl).f (by omega)) (.some rfl rfl rfl) rfl rfl ?_
  refine WL.val (v_pick_f rfl rfl rfl) (.none rfl) rfl rfl ?_
  refine WL.nil ?_
  refine WE.then_n ?_
  refine WC.cond_f rfl ?_
  refine WC.skip ?_
  refine WE.then_n ?_
  refine WC.seq ?_
  refine WC.region ?_
  refine WL.val (v_fieldAddr0 rfl rfl fld_28_1) (.none rfl) rfl rfl ?_
  refine WL.val (v_loadN rfl rfl many_24 rfl (segAt (m := 6) rfl)) (.none rfl) rfl rfl ?_
  refine WL.val (v_fieldAddr0 rfl rfl fld_28_2) (.none rfl) rfl rfl ?_
  refine WL.val (v_loadN rfl rfl many_24 rfl (segAt (m := 6) rfl)) (.none rfl) rfl rfl ?_
  refine WL.val (v_fieldAddr0 rfl rfl fld_28_4) (.none rfl) rfl rfl ?_
  refine WL.val (v_load1 rfl rfl one_26 (cellAt rfl)) (.none rfl) rfl rfl ?_
  refine WL.val (v_fieldAddr0 rfl rfl fld_28_5) (.none rfl) rfl rfl ?_
  refine WL.val (v_load1 rfl rfl one_26 (cellAt rfl)) (.none rfl) rfl rfl ?_
  refine WL.val (v_fieldAddr0 rfl rfl fld_28_7) (.none rfl) rfl rfl ?_
  refine WL.val (v_load1 rfl rfl one_3 (cellAt rfl)) (.none rfl) rfl rfl ?_
  refine WL.val (v_fieldAddr0 rfl rfl fld_28_8) (.none rfl) rfl rfl ?_
  refine WL.val (v_load1 rfl rfl one_3 (cellAt rfl)) (.none rfl) rfl rfl ?_
  refine WL.val (v_move rfl rfl) (.none rfl) rfl rfl ?_
  refine WL.call rfl rfl ck_9 (.none rfl) rfl rfl ?_
  intro w1 hS
  refine (Ip4_f _ _ w1 _ H a m cap f hS (rdOOld (fun _ h => h) hr) hf hH a4 a5 hm).mono ?_
  rintro e w' ⟨g46, c46, r46, rfl, hc46, hS'⟩
  refine ⟨_, _, rfl, hS', ?_⟩
  refine WL.val (v_assign rfl rfl) (.none rfl) rfl rfl ?_
  refine WL.nil ?_
  refine WE.then_n ?_
  refine WC.seq ?_
  refine WC.region ?_
  refine WL.val (v_move rfl rfl) (.none rfl) rfl rfl ?_
  refine WL.call rfl rfl ck_10 (.none rfl) rfl rfl ?_
  intro w hS
  refine Calls.thenS (lay_f _ _ w _ g46 (38 + m) c46 (ip4 H f m) r46 hS hb4 hc46 (by omega) (by omega)) ?_
  refine WL.as (L' := .row g46 (bcs (ckF H f m) (38 + m) ++ r46) :: .row g4 (hdL G) :: .row g3 (hdL H) :: []) rfl ?_
  refine WL.nil ?_
  refine WE.then_n ?_
  refine WC.seq ?_
  refine WC.region ?_
  refine WL.val (v_move rfl rfl) (.none rfl) rfl rfl ?_
  refine WL.call rfl rfl ck_6 (.none rfl) rfl rfl ?_
  intro w hS
  refine Calls.then (Parse_k w 0 (some ⟨g46, 0, none⟩) (38 + m) c46 (ckF H f m) (rdRow hS) hb hc46 he) hS ?_
  refine WL.val (v_move rfl rfl) (.none rfl) rfl rfl ?_
  refine WL.val (v_extract rfl rfl rfl) (.none rfl) rfl rfl ?_
  refine WL.val (v_extract rfl rfl rfl) (.none rfl) rfl rfl ?_
  refine WL.alloc rfl zero_31 (.none rfl) rfl rfl ?_
  intro g8 hg8
  refine WL.storeW rfl rfl rfl rfl many_31 rfl rfl (.none rfl) rfl ?_
  refine WL.val (v_assign rfl rfl) (.none rfl) rfl rfl ?_
  refine WL.nil ?_
  refine WE.then_n ?_
  refine WC.seq ?_
  refine WC.seq ?_
  refine WC.region ?_
  refine WL.val (v_move rfl rfl) (.none rfl) rfl rfl ?_
  refine WL.val ((v_neq rfl rfl rfl).f (by omega)) (.none rfl) rfl rfl ?_
  refine WL.val (v_move rfl rfl) (.none rfl) rfl rfl ?_
  refine WL.val (v_move rfl rfl) (.some rfl rfl rfl) rfl rfl ?_
  refine WL.call rfl rfl ck_11 (.some rfl rfl rfl) rfl rfl ?_
  intro w hS
  refine Calls.then (right_c w g46 (38 + m) c46 (ckF H f m) (rdRowG hS) hb hc46 (by omega) (by omega) hsum hwh) hS ?_
  refine WL.val (v_not rfl rfl rfl) (.some rfl rfl rfl) rfl rfl ?_
  refine WL.val (v_pick_f rfl rfl rfl) (.none rfl) rfl rfl ?_
  refine WL.nil ?_
  refine WE.then_n ?_
  refine WC.cond_f rfl ?_
  refine WC.skip ?_
  refine WE.then_n ?_
  refine WC.seq ?_
  refine WC.region ?_
  refine WL.val (v_fieldAddr0 rfl rfl fld_31_0) (.none rfl) rfl rfl ?_
  refine WL.val (v_loadN rfl rfl many_28 rfl (segAt (m := 19) rfl)) (.none rfl) rfl rfl ?_
  refine WL.alloc rfl zero_28 (.none rfl) rfl rfl ?_
  intro g10 hg10
  refine WL.storeW rfl rfl rfl rfl many_28 rfl rfl (.none rfl) rfl ?_
  refine WL.nil ?_
  refine WE.then_n ?_
  refine WC.seq ?_
  refine WC.region ?_
  refine WL.val (v_fieldAddr0 rfl rfl fld_28_1) (.none rfl) rfl rfl ?_
  refine WL.val (v_loadN rfl rfl many_24 rfl (segAt (m := 6) rfl)) (.none rfl) rfl rfl ?_
  refine WL.val (v_fieldAddr0 rfl rfl fld_28_1) (.none rfl) rfl rfl ?_
  refine WL.storeN rfl rfl rfl rfl many_24 rfl (by first | exact Nat.le_of_ble_eq_true rfl | simp) (.none rfl) rfl ?_
  refine WL.nil ?_
  refine WE.then_n ?_
  refine WC.seq ?_
  refine WC.region ?_
  refine WL.val (v_fieldAddr0 rfl rfl fld_28_2) (.none rfl) rfl rfl ?_
  refine WL.val (v_loadN rfl rfl many_24 rfl (segAt (m := 6) rfl)) (.none rfl) rfl rfl ?_
  refine WL.val (v_fieldAddr0 rfl rfl fld_28_2) (.none rfl) rfl rfl ?_
  refine WL.storeN rfl rfl rfl rfl many_24 rfl (by first | exact Nat.le_of_ble_eq_true rfl | simp) (.none rfl) rfl ?_
  refine WL.nil ?_
  refine WE.then_n ?_
  refine WC.seq ?_
  refine WC.region ?_
  refine WL.val (v_fieldAddr0 rfl rfl fld_28_4) (.none rfl) rfl rfl ?_
  refine WL.val (v_load1 rfl rfl one_26 (cellAt rfl)) (.none rfl) rfl rfl ?_
  refine WL.val (v_fieldAddr0 rfl rfl fld_28_4) (.none rfl) rfl rfl ?_
  refine WL.store1 rfl rfl rfl rfl one_26 (Nat.le_of_ble_eq_true rfl) (.none rfl) rfl ?_
  refine WL.nil ?_
  refine WE.then_n ?_
  refine WC.seq ?_
  refine WC.region ?_
  refine WL.val (v_fieldAddr0 rfl rfl fld_28_5) (.none rfl) rfl rfl ?_
  refine WL.val (v_load1 rfl rfl one_26 (cellAt rfl)) (.none rfl) rfl rfl ?_
  refine WL.val (v_fieldAddr0 rfl rfl fld_28_5) (.none rfl) rfl rfl ?_
  refine WL.store1 rfl rfl rfl rfl one_26 (Nat.le_of_ble_eq_true rfl) (.none rfl) rfl ?_
  refine WL.nil ?_
  refine WE.then_n ?_
  refine WC.seq ?_
  refine WC.region ?_
  refine WL.val (v_fieldAddr0 rfl rfl fld_28_7) (.none rfl) rfl rfl ?_
  refine WL.val (v_load1 rfl rfl one_3 (cellAt rfl)) (.none rfl) rfl rfl ?_
  refine WL.val (v_fieldAddr0 rfl rfl fld_28_7) (.none rfl) rfl rfl ?_
  refine WL.store1 rfl rfl rfl rfl one_3 (Nat.le_of_ble_eq_true rfl) (.none rfl) rfl ?_
  refine WL.nil ?_
  refine WE.then_n ?_
  refine WC.seq ?_
  refine WC.region ?_
  refine WL.val (v_fieldAddr0 rfl rfl fld_28_8) (.none rfl) rfl rfl ?_
  refine WL.val (v_load1 rfl rfl one_3 (cellAt rfl)) (.none rfl) rfl rfl ?_
  refine WL.val (v_fieldAddr0 rfl rfl fld_28_8) (.none rfl) rfl rfl ?_
  refine WL.store1 rfl rfl rfl rfl one_3 (Nat.le_of_ble_eq_true rfl) (.none rfl) rfl ?_
  refine WL.as (L' := .row g10 (hdL ((prHd 0 (ckF H f m)).to G)) :: .row g8 (pkL (prHd 0 (ckF H f m)) (prHd 0 (ckF H f m)) (str (ckF H f m) (38 + m)) (prPorts (ckF H f m)) (prEnd (ckF H f m))) :: .row g46 (bcs (ckF H f m) (38 + m) ++ r46) :: .row g4 (hdL G) :: .row g3 (hdL H) :: []) rfl ?_
  refine WL.nil ?_
  refine WE.then_n ?_
  refine WC.seq ?_
  refine WC.region ?_
  refine WL.val (v_loadN rfl rfl many_31 rfl allAt) (.none rfl) rfl rfl ?_
  refine WL.val (v_loadN rfl rfl many_28 rfl allAt) (.none rfl) rfl rfl ?_
  refine WL.call rfl rfl ck_7 (.none rfl) rfl rfl ?_
  intro w1 hS
  refine (Emit_p hS (fun h => h) hW hIn hb he hM).mono ?_
  rintro e w' ⟨g84, c84, r84, rfl, hc84, hg84, hS'⟩
  refine ⟨_, _, rfl, hS', ?_⟩
  refine WL.val (v_move rfl rfl) (.none rfl) rfl rfl ?_
  refine WL.val (v_extract rfl rfl rfl) (.none rfl) rfl rfl ?_
  refine WL.val (v_extract rfl rfl rfl) (.none rfl) rfl rfl ?_
  refine WL.val (v_assign rfl rfl) (.none rfl) rfl rfl ?_
  refine WL.val (v_assign rfl rfl) (.none rfl) rfl rfl ?_
  refine WL.nil ?_
  refine WE.then_n ?_
  refine WC.seq ?_
  refine WC.region ?_
  refine WL.val (v_move rfl rfl) (.none rfl) rfl rfl ?_
  refine WL.val ((v_eql rfl rfl rfl).t (by omega)) (.none rfl) rfl rfl ?_
  refine WL.val (v_move rfl rfl) (.none rfl) rfl rfl ?_
  refine WL.val (v_move rfl rfl) (.some rfl rfl rfl) rfl rfl ?_
  refine WL.call rfl rfl ck_11 (.some rfl rfl rfl) rfl rfl ?_
  intro w hS
  refine Calls.then (right_c w g84 (38 + m) c84 _ (rdRowG hS) hob hc84 (by omega) (by omega) hos how) hS ?_
  refine WL.val (v_pick_t rfl rfl rfl) (.none rfl) rfl rfl ?_
  refine WL.val (v_assign rfl rfl) (.none rfl) rfl rfl ?_
  refine WL.nil ?_
  refine WE.then_n ?_
  refine WC.ret ?_
  refine WE.ret1 (P := Tryd.prog) (.inl rfl) Tryd.results4 rfl ?_
  exact fun w' h => ⟨rfl, h.frm⟩
theorem FrameChecks_all (w : World) (a : Option Addr) (m cap : Nat) (f : Nat → Int) (H G : Hd) (hr : RdO w a m f) (hf : Byt f) (hH : H.In) (hG : G.In) (hW : GW w) :
    Calls Tryd.prog 4 #[.agg (hdCells H), .agg (hdCells G), .slice a m cap] w fun e w' => e = .returned (.bool true) ∧ Frm (fun _ => False) w w' := by
  by_cases h : 300 < m ∨ m < 16 ∨ H.okB = false ∨ G.okB = false
  · exact FrameChecks_x w a m cap H G hH hG hW h
  · exact FrameChecks_k w a m cap f H G hr hf hH hG hW (by omega) (by omega) (by cases hk : H.okB <;> simp_all) (by cases hk : G.okB <;> simp_all)
end Go.Proofs.YtpjjlggonpbegaaDoor
