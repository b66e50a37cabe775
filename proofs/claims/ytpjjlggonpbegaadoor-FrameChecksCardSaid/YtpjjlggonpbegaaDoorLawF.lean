/- A frame emitted with its own header: its own bytes, but for a check that means the same. -/
import Derived.Test.YtpjjlggonpbegaaDoorLawE
namespace Go.Proofs.YtpjjlggonpbegaaDoor
open Go.RowKit

theorem up2_id {f : Nat → Int} (hf : Byt f) (off : Nat) : up2 f off (two f off) = f := by
  funext i
  have h1 := hf (off + 1)
  unfold up2 two
  split
  · rename_i e; subst e; omega
  · split
    · rename_i e; subst e; omega
    · rfl
theorem up4_id {f : Nat → Int} (hf : Byt f) (off : Nat) : up4 f off (four f off) = f := by
  have h2 := two_le hf (off + 2)
  unfold up4
  rw [show four f off / 65536 = two f off by unfold four; omega, show four f off % 65536 = two f (off + 2) by unfold four; omega, up2_id hf, up2_id hf]
theorem up2_up2 {f : Nat → Int} {off : Nat} {x y : Int} : up2 (up2 f off x) off y = up2 f off y := by
  funext i; unfold up2
  split
  · rfl
  · split <;> rfl
theorem up2_own {g : Nat → Int} (hg : Byt g) {off : Nat} {c : Int} (h : c = two g off ∨ (two g off = 65535 ∧ c = 0)) (i : Nat) : up2 g off c i = g i ∨ up2 g off c i = 255 - g i := by
  rcases h with rfl | ⟨h, rfl⟩
  · left; rw [up2_id hg]
  · have h0 := hg off
    have h1 := hg (off + 1)
    unfold two at h
    unfold up2
    split
    · rename_i e; subst e; right; omega
    · split
      · rename_i e; subst e; right; omega
      · left; rfl
section
variable {f : Nat → Int} {port : Int} {n : Nat}
theorem prHd_dst : (prHd port f).dst = f := by
  unfold prHd pkHd; split
  · split <;> rfl
  · rfl
theorem prHd_src : (prHd port f).src = fun i => f (6 + i) := by
  unfold prHd pkHd; split
  · split <;> rfl
  · rfl
theorem prHd_ips (h : two f 12 = 2048) : (prHd port f).sip = four f 26 ∧ (prHd port f).dip = four f 30 := by
  unfold prHd pkHd; rw [if_pos h]
  split <;> exact ⟨rfl, rfl⟩
theorem prHd_pp (h : two f 12 = 2048) (hp : hasPorts f = true) : (prHd port f).sp = two f (14 + ihn f) ∧ (prHd port f).dp = two f (14 + ihn f + 2) := by
  unfold prHd pkHd; rw [if_pos h, if_pos hp]; exact ⟨rfl, rfl⟩
theorem em0_own : em0 f (prHd port f) = f := by
  funext i
  unfold em0 up6
  rw [prHd_src, prHd_dst]
  split
  · show f (6 + (i - 6)) = f i
    rw [show 6 + (i - 6) = i by omega]
  · split
    · rfl
    · rfl
theorem em2_own (hf : Byt f) (h2 : two f 12 = 2048) : em2 f (prHd port f) = up2 f 24 0 := by
  obtain ⟨e1, e2⟩ := prHd_ips (port := port) h2
  unfold em2
  rw [em0_own, e1, e2, up4_id hf, up4_id hf]
/-- The header's check, made anew. -/
def ckN (f : Nat → Int) (W : Hd) : Int := 65535 - fc (hdT f W)
theorem em3_own (hf : Byt f) (h2 : two f 12 = 2048) : em3 f (prHd port f) = up2 f 24 (ckN f (prHd port f)) := by
  have hi2 : ihn (em2 f (prHd port f)) = ihn f := by unfold ihn ihl; rw [em2_14]
  unfold em3 ckN hdT
  rw [hi2, em2_own hf h2, up2_up2]
theorem prHd_In (hf : Byt f) (hp : 0 ≤ port ∧ port ≤ 255) : (prHd port f).In := by
  have t12 := two_le hf 12
  have f26 := four_le hf 26
  have f30 := four_le hf 30
  have b23 := hf 23
  have ta := two_le hf (14 + ihn f)
  have tb := two_le hf (14 + ihn f + 2)
  have hs : Byt (fun i => f (6 + i)) := hf.sub 6
  unfold prHd pkHd ethHd Hd.zero
  split
  · split
    · exact ⟨show -9223372036854775808 ≤ port ∧ port ≤ 9223372036854775807 by omega, show -9223372036854775808 ≤ two f 12 ∧ two f 12 ≤ 9223372036854775807 by omega, show -9223372036854775808 ≤ f 23 ∧ f 23 ≤ 9223372036854775807 by omega, show -9223372036854775808 ≤ two f (14 + ihn f) ∧ two f (14 + ihn f) ≤ 9223372036854775807 by omega, show -9223372036854775808 ≤ two f (14 + ihn f + 2) ∧ two f (14 + ihn f + 2) ≤ 9223372036854775807 by omega, f26, f30, hs, hf⟩
    · exact ⟨show -9223372036854775808 ≤ port ∧ port ≤ 9223372036854775807 by omega, show -9223372036854775808 ≤ two f 12 ∧ two f 12 ≤ 9223372036854775807 by omega, show -9223372036854775808 ≤ f 23 ∧ f 23 ≤ 9223372036854775807 by omega, by show -9223372036854775808 ≤ (0 : Int) ∧ (0 : Int) ≤ 9223372036854775807; omega, by show -9223372036854775808 ≤ (0 : Int) ∧ (0 : Int) ≤ 9223372036854775807; omega, f26, f30, hs, hf⟩
  · exact ⟨show -9223372036854775808 ≤ port ∧ port ≤ 9223372036854775807 by omega, show -9223372036854775808 ≤ two f 12 ∧ two f 12 ≤ 9223372036854775807 by omega, by show -9223372036854775808 ≤ (0 : Int) ∧ (0 : Int) ≤ 9223372036854775807; omega, by show -9223372036854775808 ≤ (0 : Int) ∧ (0 : Int) ≤ 9223372036854775807; omega, by show -9223372036854775808 ≤ (0 : Int) ∧ (0 : Int) ≤ 9223372036854775807; omega, by show 0 ≤ (0 : Int) ∧ (0 : Int) ≤ 4294967295; omega, by show 0 ≤ (0 : Int) ∧ (0 : Int) ≤ 4294967295; omega, hs, hf⟩
theorem emF_own (hf : Byt f) (h1 : prErr port f n = 0) (i : Nat) : emF f (prHd port f) (poN f) (prEnd f) (prHd port f) i = f i ∨ emF f (prHd port f) (poN f) (prEnd f) (prHd port f) i = 255 - f i := by
  have hp := (prErr_n h1).1
  have hIn := prHd_In hf hp
  have ety : (prHd port f).ty = two f 12 := prHd_ty' _ _
  by_cases h2 : two f 12 = 2048
  · have hb := poN_bounds hf h1 h2
    obtain ⟨k1, k2, k3, k4, k5, k6⟩ := pkErr_zero (prErr_ip h1 h2)
    have hT := hdT_pos (h := prHd port f) hf hIn k2 k3
    have hsum := em3_sum (h := prHd port f) hf k3 (two f 24)
    rw [em2_own hf h2, up2_up2, up2_id hf] at hsum
    have t24 := two_le hf 24
    have hck : ckN f (prHd port f) = two f 24 ∨ (two f 24 = 65535 ∧ ckN f (prHd port f) = 0) := fc_again hT t24.1 t24.2 (by rw [← hsum]; exact k6)
    have e3 := em3_own (port := port) hf h2
    have b3 : Byt (em3 f (prHd port f)) := em3_byt hf hIn
    unfold emF
    rw [if_neg (by omega)]
    split
    · rw [e3]; exact up2_own hf hck i
    · rename_i hpo
      have hpo' := hb.resolve_left hpo
      obtain ⟨p1, p2, p3, p4⟩ := hpo'
      obtain ⟨es, ed⟩ := prHd_pp (port := port) h2 p4
      have x1 : two (em3 f (prHd port f)) (poN f) = (prHd port f).sp := by
        rw [es, p3, e3, two_far (by omega)]
      have x2 : two (em3 f (prHd port f)) (poN f + 2) = (prHd port f).dp := by
        rw [ed, p3, e3, two_far (by omega)]
      rw [← x1, up2_id b3, ← x2, up2_id b3]
      have lo : i < 26 → (em3 f (prHd port f) i = f i ∨ em3 f (prHd port f) i = 255 - f i) := fun _ => by rw [e3]; exact up2_own hf hck i
      have hi : ∀ j, 26 ≤ j → em3 f (prHd port f) j = f j := fun j hj => by rw [e3, up2_far (by omega)]
      by_cases h26 : i < 26
      · rw [mvF_lo (by omega)]; exact lo h26
      · have key : ∀ j udp, (udp = true → two (em3 f (prHd port f)) j ≠ 0) → (up2 (em3 f (prHd port f)) j (mvNew (two (em3 f (prHd port f)) j) udp (prHd port f) (prHd port f)) i = f i ∨ up2 (em3 f (prHd port f)) j (mvNew (two (em3 f (prHd port f)) j) udp (prHd port f) (prHd port f)) i = 255 - f i) := fun j udp hu => by
          have tj := two_le b3 j
          have := up2_own b3 (mv_same (W := prHd port f) udp tj.1 tj.2 hu) i
          rwa [hi i (by omega)] at this
        unfold mvF
        split
        · left; exact hi i (by omega)
        · split
          · split
            · left; exact hi i (by omega)
            · rename_i h0; exact key _ true (fun _ => h0)
          · split
            · left; exact hi i (by omega)
            · exact key _ false (fun h => by cases h)
  · rw [emF_other (by omega), em0_own]; exact .inl rfl
theorem prHd_WOk (hf : Byt f) : WOk (prHd port f) := by
  have f26 := four_le hf 26
  have f30 := four_le hf 30
  have ta := two_le hf (14 + ihn f)
  have tb := two_le hf (14 + ihn f + 2)
  intro i hi
  have z : wv (ethHd port f) i = 0 := by
    match i, hi with
    | 0, _ | 1, _ | 2, _ | 3, _ | 4, _ | 5, _ => rfl
  unfold prHd pkHd
  split
  · split
    · match i, hi with
      | 0, _ => show 0 ≤ four f 26 / 65536 ∧ four f 26 / 65536 ≤ 65535; omega
      | 1, _ => show 0 ≤ four f 26 % 65536 ∧ four f 26 % 65536 ≤ 65535; omega
      | 2, _ => show 0 ≤ four f 30 / 65536 ∧ four f 30 / 65536 ≤ 65535; omega
      | 3, _ => show 0 ≤ four f 30 % 65536 ∧ four f 30 % 65536 ≤ 65535; omega
      | 4, _ => exact ta
      | 5, _ => exact tb
    · match i, hi with
      | 0, _ => show 0 ≤ four f 26 / 65536 ∧ four f 26 / 65536 ≤ 65535; omega
      | 1, _ => show 0 ≤ four f 26 % 65536 ∧ four f 26 % 65536 ≤ 65535; omega
      | 2, _ => show 0 ≤ four f 30 / 65536 ∧ four f 30 / 65536 ≤ 65535; omega
      | 3, _ => show 0 ≤ four f 30 % 65536 ∧ four f 30 % 65536 ≤ 65535; omega
      | 4, _ => show 0 ≤ (0 : Int) ∧ (0 : Int) ≤ 65535; omega
      | 5, _ => show 0 ≤ (0 : Int) ∧ (0 : Int) ≤ 65535; omega
  · rw [z]; omega
end
theorem toList_ne {bs : ByteArray} (h : 0 < bs.size) : bs.toList ≠ [] := by
  rw [bytes_toList]
  intro e
  have : bs.data.toList.length = 0 := by rw [e]; rfl
  have h2 : bs.size = bs.data.toList.length := by simp
  omega
theorem fitsB_iff {i : Nat} {x : Int} : fitsB i x = true ↔ 0 ≤ x ∧ x ≤ fullI i := by unfold fitsB; simp
theorem okB_iff {H : Hd} : H.okB = true ↔ (0 ≤ H.port ∧ H.port ≤ 255) ∧ (0 ≤ H.ty ∧ H.ty ≤ 65535) ∧ (0 ≤ H.proto ∧ H.proto ≤ 255) ∧ (0 ≤ H.sp ∧ H.sp ≤ 65535) ∧ (0 ≤ H.dp ∧ H.dp ≤ 65535) := by
  unfold Hd.okB
  simp only [Bool.and_eq_true, fitsB_iff]
  have e0 : fullI 0 = 255 := by decide
  have e3 : fullI 3 = 65535 := by decide
  have e6 : fullI 6 = 255 := by decide
  have e7 : fullI 7 = 65535 := by decide
  have e8 : fullI 8 = 65535 := by decide
  rw [e0, e3, e6, e7, e8]
  constructor
  · rintro ⟨⟨⟨⟨h1, h2⟩, h3⟩, h4⟩, h5⟩; exact ⟨h1, h2, h3, h4, h5⟩
  · rintro ⟨h1, h2, h3, h4, h5⟩; exact ⟨⟨⟨⟨h1, h2⟩, h3⟩, h4⟩, h5⟩
theorem okB_WOk {H : Hd} (h : H.okB = true) (hI : H.In) : WOk H := by
  obtain ⟨_, _, _, h4, h5⟩ := okB_iff.1 h
  have s := hI.sip
  have d := hI.dip
  intro i hi
  match i, hi with
  | 0, _ => show 0 ≤ H.sip / 65536 ∧ H.sip / 65536 ≤ 65535; omega
  | 1, _ => show 0 ≤ H.sip % 65536 ∧ H.sip % 65536 ≤ 65535; omega
  | 2, _ => show 0 ≤ H.dip / 65536 ∧ H.dip / 65536 ≤ 65535; omega
  | 3, _ => show 0 ≤ H.dip % 65536 ∧ H.dip % 65536 ≤ 65535; omega
  | 4, _ => exact h4
  | 5, _ => exact h5
section
variable {f : Nat → Int} {port : Int} {n : Nat}
theorem prHd_okB (hf : Byt f) (hp : 0 ≤ port ∧ port ≤ 255) : (prHd port f).okB = true := by
  have t12 := two_le hf 12
  have b23 := hf 23
  have hw := prHd_WOk (port := port) hf
  have h4 := hw 4 (by decide)
  have h5 := hw 5 (by decide)
  have ep : (prHd port f).port = port := by unfold prHd pkHd; split <;> (try split) <;> rfl
  have ety : (prHd port f).ty = two f 12 := prHd_ty' _ _
  have epr : 0 ≤ (prHd port f).proto ∧ (prHd port f).proto ≤ 255 := by
    unfold prHd pkHd
    split
    · split <;> exact b23
    · show 0 ≤ (0 : Int) ∧ (0 : Int) ≤ 255; omega
  exact okB_iff.2 ⟨by omega, by omega, epr, h4, h5⟩
theorem poN_is {g : Nat → Int} (h : two g 12 = 2048) (hq : hasPorts g = true) : poN g = 14 + ihn g := by unfold poN; rw [if_pos ⟨h, hq⟩]
/-- A frame may have its own header again. -/
theorem May_own (hf : Byt f) (h1 : prErr port f n = 0) : May (prHd port f) (poN f) (str f n) (prHd port f) := by
  have hp := (prErr_n h1).1
  refine ⟨toList_ne (by rw [str_size]; have := (prErr_n h1).2; omega), prHd_okB hf hp, rfl, rfl, ?_, ?_⟩
  · by_cases h2 : two f 12 = 2048
    · left; rw [prHd_ty']; exact h2
    · right; unfold prHd; rw [if_neg h2]; exact ⟨rfl, rfl⟩
  · by_cases h2 : two f 12 = 2048
    · by_cases hq : hasPorts f = true
      · left; unfold poN; rw [if_pos ⟨h2, hq⟩]; omega
      · right; unfold prHd pkHd; rw [if_pos h2, if_neg hq]; exact ⟨rfl, rfl⟩
    · right; unfold prHd; rw [if_neg h2]; exact ⟨rfl, rfl⟩
/-- What was emitted may have the first header again. -/
theorem May_back {h : Hd} {port0 : Int} {raw : ByteArray} (hf : Byt f) (h1 : prErr port0 f n = 0) (hm : May (prHd port0 f) (poN f) raw h) :
    May (prHd port (emF f (prHd port0 f) (poN f) (prEnd f) h)) (poN (emF f (prHd port0 f) (poN f) (prEnd f) h)) (str (emF f (prHd port0 f) (poN f) (prEnd f) h) n) (prHd port0 f) := by
  have hd := emF_hd (port := port) hf h1 hm
  have hp := (prErr_n h1).1
  have hn := (prErr_n h1).2
  obtain ⟨m1, m2, m3, m4, m5, m6⟩ := hm
  have g : ∀ i : Nat, (hdL (prHd port (emF f (prHd port0 f) (poN f) (prEnd f) h)))[i]? = (hdL (h.at port))[i]? := fun i => by rw [hd]
  have g13 : (prHd port (emF f (prHd port0 f) (poN f) (prEnd f) h)).ty = h.ty := by
    have := g 13
    simp only [hdL, List.getElem?_cons_succ, List.getElem?_cons_zero, Option.some.injEq, Value.int.injEq, true_and] at this
    exact this
  have g16 : (prHd port (emF f (prHd port0 f) (poN f) (prEnd f) h)).proto = h.proto := by
    have := g 16
    simp only [hdL, List.getElem?_cons_succ, List.getElem?_cons_zero, Option.some.injEq, Value.int.injEq, true_and] at this
    exact this
  obtain ⟨o1, o2, o3, o4, o5, o6⟩ := May_own hf h1
  refine ⟨toList_ne (by rw [str_size]; omega), o2, by rw [g13, m3], by rw [g16, m4], o5, ?_⟩
  rcases o6 with o6 | o6
  · left
    have h2 : two f 12 = 2048 := Classical.byContradiction fun k => o6 (by unfold poN; rw [if_neg (fun q => k q.1)]; rfl)
    have hty' : h.ty = 2048 := by rw [m3, prHd_ty']; exact h2
    have hb := poN_bounds hf h1 h2
    have hpo : poN f = 0 ∨ 34 ≤ poN f := by omega
    have hq : hasPorts f = true := Classical.byContradiction fun k => o6 (by unfold poN; rw [if_neg (fun q => k q.2)]; rfl)
    have e : poN (emF f (prHd port0 f) (poN f) (prEnd f) h) = poN f := by
      rw [poN_is (by rw [two_emF hty' hpo (by omega) (by omega)]; exact h2) (by rw [emF_ports hty' hpo]; exact hq), (emF_ihn hty' hpo).2, poN_is h2 hq]
    rw [e]; exact o6
  · exact .inr o6
end
end Go.Proofs.YtpjjlggonpbegaaDoor
