/- Texts joined: engine, contracts and laws, in the order in which they build. -/
import Derived.Test.YtkeonnnhogaggaaGreatDoorBcFabricDrops
/- A frame emitted with its own header: its own bytes, but for a check that means the same. -/
namespace Go.Proofs.YtkeonnnhogaggaaGreatDoor
open Go.RowKit

section
variable {f : Nat → Int} {port : Int} {n : Nat}
theorem prHd_In (hf : Byt f) (hp : 0 ≤ port ∧ port ≤ 255) : (prHd port f).In := by
  have t12 := two_le hf 12
  have f26 := four_le hf 26
  have f30 := four_le hf 30
  have b23 := hf 23
  have ta := two_le hf (14 + ihn f)
  have tb := two_le hf (14 + ihn f + 2)
  have hs : Byt (fun i => f (6 + i)) := hf.sub 6
  unfold prHd pkHd ethHd Hd.zero
  split
  · split
    · exact ⟨show -9223372036854775808 ≤ port ∧ port ≤ 9223372036854775807 by omega, show -9223372036854775808 ≤ two f 12 ∧ two f 12 ≤ 9223372036854775807 by omega, show -9223372036854775808 ≤ f 23 ∧ f 23 ≤ 9223372036854775807 by omega, show -9223372036854775808 ≤ two f (14 + ihn f) ∧ two f (14 + ihn f) ≤ 9223372036854775807 by omega, show -9223372036854775808 ≤ two f (14 + ihn f + 2) ∧ two f (14 + ihn f + 2) ≤ 9223372036854775807 by omega, f26, f30, hs, hf⟩
    · exact ⟨show -9223372036854775808 ≤ port ∧ port ≤ 9223372036854775807 by omega, show -9223372036854775808 ≤ two f 12 ∧ two f 12 ≤ 9223372036854775807 by omega, show -9223372036854775808 ≤ f 23 ∧ f 23 ≤ 9223372036854775807 by omega, by show -9223372036854775808 ≤ (0 : Int) ∧ (0 : Int) ≤ 9223372036854775807; omega, by show -9223372036854775808 ≤ (0 : Int) ∧ (0 : Int) ≤ 9223372036854775807; omega, f26, f30, hs, hf⟩
  · exact ⟨show -9223372036854775808 ≤ port ∧ port ≤ 9223372036854775807 by omega, show -9223372036854775808 ≤ two f 12 ∧ two f 12 ≤ 9223372036854775807 by omega, by show -9223372036854775808 ≤ (0 : Int) ∧ (0 : Int) ≤ 9223372036854775807; omega, by show -9223372036854775808 ≤ (0 : Int) ∧ (0 : Int) ≤ 9223372036854775807; omega, by show -9223372036854775808 ≤ (0 : Int) ∧ (0 : Int) ≤ 9223372036854775807; omega, by show 0 ≤ (0 : Int) ∧ (0 : Int) ≤ 4294967295; omega, by show 0 ≤ (0 : Int) ∧ (0 : Int) ≤ 4294967295; omega, hs, hf⟩
theorem prHd_WOk (hf : Byt f) : WOk (prHd port f) := by
  have f26 := four_le hf 26
  have f30 := four_le hf 30
  have ta := two_le hf (14 + ihn f)
  have tb := two_le hf (14 + ihn f + 2)
  intro i hi
  have z : wv (ethHd port f) i = 0 := by
    match i, hi with
    | 0, _ | 1, _ | 2, _ | 3, _ | 4, _ | 5, _ => rfl
  unfold prHd pkHd
  split
  · split
    · match i, hi with
      | 0, _ => show 0 ≤ four f 26 / 65536 ∧ four f 26 / 65536 ≤ 65535; omega
      | 1, _ => show 0 ≤ four f 26 % 65536 ∧ four f 26 % 65536 ≤ 65535; omega
      | 2, _ => show 0 ≤ four f 30 / 65536 ∧ four f 30 / 65536 ≤ 65535; omega
      | 3, _ => show 0 ≤ four f 30 % 65536 ∧ four f 30 % 65536 ≤ 65535; omega
      | 4, _ => exact ta
      | 5, _ => exact tb
    · match i, hi with
      | 0, _ => show 0 ≤ four f 26 / 65536 ∧ four f 26 / 65536 ≤ 65535; omega
      | 1, _ => show 0 ≤ four f 26 % 65536 ∧ four f 26 % 65536 ≤ 65535; omega
      | 2, _ => show 0 ≤ four f 30 / 65536 ∧ four f 30 / 65536 ≤ 65535; omega
      | 3, _ => show 0 ≤ four f 30 % 65536 ∧ four f 30 % 65536 ≤ 65535; omega
      | 4, _ => show 0 ≤ (0 : Int) ∧ (0 : Int) ≤ 65535; omega
      | 5, _ => show 0 ≤ (0 : Int) ∧ (0 : Int) ≤ 65535; omega
  · rw [z]; omega
end
theorem toList_ne {bs : ByteArray} (h : 0 < bs.size) : bs.toList ≠ [] := by
  rw [bytes_toList]
  intro e
  have : bs.data.toList.length = 0 := by rw [e]; rfl
  have h2 : bs.size = bs.data.toList.length := by simp
  omega
theorem fitsB_iff {i : Nat} {x : Int} : fitsB i x = true ↔ 0 ≤ x ∧ x ≤ fullI i := by unfold fitsB; simp
theorem okB_iff {H : Hd} : H.okB = true ↔ (0 ≤ H.port ∧ H.port ≤ 255) ∧ (0 ≤ H.ty ∧ H.ty ≤ 65535) ∧ (0 ≤ H.proto ∧ H.proto ≤ 255) ∧ (0 ≤ H.sp ∧ H.sp ≤ 65535) ∧ (0 ≤ H.dp ∧ H.dp ≤ 65535) := by
  unfold Hd.okB
  simp only [Bool.and_eq_true, fitsB_iff]
  have e0 : fullI 0 = 255 := by decide
  have e3 : fullI 3 = 65535 := by decide
  have e6 : fullI 6 = 255 := by decide
  have e7 : fullI 7 = 65535 := by decide
  have e8 : fullI 8 = 65535 := by decide
  rw [e0, e3, e6, e7, e8]
  constructor
  · rintro ⟨⟨⟨⟨h1, h2⟩, h3⟩, h4⟩, h5⟩; exact ⟨h1, h2, h3, h4, h5⟩
  · rintro ⟨h1, h2, h3, h4, h5⟩; exact ⟨⟨⟨⟨h1, h2⟩, h3⟩, h4⟩, h5⟩
theorem okB_WOk {H : Hd} (h : H.okB = true) (hI : H.In) : WOk H := by
  obtain ⟨_, _, _, h4, h5⟩ := okB_iff.1 h
  have s := hI.sip
  have d := hI.dip
  intro i hi
  match i, hi with
  | 0, _ => show 0 ≤ H.sip / 65536 ∧ H.sip / 65536 ≤ 65535; omega
  | 1, _ => show 0 ≤ H.sip % 65536 ∧ H.sip % 65536 ≤ 65535; omega
  | 2, _ => show 0 ≤ H.dip / 65536 ∧ H.dip / 65536 ≤ 65535; omega
  | 3, _ => show 0 ≤ H.dip % 65536 ∧ H.dip % 65536 ≤ 65535; omega
  | 4, _ => exact h4
  | 5, _ => exact h5
section
variable {f : Nat → Int} {port : Int} {n : Nat}
theorem prHd_okB (hf : Byt f) (hp : 0 ≤ port ∧ port ≤ 255) : (prHd port f).okB = true := by
  have t12 := two_le hf 12
  have b23 := hf 23
  have hw := prHd_WOk (port := port) hf
  have h4 := hw 4 (by decide)
  have h5 := hw 5 (by decide)
  have ep : (prHd port f).port = port := by unfold prHd pkHd; split <;> (try split) <;> rfl
  have ety : (prHd port f).ty = two f 12 := prHd_ty' _ _
  have epr : 0 ≤ (prHd port f).proto ∧ (prHd port f).proto ≤ 255 := by
    unfold prHd pkHd
    split
    · split <;> exact b23
    · show 0 ≤ (0 : Int) ∧ (0 : Int) ≤ 255; omega
  exact okB_iff.2 ⟨by omega, by omega, epr, h4, h5⟩
end
end Go.Proofs.YtkeonnnhogaggaaGreatDoor
/- carrefourlaw05.headOk. -/
namespace Go.Proofs.YtkeonnnhogaggaaGreatDoor
open Go.RowKit

/-- Fourteen bytes of which the last two are told. -/
def hk (x y : Int) (i : Nat) : Int := if i = 12 then x else if i = 13 then y else 0
end Go.Proofs.YtkeonnnhogaggaaGreatDoor
/- carrefourlaw05.FrameBack. -/
namespace Go.Proofs.YtkeonnnhogaggaaGreatDoor
open Go.RowKit

theorem mvF_byt {e : Nat → Int} {W h : Hd} {po : Nat} {en : Int} (he : Byt e) : Byt (mvF e W h po en) := by
  have key : ∀ old udp, 0 ≤ mvSum old W h → 0 ≤ mvNew old udp W h ∧ mvNew old udp W h ≤ 65535 := fun old udp hs => by
    have := fc_le (mvSum old W h) hs
    unfold mvNew; split <;> omega
  unfold mvF
  split
  · exact he
  · split
    · split
      · exact he
      · by_cases hs : 0 ≤ mvSum (two e (po + 6)) W h
        · exact up2_byt he _ (key _ _ hs).1 (key _ _ hs).2
        · have hfc : 0 ≤ fc (mvSum (two e (po + 6)) W h) ∧ fc (mvSum (two e (po + 6)) W h) ≤ 65535 := by unfold fc; split <;> omega
          exact up2_byt he _ (by unfold mvNew; split <;> omega) (by unfold mvNew; split <;> omega)
    · split
      · exact he
      · have hfc : 0 ≤ fc (mvSum (two e (po + 16)) W h) ∧ fc (mvSum (two e (po + 16)) W h) ≤ 65535 := by unfold fc; split <;> omega
        exact up2_byt he _ (by unfold mvNew; split <;> omega) (by unfold mvNew; split <;> omega)
theorem emF_byt {f : Nat → Int} {W h : Hd} {po : Nat} {en : Int} (hf : Byt f) (hh : h.In) (hho : WOk h) : Byt (emF f W po en h) := by
  have h4 := hho 4 (by decide)
  have h5 := hho 5 (by decide)
  unfold emF
  split
  · exact em0_byt hf hh
  · split
    · exact em3_byt hf hh
    · exact mvF_byt (up2_byt (up2_byt (em3_byt hf hh) _ h4.1 h4.2) _ h5.1 h5.2)
/-- Emit of a frame that was parsed. -/
theorem Emit_pm {p : Nat → Prop} {w0 w : World} {L : List Ent} {H h : Hd} {f : Nat → Int} {n : Nat} {port : Int} (hS : St p w0 w L) (hp : ¬ p 1) (hG : GW w0) (hh : h.In) (hf : Byt f) (h1 : prErr port f n = 0) (hm : May (prHd port f) (poN f) (str f n) h) :
    Calls Tryz.prog 26 #[packV H (prHd port f) (str f n) (prPorts f) (prEnd f), .agg (hdCells h)] w fun e w' => ∃ g c r, e = .returned (.tuple #[.slice (some ⟨g, 0, none⟩) n c, .int .i64 0]) ∧ n ≤ c ∧ (w0.heap.size ≤ g ∧ n + r.length = c) ∧ St p w0 w' (.row g (bcs (emF f (prHd port f) (poN f) (prEnd f) h) n ++ r) :: L) := by
  obtain ⟨hpt, h14, hn⟩ := prErr_n h1
  have e1 : h.ty = two f 12 := hm.2.2.1.trans (prHd_ty' _ _)
  rw [poN_eq hf]
  refine Emit_m p w0 w L H _ h f n (poN f) _ hS (fun w hS => hG.keep hp hS) hh hm hf h14 (by omega) ?_ ?_ ?_ (prHd_In hf hpt) (prHd_WOk hf) (okB_WOk hm.2.1 hh)
  · intro h2
    obtain ⟨k1, k2, k3, k4, k5, k6⟩ := pkErr_zero (prErr_ip h1 (by omega))
    have := ihn_eq hf
    omega
  · intro h2
    have := poN_bounds hf h1 (by omega)
    omega
  · intro h2
    obtain ⟨k1, k2, k3, k4, k5, k6⟩ := pkErr_zero (prErr_ip h1 (by omega))
    have : prEnd f = 14 + two f 16 := by unfold prEnd; rw [if_pos (by omega)]
    omega
theorem rdRow {p : Nat → Prop} {w0 w : World} {L : List Ent} {g n : Nat} {f : Nat → Int} {r : List Value} [At L g (bcs f n ++ r)] (hS : St p w0 w L) : RdO w (some ⟨g, 0, none⟩) n f :=
  fun _ => ⟨g, 0, rfl, rdAt (g := g) (n := n) (f := f) (off := 0) (cs := bcs f n ++ r) (fun i hi => by rw [bget2 (f := f) (m := n) (o := 0) (j := i) (r := r) (by omega), Nat.zero_add]) w hS⟩
end Go.Proofs.YtkeonnnhogaggaaGreatDoor
/- fabric.Switch.Put, walked. -/
namespace Go.Proofs.YtkeonnnhogaggaaGreatDoor
open Go.RowKit Go.Sort

structure SwL where
  gT : Nat
  in_ : Int
  out : Int
  wrong : Int
  nought : Int
  ports : Int
def SwL.cells (s : SwL) : List Value := [.pointer (some ⟨s.gT, 0, none⟩), .int .i64 s.in_, .int .i64 s.out, .int .i64 s.wrong, .int .i64 s.nought, .int .i64 s.ports]
/-- A table that can be read. -/
structure TabR (w : World) (gT : Nat) (t : TbL) : Prop where
  cell : w.cell? ⟨gT, 1, none⟩ = some (.slice t.ad t.es.length t.c)
  rg : Rg w t.ad (ensL t.es)
  ok : ∀ x ∈ t.es, RuOk w x.r
/-- May a header go out there? -/
def GoesO (ports port : Int) (f : Nat → Int) (n : Nat) (h : Hd) : Prop := h.port < ports ∧ h.port ≠ port ∧ May (prHd port f) (poN f) (str f n) h
def outF (port : Int) (f : Nat → Int) (n : Nat) (h : Hd) : OutD := ⟨h.port, bl (emF f (prHd port f) (poN f) (prEnd f) h) n⟩
/-- What Put answers, and the switch behind it. -/
structure PutP (sw : SwL) (es : List EnL) (port : Int) (f : Nat → Int) (n : Nat) (code : Int) (os : List OutD) (sw' : SwL) : Prop where
  bad : ¬ (0 ≤ port ∧ port < sw.ports) → code = 1 ∧ os = [] ∧ sw' = sw
  err : 0 ≤ port ∧ port < sw.ports → prErr port f n ≠ 0 → code = prErr port f n ∧ os = [] ∧ sw' = { sw with in_ := sw.in_ + 1, wrong := sw.wrong + 1 }
  ok : 0 ≤ port ∧ port < sw.ports → prErr port f n = 0 → code = 0 ∧ (os.Pairwise fun a b => ocmp a b < 0) ∧ os.length ≤ 64 ∧ (∃ hs, TRunP es (prHd port f) hs ∧ (∀ x ∈ hs, x.Rt) ∧ ∀ o, o ∈ os ↔ ∃ h ∈ hs, GoesO sw.ports port f n h ∧ o = outF port f n h) ∧
    sw' = { sw with in_ := sw.in_ + 1, out := sw.out + os.length, nought := if os = [] then sw.nought + 1 else sw.nought }
structure SwL.Ok (s : SwL) : Prop where
  in_ : 0 ≤ s.in_ ∧ s.in_ ≤ 1000000000
  out : 0 ≤ s.out ∧ s.out ≤ 1000000000
  wrong : 0 ≤ s.wrong ∧ s.wrong ≤ 1000000000
  nought : 0 ≤ s.nought ∧ s.nought ≤ 1000000000
  ports : 1 ≤ s.ports ∧ s.ports ≤ 16
theorem b8s_bl (f : Nat → Int) (n : Nat) : b8s (bl f n) = bcs f n := by unfold b8s bl bcs; rw [List.map_map]; rfl
theorem byb_bl {f : Nat → Int} (hf : Byt f) (n : Nat) : Byb (bl f n) := fun b hb => by
  obtain ⟨i, _, rfl⟩ := List.mem_map.1 hb
  exact hf i
/-- What Emit hands back, whichever it is. -/
theorem Emit_q {p : Nat → Prop} {w0 w : World} {L : List Ent} {h : Hd} {f : Nat → Int} {n : Nat} {port : Int} (hS : St p w0 w L) (hp : ¬ p 1) (hG : GW w0) (hh : h.Rt) (hf : Byt f) (h1 : prErr port f n = 0) :
    Calls Tryz.prog 26 #[packV (prHd port f) (prHd port f) (str f n) (prPorts f) (prEnd f), .agg (hdCells h)] w fun e w' => ∃ (o : Option Addr) (bs : List Int) (c : Nat) (code : Int) (E : List Ent), e = .returned (.tuple #[.slice o bs.length c, .int .i64 code]) ∧
      (code = 0 → May (prHd port f) (poN f) (str f n) h ∧ bs = bl (emF f (prHd port f) (poN f) (prEnd f) h) n) ∧ (code ≠ 0 → ¬ May (prHd port f) (poN f) (str f n) h) ∧ Vec 1 o bs.length c (b8s bs) E ∧ Byb bs ∧ St p w0 w' (E ++ L) := by
  by_cases hm : May (prHd port f) (poN f) (str f n) h
  · refine (Emit_pm hS hp hG hh.isIn hf h1 hm).mono ?_
    rintro e w' ⟨g, c, r, rfl, hc, ⟨_, hrl⟩, hS'⟩
    have hl := bl_len (emF f (prHd port f) (poN f) (prEnd f) h) n
    refine ⟨some ⟨g, 0, none⟩, bl (emF f (prHd port f) (poN f) (prEnd f) h) n, c, 0, [.row g (bcs (emF f (prHd port f) (poN f) (prEnd f) h) n ++ r)], by rw [hl], fun _ => ⟨hm, rfl⟩, fun k => absurd rfl k, ?_, byb_bl (emF_byt hf hh.isIn (okB_WOk hh.ok hh.isIn)) n, hS'⟩
    rw [hl, b8s_bl]
    exact Vec.row (by rw [Nat.mul_one, List.take_append_of_le_length (by rw [bcs_len]; omega), List.take_of_length_le (by rw [bcs_len]; omega)]) (by rw [List.length_append, bcs_len]; omega) hc
  · refine (Emit_x w (prHd port f) (prHd port f) h (str f n) (prPorts f) (prEnd f) hh.isIn (hG.keep hp hS) (by rw [poN_eq hf]; exact hm)).mono ?_
    rintro e w' ⟨rfl, hF⟩
    exact ⟨none, [], 0, 1, [], rfl, fun e => (by cases e), fun _ => hm, Vec.nil 1, fun b hb => (by cases hb), hS.ext hF⟩
theorem uq_map {α β : Type} {f : α → β} {e : β → β → Bool} : ∀ (l : List α) (p : α), (uq (fun a b => e (f a) (f b)) p l).map f = uq e (f p) (l.map f)
  | [], _ => rfl
  | x :: l, p => by
    show (if e (f x) (f p) then uq (fun a b => e (f a) (f b)) x l else x :: uq (fun a b => e (f a) (f b)) x l).map f = if e (f x) (f p) then uq e (f x) (l.map f) else f x :: uq e (f x) (l.map f)
    split
    · exact uq_map l x
    · rw [List.map_cons, uq_map l x]
theorem uniq_map {α β : Type} {f : α → β} {e : β → β → Bool} (l : List α) : (uniq (fun a b => e (f a) (f b)) l).map f = uniq e (l.map f) := by
  cases l with
  | nil => rfl
  | cons x l => show f x :: _ = f x :: _; rw [uq_map]
instance (K : List Ent) : Inhabited { o : OutL // OutOwn K o } := ⟨⟨⟨0, none, 0, []⟩, ⟨[], Vec.nil 1, fun _ h => (by cases h)⟩, fun _ h => (by cases h)⟩⟩
theorem Vec.srcR {s k c : Nat} {ad : Option Addr} {xs : List Value} {E L : List Ent} (hV : Vec s ad k c xs E) (hm : ∀ e ∈ E, e ∈ L) : 0 < xs.length → ∃ b o, ad = some ⟨b, o, none⟩ ∧ ∀ (p : Nat → Prop) (w0 w : World), St p w0 w L → w.rangeAt b o xs := fun hn => by
  rcases hV with ⟨_, _, _, rfl, _⟩ | ⟨g, cs, rfl, rfl, hx, hcl, hk⟩
  · simp at hn
  · refine ⟨g, 0, rfl, fun p w0 w hS j v hj => ?_⟩
    have hR : Row w g cs := hS.holds (.row g cs) (hm _ (List.mem_cons_self ..))
    rw [← hx, List.getElem?_take] at hj
    split at hj
    · rw [Nat.zero_add]; exact hR.cell hj
    · cases hj
structure PuS where
  k : Nat
  os : List OutL
  ad : Option Addr
  c : Nat
  E : List Ent
  K : List Ent
/-- One header more that goes out. -/
theorem goes_more {ports port : Int} {f : Nat → Int} {n k : Nat} {hs : List Hd} {h : Hd} {os : List OutL} {o : OutL} (hh : hs[k]? = some h) (hM : ∀ o, o ∈ os.map OutL.d ↔ ∃ h ∈ hs.take k, GoesO ports port f n h ∧ o = outF port f n h) (hg : GoesO ports port f n h) (ho : o.d = outF port f n h) :
    ∀ u, u ∈ (os ++ [o]).map OutL.d ↔ ∃ h ∈ hs.take (k + 1), GoesO ports port f n h ∧ u = outF port f n h := fun u => by
  rw [List.map_append, List.mem_append, hM u, List.take_add_one, hh, Option.toList_some]
  constructor
  · rintro (⟨x, h1, h2⟩ | h1)
    · exact ⟨x, List.mem_append_left _ h1, h2⟩
    · rw [List.map_cons, List.map_nil, List.mem_singleton, ho] at h1
      exact ⟨h, List.mem_append_right _ (List.mem_singleton.2 rfl), hg, h1⟩
  · rintro ⟨x, h1, h2, h3⟩
    rcases List.mem_append.1 h1 with h1 | h1
    · exact .inl ⟨x, h1, h2, h3⟩
    · rw [List.mem_singleton] at h1
      subst h1
      exact .inr (by rw [List.map_cons, List.map_nil, List.mem_singleton, ho]; exact h3)
theorem goes_no {ports port : Int} {f : Nat → Int} {n k : Nat} {hs : List Hd} {h : Hd} {os : List OutD} (hh : hs[k]? = some h) (hM : ∀ o, o ∈ os ↔ ∃ h ∈ hs.take k, GoesO ports port f n h ∧ o = outF port f n h) (hg : ¬ GoesO ports port f n h) :
    ∀ u, u ∈ os ↔ ∃ h ∈ hs.take (k + 1), GoesO ports port f n h ∧ u = outF port f n h := fun u => by
  rw [hM u, List.take_add_one, hh, Option.toList_some]
  constructor
  · rintro ⟨x, h1, h2⟩
    exact ⟨x, List.mem_append_left _ h1, h2⟩
  · rintro ⟨x, h1, h2, h3⟩
    rcases List.mem_append.1 h1 with h1 | h1
    · exact ⟨x, h1, h2, h3⟩
    · rw [List.mem_singleton] at h1
      subst h1
      exact absurd h2 hg
/-- What is left of the outs, sorted and thinned. -/
theorem outs_of {os ys : List OutL} (hp : ys.Perm os) (ha : ys.Pairwise fun a b => ocmp a.d b.d ≤ 0) : (((uniq (fun a b : OutL => decide (ocmp a.d b.d = 0)) ys).map OutL.d).Pairwise fun a b => ocmp a b < 0) ∧ ∀ o, o ∈ (uniq (fun a b : OutL => decide (ocmp a.d b.d = 0)) ys).map OutL.d ↔ o ∈ os.map OutL.d := by
  have e := uniq_map (f := OutL.d) (e := fun a b => decide (ocmp a b = 0)) ys
  rw [e]
  refine ⟨uniq_strict ocmp_cm (List.pairwise_map.2 ha) fun x _ y _ h k => ?_, fun o => (uniq_mem (fun x _ y _ h => ocmp_same (of_decide_eq_true h)) o).trans (hp.map _).mem_iff⟩
  have : x = y := (ocmp_same k).symm
  subst this
  rw [k] at h
  cases h
set_option maxHeartbeats 2000000 in
theorem Put_c {p : Nat → Prop} {w0 w : World} {L : List Ent} (gS : Nat) (sw : SwL) (t : TbL) (port : Int) (a : Option Addr) (n cap : Nat) (f : Nat → Int) (hS : St p w0 w (.row gS sw.cells :: L)) (hp : ¬ p 1) (hG : GW w0) (hT : ∀ w, St p w0 w L → TabR w sw.gT t) (hR : ∀ w, St p w0 w L → RdO w a n f) (hf : Byt f) (hc : n ≤ cap) (hsw : sw.Ok) (hx : ∀ x ∈ t.es, EnT x) (hlen : t.es.length ≤ 5000) :
    Calls Tryz.prog 20 #[.pointer (some ⟨gS, 0, none⟩), .int .i64 port, .slice a n cap] w fun e w' => ∃ code ad c os E K sw', e = .returned (.tuple #[.slice ad os.length c, .int .i64 code]) ∧ PutP sw t.es port f n code (os.map OutL.d) sw' ∧ Vec 2 ad os.length c (encL OutL.cells os) E ∧ (∀ o ∈ os, OutOwn K o) ∧ St p w0 w' (.row gS sw'.cells :: (E ++ (K ++ L))) := by
  obtain ⟨⟨i1, i2⟩, ⟨u1, u2⟩, ⟨r1, r2⟩, ⟨n1, n2⟩, p1, p2⟩ := hsw
  refine enter Tryz.func20 rfl Tryz.ntmps20 rfl hS ?_
  refine WC.seq <| WC.region <| WL.v (v_assign rfl rfl) rfl <| WL.v (v_assign rfl rfl) rfl <| WL.nt <| WC.seq <| WC.seq <| WC.region <| WL.v (v_move rfl rfl) rfl <| WL.v (v_eql_nil false rfl rfl Tryz.underlying42 rfl) rfl <| WL.v (v_move rfl rfl) rfl <| WL.val (v_move rfl rfl) (.some rfl rfl rfl) rfl rfl <| ?_
  refine WL.test (v_lss rfl rfl rfl) (.some rfl rfl rfl) rfl rfl (fun h19 => ?_) (fun h19 => ?_)
  ·
   refine WL.v (v_pick_f rfl rfl rfl) rfl <| WL.v (v_move rfl rfl) rfl <| ?_
   iterate 6 refine WL.sk rfl ?_
   refine WL.v (v_pick_t rfl rfl rfl) rfl <| WL.nt <| WC.cond_t rfl <| WC.seq <| WC.region <| WL.v (v_assign rfl rfl) rfl <| WL.v (v_assign rfl rfl) rfl <| WL.nt <| WC.ret <| WE.then_ret <| WE.ret2 (P := Tryz.prog) (.inl rfl) Tryz.results20 rfl rfl <| ?_
   exact fun w' h => ⟨1, none, 0, [], [], [], sw, rfl, ⟨fun _ => ⟨rfl, rfl, rfl⟩, fun k => by omega, fun k => by omega⟩, Vec.nil 2, fun o h => (by cases h), h⟩
  ·
   refine WL.v (v_pick_f rfl rfl rfl) rfl <| WL.v (v_move rfl rfl) rfl <| WL.val (v_move rfl rfl) (.some rfl rfl rfl) rfl rfl <| WL.val (v_move rfl rfl) (.some rfl rfl rfl) rfl rfl <| WL.val (v_nilCheck rfl rfl) (.some rfl rfl rfl) rfl rfl <| WL.val (v_fieldAddr0 rfl rfl fld_49_2) (.some rfl rfl rfl) rfl rfl <| WL.val (v_load1 rfl rfl one_3 (cellAt (v := .int .i64 sw.ports) rfl)) (.some rfl rfl rfl) rfl rfl <| ?_
   refine WL.test (v_geq rfl rfl rfl) (.some rfl rfl rfl) rfl rfl (fun h27 => ?_) (fun h27 => ?_)
   ·
    refine WL.v (v_pick_f rfl rfl rfl) rfl <| WL.nt <| WC.cond_t rfl <| WC.seq <| WC.region <| WL.v (v_assign rfl rfl) rfl <| WL.v (v_assign rfl rfl) rfl <| WL.nt <| WC.ret <| WE.then_ret <| WE.ret2 (P := Tryz.prog) (.inl rfl) Tryz.results20 rfl rfl <| ?_
    exact fun w' h => ⟨1, none, 0, [], [], [], sw, rfl, ⟨fun _ => ⟨rfl, rfl, rfl⟩, fun k => by omega, fun k => by omega⟩, Vec.nil 2, fun o h => (by cases h), h⟩
   ·
    refine WL.v (v_pick_f rfl rfl rfl) rfl <| WL.nt <| WC.cond_f rfl <| WC.skip <| WE.then_n <| WC.seq <| WC.region <| WL.v (v_move rfl rfl) rfl <| WL.v (v_nilCheck rfl rfl) rfl <| WL.v (v_fieldAddr0 rfl rfl fld_49_1) rfl <| WL.v (v_fieldAddr rfl rfl fld_47_0) rfl <| WL.v (v_load1 rfl rfl one_3 (cellAt (v := .int .i64 sw.in_) rfl)) rfl <| ?_
    refine WL.v (v_add rfl rfl rfl (w_i64 (by omega) (by omega))) rfl ?_
    refine WL.v (v_nilCheck rfl rfl) rfl <| WL.v (v_fieldAddr0 rfl rfl fld_49_1) rfl <| WL.v (v_fieldAddr rfl rfl fld_47_0) rfl <| WL.store1 rfl rfl rfl rfl one_3 (Nat.le_of_ble_eq_true rfl) (.none rfl) rfl <| WL.as (L' := .row gS (SwL.cells { sw with in_ := sw.in_ + 1 }) :: L) rfl <| WL.nt <| WC.seq <| WC.region <| WL.v (v_move rfl rfl) rfl <| WL.v (v_move rfl rfl) rfl <| WL.call rfl rfl ck_21 (.none rfl) rfl rfl <| ?_
    intro w1 hS
    refine (Parse_c w1 port a n cap f (hR w1 (hS.sub (.cons _ (.refl _)))) hf hc).mono ?_
    rintro e w' ⟨V, rfl, hV, hF⟩
    obtain ⟨H1, W1, rw1, po1, en1, rfl, hk⟩ : ∃ H1 W1 rw1 po1 en1, V = packV H1 W1 rw1 po1 en1 ∧ (prErr port f n = 0 → H1 = prHd port f ∧ W1 = prHd port f ∧ rw1 = str f n ∧ po1 = prPorts f ∧ en1 = prEnd f) := (by
      rcases hV with ⟨h1, h2⟩ | ⟨h1, h2⟩
      · exact ⟨_, _, _, _, _, h2, fun k => absurd k h1⟩
      · exact ⟨_, _, _, _, _, h2, fun _ => ⟨rfl, rfl, rfl, rfl, rfl⟩⟩)
    refine ⟨_, _, rfl, hS.ext hF, ?_⟩
    refine WL.v (v_move rfl rfl) rfl <| WL.v (v_extract rfl rfl rfl) rfl <| WL.v (v_extract rfl rfl rfl) rfl <| WL.alloc rfl zero_61 (.none rfl) rfl rfl <| ?_
    intro g8 hg8
    refine WL.storeW rfl rfl rfl rfl many_61 rfl rfl (.none rfl) rfl <| WL.v (v_assign rfl rfl) rfl <| WL.nt <| WC.seq <| WC.seq <| WC.region <| WL.v (v_move rfl rfl) rfl <| ?_
    refine WL.test (v_neq rfl rfl rfl) (.none rfl) rfl rfl (fun h45 => ?_) (fun h45 => ?_)
    ·
     refine WL.nt <| WC.cond_t rfl <| WC.seq <| WC.region <| WL.v (v_move rfl rfl) rfl <| WL.v (v_nilCheck rfl rfl) rfl <| WL.v (v_fieldAddr0 rfl rfl fld_49_1) rfl <| WL.v (v_fieldAddr rfl rfl fld_47_2) rfl <| WL.v (v_load1 rfl rfl one_3 (cellAt (v := .int .i64 sw.wrong) rfl)) rfl <| ?_
     refine WL.v (v_add rfl rfl rfl (w_i64 (by omega) (by omega))) rfl ?_
     refine WL.v (v_nilCheck rfl rfl) rfl <| WL.v (v_fieldAddr0 rfl rfl fld_49_1) rfl <| WL.v (v_fieldAddr rfl rfl fld_47_2) rfl <| WL.store1 rfl rfl rfl rfl one_3 (Nat.le_of_ble_eq_true rfl) (.none rfl) rfl <| WL.as (L' := .row g8 (pkL H1 W1 rw1 po1 en1) :: .row gS (SwL.cells { sw with in_ := sw.in_ + 1, wrong := sw.wrong + 1 }) :: L) rfl <| WL.nt <| WC.seq <| WC.region <| WL.v (v_move rfl rfl) rfl <| WL.v (v_assign rfl rfl) rfl <| WL.v (v_assign rfl rfl) rfl <| WL.nt <| WC.ret <| WE.then_ret <| ?_
     refine WE.ret2 (P := Tryz.prog) (.inl rfl) Tryz.results20 rfl rfl ?_
     exact fun w' h => ⟨prErr port f n, none, 0, [], [], [], { sw with in_ := sw.in_ + 1, wrong := sw.wrong + 1 }, rfl, ⟨fun k => absurd (by omega) k, fun _ _ => ⟨rfl, rfl, rfl⟩, fun _ k => absurd k h45⟩, Vec.nil 2, fun o h => (by cases h), h.sub (.cons _ (.refl _))⟩
    ·
     refine WL.nt <| WC.cond_f rfl <| WC.skip <| WE.then_n <| WC.seq <| WC.region <| ?_
     have hE : prErr port f n = 0 := Decidable.of_not_not h45
     obtain ⟨rfl, rfl, rfl, rfl, rfl⟩ := hk hE
     obtain ⟨hq, h14n, hn15⟩ := prErr_n hE
     have hHr : (prHd port f).Rt := ⟨prHd_In hf hq, prHd_okB hf hq⟩
     refine WL.v (v_assign rfl rfl) rfl <| WL.nt <| WC.seq <| WC.seq <| WC.held (.row g8 (pkL (prHd port f) (prHd port f) (str f n) (prPorts f) (prEnd f)) :: .row gS (SwL.cells { sw with in_ := sw.in_ + 1 }) :: L) mixed <| ?_
     refine WRH.first (g := 2) [0, 1, 2, 3, 4, 5, 8] (by kernel_rfl) (by kernel_rfl) (fun w hS => hS.sub (by repeat (first | exact List.Sublist.refl _ | exact List.nil_sublist _ | refine List.Sublist.cons_cons _ ?_ | refine List.Sublist.cons _ ?_ | refine List.sublist_append_of_sublist_right ?_))) ?_
     refine WH.val (v_move rfl rfl) (.none rfl) rfl rfl <| WH.val (v_nilCheck rfl rfl) (.none rfl) rfl rfl <| WH.val (v_fieldAddr0 rfl rfl fld_49_0) (.none rfl) rfl rfl <| WH.val (v_load1 rfl rfl one_45 (cellAt (v := .pointer (some ⟨sw.gT, 0, none⟩)) rfl)) (.none rfl) rfl rfl <| WH.val (v_fieldAddr0 rfl rfl fld_61_0) (.none rfl) rfl rfl <| WH.val (v_loadN (cs := hdL (prHd port f)) rfl rfl many_59 rfl (segAt (m := 19) (new := hdL (prHd port f)) rfl)) (.none rfl) rfl rfl <| WH.val (v_move rfl rfl) (.none rfl) rfl rfl <| WH.nil <| ?_
     refine WRH.one (g := 1) 6 (by kernel_rfl) ?_
     refine WL.call rfl rfl ck_22 (.none rfl) rfl rfl ?_
     intro w1 hS
     have hTR := hT w1 (hS.sub (.cons _ (.cons _ (.refl _))))
     refine (TRun_c w1 sw.gT t (prHd port f) hTR.cell hx hHr (hG.keep hp hS) (by omega) hTR.rg hTR.ok).mono ?_
     rintro e w' ⟨adh, ch, hs, EH, rfl, hrun, hrt, hhl, hVh, hS'⟩
     refine ⟨_, _, rfl, hS.join hS', ?_⟩
     refine WL.nilH (fun w hS => hS.sub (by repeat (first | exact List.Sublist.refl _ | exact List.nil_sublist _ | refine List.Sublist.cons_cons _ ?_ | refine List.Sublist.cons _ ?_ | refine List.sublist_append_of_sublist_right ?_))) ?_
     refine WRH.first (g := 0) [7] (by kernel_rfl) (by kernel_rfl) (fun w hS => hS.sub (by repeat (first | exact List.Sublist.refl _ | exact List.nil_sublist _ | refine List.Sublist.cons_cons _ ?_ | refine List.Sublist.cons _ ?_ | refine List.sublist_append_of_sublist_right ?_))) ?_
     refine WH.val (v_len_slice rfl rfl Tryz.underlying64) (.none rfl) rfl rfl <| WH.nil <| ?_
     refine WRH.done (by kernel_rfl) ?_
     refine WE.then_n <| WC.block <| ?_
     refine WC.loop (fun x : PuS => [(64, .int .i64 x.k), (63, .int .i64 hs.length), (62, .slice adh hs.length ch), (10, .slice x.ad x.os.length x.c), (8, .pointer (some ⟨g8, 0, none⟩)), (1, .int .i64 port), (0, .pointer (some ⟨gS, 0, none⟩))]) (fun x => x.E ++ (x.K ++ (EH ++ (.row g8 (pkL (prHd port f) (prHd port f) (str f n) (prPorts f) (prEnd f)) :: .row gS (SwL.cells { sw with in_ := sw.in_ + 1 }) :: L)))) (fun x => x.k ≤ hs.length ∧ x.os.length ≤ x.k ∧ Vec 2 x.ad x.os.length x.c (encL OutL.cells x.os) x.E ∧ (∀ o ∈ x.os, OutOwn x.K o) ∧ (∀ o, o ∈ x.os.map OutL.d ↔ ∃ h ∈ hs.take x.k, GoesO sw.ports port f n h ∧ o = outF port f n h)) (fun x => hs.length - x.k) ⟨0, [], none, 0, [], []⟩ ⟨Nat.zero_le _, Nat.zero_le _, Vec.nil 2, fun o h => (by cases h), fun o => by simp⟩ (.cons rfl (.cons rfl (.cons rfl (.cons rfl (.cons rfl (.cons rfl (.cons rfl .nil))))))) (.refl _) ?_
     rintro ⟨k, os, ad, c1, E, K⟩ ⟨hk, hl, hV, hO, hM⟩
     dsimp only at hk hl hV hO hM
     dsimp only
     refine WC.seq <| WC.region <| ?_
     refine WL.test (v_lss rfl rfl rfl) (.none rfl) rfl rfl (fun h65 => ?_) (fun h65 => ?_)
     ·
      refine WL.nt <| WC.seq <| WC.cond_t rfl <| WC.skip <| WE.then_n <| WC.seq <| WC.block <| WC.seq <| WC.region <| ?_
      obtain ⟨h, hh⟩ : ∃ x, hs[k]? = some x := ⟨hs[k]'(by omega), List.getElem?_eq_getElem _⟩
      obtain ⟨b1, o1, ea1, q1⟩ := hVh.srcR (L := E ++ (K ++ (EH ++ (.row g8 (pkL (prHd port f) (prHd port f) (str f n) (prPorts f) (prEnd f)) :: .row gS (SwL.cells { sw with in_ := sw.in_ + 1 }) :: L)))) (fun e he => by simp [he]) (by rw [encL_len hdL_len]; omega)
      have hhR := hrt h (List.mem_of_getElem? hh)
      have hport := hhR.nums.1
      refine WL.v ((v_indexAddr (b := b1) (off := o1) (lo := k) rfl (by show some (Value.slice adh _ _) = _; rw [ea1]) rfl Tryz.underlying64 sz_59 rfl (by omega))) rfl ?_
      refine WL.v (v_loadN (cs := hdL h) rfl rfl many_59 rfl (fun w' hS' => Rg.seg hdL_len (q1 _ _ w' hS') hh)) rfl <| WL.alloc rfl zero_59 (.none rfl) rfl rfl <| ?_
      intro g12 hg12
      refine WL.storeW rfl rfl rfl rfl many_59 rfl rfl (.none rfl) rfl <| WL.as (L' := .row g12 (hdL h) :: (E ++ (K ++ (EH ++ (.row g8 (pkL (prHd port f) (prHd port f) (str f n) (prPorts f) (prEnd f)) :: .row gS (SwL.cells { sw with in_ := sw.in_ + 1 }) :: L))))) rfl <| WL.nt <| WC.seq <| WC.seq <| ?_
      refine WC.quiet mixed (by kernel_rfl) ?_
      refine WQ.val (v_fieldAddr0 rfl rfl fld_59_0) (.none rfl) rfl rfl <| WQ.val (v_load1 rfl rfl one_3 (cellAt (v := .int .i64 h.port) rfl)) (.none rfl) rfl rfl <| ?_
      refine WQ.val ((v_lss rfl rfl rfl).f (by omega)) (.none rfl) rfl rfl ?_
      refine WQ.val (v_move rfl rfl) (.none rfl) rfl rfl <| WQ.val (v_fieldAddr0 rfl rfl fld_59_0) (.some rfl rfl rfl) rfl rfl <| WQ.val (v_load1 rfl rfl one_3 (cellAt (v := .int .i64 h.port) rfl)) (.some rfl rfl rfl) rfl rfl <| WQ.val (v_move rfl rfl) (.some rfl rfl rfl) rfl rfl <| WQ.val (v_nilCheck rfl rfl) (.some rfl rfl rfl) rfl rfl <| WQ.val (v_fieldAddr0 rfl rfl fld_49_2) (.some rfl rfl rfl) rfl rfl <| WQ.val (v_load1 rfl rfl one_3 (cellAt (v := .int .i64 sw.ports) rfl)) (.some rfl rfl rfl) rfl rfl <| ?_
      refine WQ.test (v_geq rfl rfl rfl) (.some rfl rfl rfl) rfl rfl (fun h78 => ?_) (fun h78 => ?_)
      ·
       refine WQ.val (v_pick_f rfl rfl rfl) (.none rfl) rfl rfl <| WQ.val (v_move rfl rfl) (.none rfl) rfl rfl <| ?_
       iterate 4 refine WQ.skip rfl rfl rfl rfl rfl rfl ?_
       refine WQ.val (v_pick_t rfl rfl rfl) (.none rfl) rfl rfl <| WQ.nil <| WE.then_n <| WC.cond_t rfl <| WC.exit <| WE.then_exit <| WE.block_hit <| WE.then_n <| WC.region <| ?_
       refine WL.v (v_add rfl rfl rfl (w_i64 (by omega) (by omega))) rfl ?_
       refine WL.v (v_move rfl rfl) rfl <| WL.nil <| ?_
       exact WE.next ⟨k + 1, os, ad, c1, E, K⟩ (by dsimp only; omega) ⟨by dsimp only; omega, by dsimp only; omega, hV, hO, goes_no hh hM fun g => by have := g.1; omega⟩ (.int rfl (by dsimp only; omega) (.cons rfl (.cons rfl (.cons rfl (.cons rfl (.cons rfl (.cons rfl .nil))))))) (.cons _ (.refl _))
      ·
       refine WQ.val (v_pick_f rfl rfl rfl) (.none rfl) rfl rfl <| WQ.val (v_move rfl rfl) (.none rfl) rfl rfl <| WQ.val (v_fieldAddr0 rfl rfl fld_59_0) (.some rfl rfl rfl) rfl rfl <| WQ.val (v_load1 rfl rfl one_3 (cellAt (v := .int .i64 h.port) rfl)) (.some rfl rfl rfl) rfl rfl <| WQ.val (v_move rfl rfl) (.some rfl rfl rfl) rfl rfl <| ?_
       refine WQ.test (v_eql rfl rfl rfl) (.some rfl rfl rfl) rfl rfl (fun h84 => ?_) (fun h84 => ?_)
       ·
        refine WQ.val (v_pick_f rfl rfl rfl) (.none rfl) rfl rfl <| WQ.nil <| WE.then_n <| WC.cond_t rfl <| WC.exit <| WE.then_exit <| WE.block_hit <| WE.then_n <| WC.region <| ?_
        refine WL.v (v_add rfl rfl rfl (w_i64 (by omega) (by omega))) rfl ?_
        refine WL.v (v_move rfl rfl) rfl <| WL.nil <| ?_
        exact WE.next ⟨k + 1, os, ad, c1, E, K⟩ (by dsimp only; omega) ⟨by dsimp only; omega, by dsimp only; omega, hV, hO, goes_no hh hM fun g => absurd h84 g.2.1⟩ (.int rfl (by dsimp only; omega) (.cons rfl (.cons rfl (.cons rfl (.cons rfl (.cons rfl (.cons rfl .nil))))))) (.cons _ (.refl _))
       ·
        refine WQ.val (v_pick_f rfl rfl rfl) (.none rfl) rfl rfl <| WQ.nil <| WE.then_n <| WC.cond_f rfl <| WC.skip <| WE.then_n <| WC.seq <| WC.region <| WL.v (v_loadN rfl rfl many_61 rfl allAt) rfl <| WL.v (v_loadN rfl rfl many_59 rfl allAt) rfl <| WL.call rfl rfl ck_26 (.none rfl) rfl rfl <| ?_
        intro w1 hS
        refine (Emit_q hS hp hG hhR hf hE).mono ?_
        rintro e w' ⟨o, bs, c2, code, E2, rfl, hc0, hc1, hV2, hb2, hS'⟩
        refine ⟨_, _, rfl, hS', ?_⟩
        refine WL.v (v_move rfl rfl) rfl <| WL.v (v_extract rfl rfl rfl) rfl <| WL.v (v_extract rfl rfl rfl) rfl <| WL.v (v_assign rfl rfl) rfl <| WL.v (v_assign rfl rfl) rfl <| WL.nt <| WC.seq <| WC.region <| WL.v (v_move rfl rfl) rfl <| ?_
        refine WL.test (v_eql rfl rfl rfl) (.none rfl) rfl rfl (fun h93 => ?_) (fun h93 => ?_)
        ·
         refine WL.nt <| WC.cond_t rfl <| WC.region <| WL.v (v_move rfl rfl) rfl <| WL.v (v_fieldAddr0 rfl rfl fld_59_0) rfl <| WL.v (v_load1 rfl rfl one_3 (cellAt (v := .int .i64 h.port) rfl)) rfl <| WL.v (v_move rfl rfl) rfl <| WL.v (v_build rfl rfl zero_67 plc_67 rfl) rfl <| ?_
         refine WL.buildSlice rfl rfl Tryz.underlying51 sz_67 zero_67 rfl (by decide) rfl (.none rfl) rfl rfl ?_
         intro g99 hg99
         refine WL.as (L' := .row g99 (OutL.cells ⟨h.port, o, c2, bs⟩) :: (E2 ++ (.row g12 (hdL h) :: (E ++ (K ++ (EH ++ (.row g8 (pkL (prHd port f) (prHd port f) (str f n) (prPorts f) (prEnd f)) :: .row gS (SwL.cells { sw with in_ := sw.in_ + 1 }) :: L))))))) rfl <| WL.to (L' := E ++ (.row g99 (OutL.cells ⟨h.port, o, c2, bs⟩) :: ((E2 ++ K) ++ (EH ++ (.row g8 (pkL (prHd port f) (prHd port f) (str f n) (prPorts f) (prEnd f)) :: .row gS (SwL.cells { sw with in_ := sw.in_ + 1 }) :: L))))) (fun w hS => hS.dropX [.row g12 (hdL h)]) <| ?_
         refine WL.appendL rfl rfl rfl Tryz.underlying51 Tryz.underlying51 sz_67 by_67 zero_67 rfl rfl hV (new := OutL.cells ⟨h.port, o, c2, bs⟩) (fun _ => ⟨g99, 0, rfl, fun w hS => allAt (g := g99) w hS⟩) rfl rfl (by omega) (.none rfl) rfl rfl ?_
         intro ad100 c100 E100 hV100 hr100
         refine WL.v (v_assign rfl rfl) rfl <| WL.nil <| WE.block_n <| WE.then_n <| WC.region <| ?_
         refine WL.v (v_add rfl rfl rfl (w_i64 (by omega) (by omega))) rfl ?_
         refine WL.v (v_move rfl rfl) rfl <| WL.nil <| ?_
         exact WE.next ⟨k + 1, os ++ [⟨h.port, o, c2, bs⟩], ad100, c100, E100, E2 ++ K⟩ (by dsimp only; omega) ⟨by dsimp only; omega, by dsimp only; rw [List.length_append]; show os.length + 1 ≤ _; omega, by dsimp only; rw [List.length_append, encL_snoc]; exact hV100, fun u hu => (by
         rcases List.mem_append.1 hu with hu | hu
         · exact (hO u hu).sub fun x hx => List.mem_append_right _ hx
         · rw [List.mem_singleton] at hu
           subst hu
           exact ⟨⟨E2, hV2, fun x hx => List.mem_append_left _ hx⟩, hb2⟩), goes_more hh hM ⟨by omega, h84, (hc0 h93).1⟩ (by show OutD.mk _ _ = OutD.mk _ _; rw [(hc0 h93).2])⟩ (.int rfl (by dsimp only; omega) (.cons rfl (.cons rfl (.eq rfl (by dsimp only; rw [List.length_append]; rfl) (.cons rfl (.cons rfl (.cons rfl .nil))))))) (List.Sublist.append_left (.cons _ (.refl _)) _)
        ·
         refine WL.nt <| WC.cond_f rfl <| WC.skip <| WE.block_n <| WE.then_n <| WC.region <| ?_
         refine WL.v (v_add rfl rfl rfl (w_i64 (by omega) (by omega))) rfl ?_
         refine WL.v (v_move rfl rfl) rfl <| WL.nil <| ?_
         exact WE.next ⟨k + 1, os, ad, c1, E, K⟩ (by dsimp only; omega) ⟨by dsimp only; omega, by dsimp only; omega, hV, hO, goes_no hh hM fun g => absurd g.2.2 (hc1 h93)⟩ (.int rfl (by dsimp only; omega) (.cons rfl (.cons rfl (.cons rfl (.cons rfl (.cons rfl (.cons rfl .nil))))))) (List.sublist_append_of_sublist_right (.cons _ (.refl _)))
     ·
      refine WL.nt <| WC.seq <| WC.cond_f rfl <| WC.exit <| WE.then_exit <| WE.then_exit <| WE.block_hit <| WE.then_n <| WC.seq <| WC.region <| ?_
      obtain rfl : k = hs.length := (by omega)
      rw [List.take_length] at hM
      refine WL.v (v_move rfl rfl) rfl <| WL.call rfl rfl ck_53 (.none rfl) rfl rfl <| ?_
      intro w1 hS
      refine (gsort_q (P := Tryz.prog) (q := OutOwn K) (enc := OutL.cells) lays53 (by omega) Tryz.isAgg67 Tryz.sizeOf67 OutL.len OutL.one (fun a b => ocmp a.d b.d) (ocmp_cm.on OutL.d) 54 #[] ck_54 p w0 w1 _ E ad c1 os hO (fun gb cs hS1 w' hF x y hx hy => OCmp_c w' x y hx.2 hy.2 (hx.rg fun e he => hS1.keep_tail hF e (by simp [he])) (hy.rg fun e he => hS1.keep_tail hF e (by simp [he]))) hV hS (by omega)).mono ?_
      rintro e w' ⟨rfl, ys, E2, hp2, ha2, hV2, hS'⟩
      refine ⟨_, _, rfl, hS', ?_⟩
      refine WL.nt <| WC.seq <| WC.region <| WL.v (v_move rfl rfl) rfl <| WL.call rfl rfl ck_55 (.none rfl) rfl rfl <| ?_
      intro w1 hS
      rw [← hp2.length_eq] at hV2
      rw [← hp2.length_eq]
      refine (CompactFOut_c p w0 w1 _ E2 ad c1 ys (fun a b => decide (ocmp a.d b.d = 0)) (fun gb cs w hS1 x hx y hy => OEq_c w x y (hO x (hp2.mem_iff.1 hx)).2 (hO y (hp2.mem_iff.1 hy)).2 ((hO x (hp2.mem_iff.1 hx)).rg fun e he => hS1.holds e (by simp [he])) ((hO y (hp2.mem_iff.1 hy)).rg fun e he => hS1.holds e (by simp [he]))) hV2 hS (by rw [hp2.length_eq]; omega)).mono ?_
      rintro e w' ⟨E3, rfl, hV3, hS'⟩
      have hul := uniq_len (eq := fun a b : OutL => decide (ocmp a.d b.d = 0)) ys
      rw [hp2.length_eq] at hul
      obtain ⟨hstr, hmem⟩ := outs_of hp2 ha2
      have hown : ∀ o ∈ uniq (fun a b : OutL => decide (ocmp a.d b.d = 0)) ys, OutOwn K o := fun o ho => hO o (hp2.mem_iff.1 ((uniq_sub ys).subset ho))
      refine ⟨_, _, rfl, hS', ?_⟩
      generalize uniq (fun a b : OutL => decide (ocmp a.d b.d = 0)) ys = zs at hV3 hul hstr hmem hown ⊢
      have hfin : prErr port f n = 0 → (0 : Int) = 0 ∧ ((zs.map OutL.d).Pairwise fun a b => ocmp a b < 0) ∧ (zs.map OutL.d).length ≤ 64 ∧ (∃ hs, TRunP t.es (prHd port f) hs ∧ (∀ x ∈ hs, x.Rt) ∧ ∀ o, o ∈ zs.map OutL.d ↔ ∃ h ∈ hs, GoesO sw.ports port f n h ∧ o = outF port f n h) := fun _ => ⟨rfl, hstr, by rw [List.length_map]; omega, hs, hrun, hrt, fun o => (hmem o).trans (hM o)⟩
      refine WL.v (v_assign rfl rfl) rfl <| WL.nt <| WC.seq <| WC.region <| WL.v (v_move rfl rfl) rfl <| WL.v (v_nilCheck rfl rfl) rfl <| WL.v (v_fieldAddr0 rfl rfl fld_49_1) rfl <| WL.v (v_fieldAddr rfl rfl fld_47_1) rfl <| WL.v (v_load1 rfl rfl one_3 (cellAt (v := .int .i64 sw.out) rfl)) rfl <| WL.v (v_move rfl rfl) rfl <| WL.v (v_len_slice rfl rfl Tryz.underlying51) rfl <| ?_
      refine WL.v (v_add rfl rfl rfl (w_i64 (by omega) (by omega))) rfl ?_
      refine WL.v (v_nilCheck rfl rfl) rfl <| WL.v (v_fieldAddr0 rfl rfl fld_49_1) rfl <| WL.v (v_fieldAddr rfl rfl fld_47_1) rfl <| WL.store1 rfl rfl rfl rfl one_3 (Nat.le_of_ble_eq_true rfl) (.none rfl) rfl <| WL.as (L' := E3 ++ (K ++ (EH ++ (.row g8 (pkL (prHd port f) (prHd port f) (str f n) (prPorts f) (prEnd f)) :: .row gS (SwL.cells { sw with in_ := sw.in_ + 1, out := sw.out + zs.length }) :: L)))) rfl <| WL.nt <| WC.seq <| WC.seq <| WC.region <| WL.v (v_move rfl rfl) rfl <| WL.v (v_len_slice rfl rfl Tryz.underlying51) rfl <| ?_
      refine WL.test (v_eql rfl rfl rfl) (.none rfl) rfl rfl (fun h119 => ?_) (fun h119 => ?_)
      ·
       refine WL.nt <| WC.cond_t rfl <| WC.region <| WL.v (v_move rfl rfl) rfl <| WL.v (v_nilCheck rfl rfl) rfl <| WL.v (v_fieldAddr0 rfl rfl fld_49_1) rfl <| WL.v (v_fieldAddr rfl rfl fld_47_3) rfl <| WL.v (v_load1 rfl rfl one_3 (cellAt (v := .int .i64 sw.nought) rfl)) rfl <| ?_
       refine WL.v (v_add rfl rfl rfl (w_i64 (by omega) (by omega))) rfl ?_
       refine WL.v (v_nilCheck rfl rfl) rfl <| WL.v (v_fieldAddr0 rfl rfl fld_49_1) rfl <| WL.v (v_fieldAddr rfl rfl fld_47_3) rfl <| WL.store1 rfl rfl rfl rfl one_3 (Nat.le_of_ble_eq_true rfl) (.none rfl) rfl <| WL.as (L' := E3 ++ (K ++ (EH ++ (.row g8 (pkL (prHd port f) (prHd port f) (str f n) (prPorts f) (prEnd f)) :: .row gS (SwL.cells { sw with in_ := sw.in_ + 1, out := sw.out + zs.length, nought := sw.nought + 1 }) :: L)))) rfl <| WL.nt <| WC.seq <| WC.region <| WL.v (v_move rfl rfl) rfl <| WL.v (v_assign rfl rfl) rfl <| WL.v (v_assign rfl rfl) rfl <| WL.nt <| WC.ret <| WE.ret2 (P := Tryz.prog) (.inl rfl) Tryz.results20 rfl rfl <| ?_
       exact fun w' h' => ⟨0, ad, c1, zs, E3, K, { sw with in_ := sw.in_ + 1, out := sw.out + zs.length, nought := sw.nought + 1 }, rfl, ⟨fun k => absurd (by omega) k, fun _ k => absurd hE k, fun _ k => ⟨rfl, (hfin k).2.1, (hfin k).2.2.1, (hfin k).2.2.2, by rw [List.length_map, if_pos (by rw [List.map_eq_nil_iff]; exact List.length_eq_zero_iff.1 (by omega))]⟩⟩, hV3, hown, h'.dropX (EH ++ [.row g8 (pkL (prHd port f) (prHd port f) (str f n) (prPorts f) (prEnd f))])⟩
      ·
       refine WL.nt <| WC.cond_f rfl <| WC.skip <| WE.then_n <| WC.seq <| WC.region <| WL.v (v_move rfl rfl) rfl <| WL.v (v_assign rfl rfl) rfl <| WL.v (v_assign rfl rfl) rfl <| WL.nt <| WC.ret <| WE.ret2 (P := Tryz.prog) (.inl rfl) Tryz.results20 rfl rfl <| ?_
       exact fun w' h' => ⟨0, ad, c1, zs, E3, K, { sw with in_ := sw.in_ + 1, out := sw.out + zs.length }, rfl, ⟨fun k => absurd (by omega) k, fun _ k => absurd hE k, fun _ k => ⟨rfl, (hfin k).2.1, (hfin k).2.2.1, (hfin k).2.2.2, by rw [List.length_map, if_neg (fun e => h119 (by rw [List.map_eq_nil_iff] at e; rw [e]; rfl))]⟩⟩, hV3, hown, h'.dropX (EH ++ [.row g8 (pkL (prHd port f) (prHd port f) (str f n) (prPorts f) (prEnd f))])⟩
end Go.Proofs.YtkeonnnhogaggaaGreatDoor
/- fabric.New; the document's example of layer 20. -/
namespace Go.Proofs.YtkeonnnhogaggaaGreatDoor
open Go.RowKit Go.Sort

theorem FNew_c (w : World) (ports n : Int) (hp : 1 ≤ ports ∧ ports ≤ 16) (hn : 0 ≤ n ∧ n ≤ 4096) :
    Calls Tryz.prog 18 #[.int .i64 ports, .int .i64 n] w fun e w' => ∃ gS gT, e = .returned (.tuple #[.pointer (some ⟨gS, 0, none⟩), .int .i64 0]) ∧ St (fun _ => False) w w' [.row gS (SwL.cells ⟨gT, 0, 0, 0, 0, ports⟩), .row gT (TbL.cells ⟨n, none, 0, []⟩)] := by
  refine enter Tryz.func18 rfl Tryz.ntmps18 rfl (St.start (fun _ => False) w) ?_
  refine WC.seq <| WC.region <| WL.v (v_assign rfl rfl) rfl <| WL.v (v_assign rfl rfl) rfl <| WL.nt <| WC.seq <| WC.seq <| WC.region <| WL.v (v_move rfl rfl) rfl <| ?_
  refine WL.v ((v_lss rfl rfl rfl).f (by omega)) rfl ?_
  refine WL.v (v_move rfl rfl) rfl <| WL.val (v_move rfl rfl) (.some rfl rfl rfl) rfl rfl <| ?_
  refine WL.val ((v_gtr rfl rfl rfl).f (by omega)) (.some rfl rfl rfl) rfl rfl ?_
  refine WL.v (v_pick_f rfl rfl rfl) rfl <| WL.nt <| WC.cond_f rfl <| WC.skip <| WE.then_n <| WC.seq <| WC.region <| WL.v (v_move rfl rfl) rfl <| WL.call rfl rfl ck_46 (.none rfl) rfl rfl <| ?_
  intro w1 hS
  refine (TNew_c w1 n hn).mono ?_
  rintro e w' ⟨gT, rfl, hS'⟩
  refine ⟨_, _, rfl, hS.join hS', ?_⟩
  refine WL.v (v_move rfl rfl) rfl <| WL.v (v_extract rfl rfl rfl) rfl <| WL.v (v_extract rfl rfl rfl) rfl <| WL.v (v_assign rfl rfl) rfl <| WL.v (v_assign rfl rfl) rfl <| WL.nt <| WC.seq <| WC.seq <| WC.region <| WL.v (v_move rfl rfl) rfl <| ?_
  refine WL.v ((v_neq rfl rfl rfl).f (by omega)) rfl ?_
  refine WL.nt <| WC.cond_f rfl <| WC.skip <| WE.then_n <| WC.seq <| WC.region <| WL.v (v_move rfl rfl) rfl <| WL.v (v_move rfl rfl) rfl <| WL.v (v_build rfl rfl zero_49 plc_49 rfl) rfl <| WL.box rfl rfl rfl (.none rfl) rfl rfl <| ?_
  intro g25 hg25
  refine WL.v (v_assign rfl rfl) rfl <| WL.v (v_assign rfl rfl) rfl <| WL.nt <| WC.ret <| WE.ret2 (P := Tryz.prog) (.inl rfl) Tryz.results18 rfl rfl <| ?_
  exact fun w' h => ⟨_, gT, rfl, h⟩
def ex20 (g : Nat) : EnL := ⟨0, 0, ⟨mt0, some ⟨g, 0, none⟩, 1, [Ac.one 0 1]⟩⟩
def d20 : EnD := ⟨0, 0, ⟨mt0, [Ac.one 0 1]⟩⟩
theorem d20_in : d20.In := ⟨by decide, by decide, ⟨fun _ => ⟨Int.le_refl _, (by decide : (0 : Int) ≤ 18446744073709551615)⟩, fun _ => ⟨Int.le_refl _, (by decide : (0 : Int) ≤ 18446744073709551615)⟩⟩, fun _ _ => ⟨rfl, rfl⟩, fun a ha => by
  obtain rfl := List.mem_singleton.1 ha
  exact ⟨⟨by decide, fun k => by show 0 ≤ (if k = 0 then (1 : Int) else 0) ∧ (if k = 0 then (1 : Int) else 0) ≤ _; split <;> decide⟩, fun k hk => if_neg (by omega)⟩⟩
theorem ex20_table {es : List EnL} {code : Int} (h : ChangeP 5 [] [] [d20] code (es.map EnL.d)) : code = 0 ∧ ∃ a, es = [a] ∧ a.d = d20 := by
  have hc := h.ok (by decide) (by decide) (by show Apart [d20.norm]; exact List.pairwise_singleton _ _)
  obtain ⟨h1, h2⟩ := h.yes hc
  have h3 : es.map EnL.d = [d20] := List.perm_singleton.1 h2
  exact ⟨hc, List.map_eq_singleton_iff.1 h3⟩
def z20 (q : Int) : Hd := (appK (Ac.one 0 1) (prHd q fun _ => 0) 9).nrm
theorem run20 {x : EnL} (hx : x.d = d20) {q : Int} {hs : List Hd} (h : TRunP [x] (prHd q fun _ => 0) hs) : ∀ u, u ∈ hs ↔ u = z20 q := by
  have hr : x.r.d = ⟨mt0, [Ac.one 0 1]⟩ := (congrArg EnD.r hx :)
  have hm : x.r.m = mt0 := (congrArg RuD.m hr :)
  rcases h with ⟨h1, _⟩ | ⟨i, y, hy, hh, hno, hR⟩
  · refine absurd ?_ (h1 x (List.mem_cons_self ..))
    rw [hm]
    intro k _
    show andN _ 0 = 0
    unfold andN
    simp
  · have : y = x := List.mem_singleton.1 (List.mem_of_getElem? hy)
    subst this
    intro u
    rw [hR.mem u, hr]
    exact ⟨fun ⟨a, ha, e⟩ => by obtain rfl := List.mem_singleton.1 ha; exact e, fun e => ⟨_, List.mem_singleton.2 rfl, e⟩⟩
theorem put20a {x : EnL} (hx : x.d = d20) {g : Nat} {i o n code : Int} {os : List OutD} {sw' : SwL} (h : PutP ⟨g, i, o, 0, n, 2⟩ [x] 0 (fun _ => 0) 14 code os sw') : code = 0 ∧ (∃ b, os = [⟨1, b⟩]) ∧ sw' = ⟨g, i + 1, o + 1, 0, n, 2⟩ := by
  obtain ⟨h1, h2, _, ⟨hs, h3, _, h4⟩, h5⟩ := h.ok (by dsimp only; omega) (by decide)
  have hz := run20 hx h3
  have hg : GoesO 2 0 (fun _ => 0) 14 (z20 0) := ⟨by decide, by decide, toList_ne (by rw [str_size]; decide), by decide, by decide, by decide, .inr (by decide), .inr (by decide)⟩
  have hm : ∀ u, u ∈ os ↔ u ∈ [outF 0 (fun _ => 0) 14 (z20 0)] := fun u => by
    rw [h4 u, List.mem_singleton]
    exact ⟨fun ⟨y, k1, _, k3⟩ => by rw [(hz y).1 k1] at k3; exact k3, fun e => ⟨z20 0, (hz _).2 rfl, hg, e⟩⟩
  have ho : os = [outF 0 (fun _ => 0) 14 (z20 0)] := strict_only ocmp_cm _ _ h2 (List.pairwise_singleton _ _) hm
  refine ⟨h1, ⟨_, ho⟩, ?_⟩
  rw [h5, ho]
  rfl
theorem put20b {x : EnL} (hx : x.d = d20) {g : Nat} {i o n code : Int} {os : List OutD} {sw' : SwL} (h : PutP ⟨g, i, o, 0, n, 2⟩ [x] 1 (fun _ => 0) 14 code os sw') : code = 0 ∧ os = [] := by
  obtain ⟨h1, h2, _, ⟨hs, h3, _, h4⟩, h5⟩ := h.ok (by dsimp only; omega) (by decide)
  have hz := run20 hx h3
  refine ⟨h1, List.eq_nil_iff_forall_not_mem.2 fun u hu => ?_⟩
  obtain ⟨y, k1, k2, _⟩ := (h4 u).1 hu
  rw [(hz y).1 k1] at k2
  exact k2.2.1 (by decide)
theorem tab20 {p : Nat → Prop} {w0 w : World} {LL E K : List Ent} {gT : Nat} {ad : Option Addr} {c : Nat} {x : EnL} {most : Int} (hx : x.d = d20) (hV : Vec 21 ad 1 c (ensL [x]) E) (hK : EnsOwn K [x]) (hS : St p w0 w LL) (h1 : ∀ e ∈ E, e ∈ LL) (h2 : ∀ e ∈ K, e ∈ LL) (h3 : Ent.row gT (TbL.cells ⟨most, ad, c, [x]⟩) ∈ LL) : TabR w gT ⟨most, ad, c, [x]⟩ :=
  ⟨(show Row w gT _ from hS.holds _ h3).cell (i := 1) rfl, hV.rg fun e he => hS.holds e (h1 e he), fun y hy => (hK y hy).ok (fun e he => hS.holds e (h2 e he)) (by
    obtain rfl := List.mem_singleton.1 hy
    rw [show y.r.acts = [Ac.one 0 1] from (congrArg (fun d : EnD => d.r.acts) hx :)]
    decide)⟩
theorem en20 {x : EnL} (hx : x.d = d20) : ∀ y ∈ [x], EnT y := fun y hy => by
  obtain rfl := List.mem_singleton.1 hy
  have ha : y.r.acts = [Ac.one 0 1] := (congrArg (fun d : EnD => d.r.acts) hx :)
  exact ⟨by rw [hx]; exact d20_in, by rw [ha]; exact fun a h => by obtain rfl := List.mem_singleton.1 h; decide, by rw [ha]; decide⟩
set_option maxHeartbeats 2000000 in
theorem Head20_c (w0 : World) (hG : GW w0) : Calls Tryz.prog 17 #[] w0 fun e w' => e = .returned (.bool true) ∧ Frm (fun _ => False) w0 w' := by
  refine enter Tryz.func17 rfl Tryz.ntmps17 rfl (St.start (fun _ => False) w0) ?_
  refine WC.seq <| WC.region <| WL.v (v_assign rfl rfl) rfl <| WL.nt <| WC.seq <| WC.region <| WL.call rfl rfl ck_18 (.none rfl) rfl rfl <| ?_
  intro w1 hS
  refine (FNew_c w1 2 5 (by decide) (by decide)).mono ?_
  rintro e w' ⟨gS, gT, rfl, hS'⟩
  refine ⟨_, _, rfl, hS.join hS', ?_⟩
  refine WL.v (v_move rfl rfl) rfl <| WL.v (v_extract rfl rfl rfl) rfl <| WL.v (v_extract rfl rfl rfl) rfl <| WL.v (v_assign rfl rfl) rfl <| WL.v (v_assign rfl rfl) rfl <| WL.nt <| WC.seq <| WC.region <| WL.call rfl rfl ck_45 (.none rfl) rfl rfl <| ?_
  intro w hS
  refine Calls.then (AOn_c w 0 (by omega) 1 (by omega) (by decide) (hG.keep (fun h => h) hS)) hS ?_
  refine WL.v (v_move rfl rfl) rfl <| WL.v (v_extract rfl rfl rfl) rfl <| WL.v (v_extract rfl rfl rfl) rfl <| WL.alloc rfl zero_110 (.none rfl) rfl rfl <| ?_
  intro g3 hg3
  refine WL.storeW rfl rfl rfl rfl many_110 rfl rfl (.none rfl) rfl <| WL.as (L' := [.row g3 (acL (Ac.one 0 1)), .row gS (SwL.cells ⟨gT, 0, 0, 0, 0, 2⟩), .row gT (TbL.cells ⟨5, none, 0, []⟩)]) rfl <| WL.v (v_assign rfl rfl) rfl <| WL.nt <| WC.seq <| WC.seq <| WC.held ([.row g3 (acL (Ac.one 0 1)), .row gS (SwL.cells ⟨gT, 0, 0, 0, 0, 2⟩)]) mixed <| ?_
  refine WRH.first (g := 7) [0, 1, 2, 3, 4, 5, 6, 7, 8, 9, 10, 11, 12, 13, 14, 15] (by kernel_rfl) (by kernel_rfl) (fun w hS => hS.sub (by repeat (first | exact List.Sublist.refl _ | exact List.nil_sublist _ | refine List.Sublist.cons_cons _ ?_ | refine List.Sublist.cons _ ?_ | refine List.sublist_append_of_sublist_right ?_))) ?_
  refine WH.val (v_move rfl rfl) (.none rfl) rfl rfl ?_
  refine WH.val ((v_neq rfl rfl rfl).f (by omega)) (.none rfl) rfl rfl ?_
  refine WH.val (v_move rfl rfl) (.none rfl) rfl rfl <| WH.val (v_move rfl rfl) (.some rfl rfl rfl) rfl rfl <| ?_
  refine WH.val ((v_neq rfl rfl rfl).f (by omega)) (.some rfl rfl rfl) rfl rfl ?_
  refine WH.val (v_pick_f rfl rfl rfl) (.none rfl) rfl rfl <| WH.val (v_move rfl rfl) (.none rfl) rfl rfl <| WH.val (v_move rfl rfl) (.some rfl rfl rfl) rfl rfl <| WH.val (v_eql_nil false rfl rfl Tryz.underlying42 rfl) (.some rfl rfl rfl) rfl rfl <| WH.val (v_pick_f rfl rfl rfl) (.none rfl) rfl rfl <| WH.val (v_move rfl rfl) (.none rfl) rfl rfl <| WH.val (v_move rfl rfl) (.some rfl rfl rfl) rfl rfl <| WH.val (v_nilCheck rfl rfl) (.some rfl rfl rfl) rfl rfl <| WH.val (v_fieldAddr0 rfl rfl fld_49_0) (.some rfl rfl rfl) rfl rfl <| WH.val (v_load1 rfl rfl one_45 (cellAt (v := .pointer (some ⟨gT, 0, none⟩)) rfl)) (.some rfl rfl rfl) rfl rfl <| WH.val (v_loadN rfl rfl many_110 rfl allAt) (.some rfl rfl rfl) rfl rfl <| WH.nil <| ?_
  refine WRH.one (g := 6) 16 (by kernel_rfl) ?_
  refine WL.buildSlice rfl rfl Tryz.underlying113 sz_110 zero_110 rfl (by decide) rfl (.some rfl rfl rfl) rfl rfl ?_
  intro g34 hg34
  refine WL.nilH (fun w hS => hS.sub (by repeat (first | exact List.Sublist.refl _ | exact List.nil_sublist _ | refine List.Sublist.cons_cons _ ?_ | refine List.Sublist.cons _ ?_ | refine List.sublist_append_of_sublist_right ?_))) ?_
  refine WRH.first (g := 4) [17, 18] (by kernel_rfl) (by kernel_rfl) (fun w hS => hS.sub (by repeat (first | exact List.Sublist.refl _ | exact List.nil_sublist _ | refine List.Sublist.cons_cons _ ?_ | refine List.Sublist.cons _ ?_ | refine List.sublist_append_of_sublist_right ?_))) ?_
  refine WH.val (v_build rfl rfl zero_117 plc_117 rfl) (.some rfl rfl rfl) rfl rfl <| WH.val (v_build rfl rfl zero_119 plc_119 rfl) (.some rfl rfl rfl) rfl rfl <| WH.nil <| ?_
  refine WRH.one (g := 3) 19 (by kernel_rfl) ?_
  refine WL.buildSlice rfl rfl Tryz.underlying40 sz_119 zero_119 rfl (by decide) rfl (.some rfl rfl rfl) rfl rfl ?_
  intro g37 hg37
  refine WL.as (L' := [.row g37 (ensL [ex20 g34]), .row g34 (actsL [Ac.one 0 1]), .row g3 (acL (Ac.one 0 1)), .row gS (SwL.cells ⟨gT, 0, 0, 0, 0, 2⟩), .row gT (TbL.cells ⟨5, none, 0, []⟩)]) rfl ?_
  refine WL.nilH (fun w hS => hS.sub (by repeat (first | exact List.Sublist.refl _ | exact List.nil_sublist _ | refine List.Sublist.cons_cons _ ?_ | refine List.Sublist.cons _ ?_ | refine List.sublist_append_of_sublist_right ?_))) ?_
  refine WRH.one (g := 2) 20 (by kernel_rfl) ?_
  refine WL.call rfl rfl ck_19 (.some rfl rfl rfl) rfl rfl ?_
  intro w1 hS
  refine (Change_c (fun _ => False) w0 w1 [.row g37 (ensL [ex20 g34]), .row g34 (actsL [Ac.one 0 1]), .row g3 (acL (Ac.one 0 1)), .row gS (SwL.cells ⟨gT, 0, 0, 0, 0, 2⟩)] [] [] gT ⟨5, none, 0, []⟩ none 0 [] (some ⟨g37, 0, none⟩) 1 [ex20 g34] (fun h => h) hG (Vec.nil 21) (fun e he => by cases he) hS.permX (fun w h hn => absurd rfl hn) (fun w h _ => ⟨g37, 0, rfl, allAt (g := g37) w h⟩) (fun w h x hx => (by obtain rfl := List.mem_singleton.1 hx; exact ⟨d20_in, fun _ => ⟨g34, 0, rfl, allAt (g := g34) w h⟩⟩)) (by decide) List.Pairwise.nil (by decide) (by decide) (show 1 < 20 by decide)).mono ?_
  rintro e w' ⟨code, ⟨most, tad, tc, tes⟩, E2, K2, rfl, rfl, hCh, hV2, hK2, hS'⟩
  obtain ⟨rfl, x1, rfl, hx1⟩ := ex20_table hCh
  refine ⟨_, _, rfl, hS', ?_⟩
  refine WL.nilH (fun w hS => hS.sub (by repeat (first | exact List.Sublist.refl _ | exact List.nil_sublist _ | refine List.Sublist.cons_cons _ ?_ | refine List.Sublist.cons _ ?_ | refine List.sublist_append_of_sublist_right ?_))) ?_
  refine WRH.first (g := 0) [21, 22] (by kernel_rfl) (by kernel_rfl) (fun w hS => hS.sub (by repeat (first | exact List.Sublist.refl _ | exact List.nil_sublist _ | refine List.Sublist.cons_cons _ ?_ | refine List.Sublist.cons _ ?_ | refine List.sublist_append_of_sublist_right ?_))) ?_
  refine WH.val ((v_neq rfl rfl rfl).f (by omega)) (.some rfl rfl rfl) rfl rfl ?_
  refine WH.val (v_pick_f rfl rfl rfl) (.none rfl) rfl rfl <| WH.nil <| ?_
  refine WRH.done (by kernel_rfl) ?_
  refine WE.then_n <| WC.cond_f rfl <| WC.skip <| WE.then_n <| WC.seq <| WC.region <| ?_
  refine WL.make1 (m := 14) (c := 14) rfl rfl rfl rfl rfl (by omega) Tryz.underlying41 by_5 (by omega) (by omega) one_5 zero_5 (.none rfl) rfl rfl ?_
  intro g41 hg41
  refine WL.to (L' := .row gS (SwL.cells ⟨gT, 0, 0, 0, 0, 2⟩) :: .row g41 (bcs (fun _ => 0) 14 ++ []) :: .row gT (TbL.cells ⟨5, tad, tc, [x1]⟩) :: (E2 ++ (K2 ++ [.row g37 (ensL [ex20 g34]), .row g34 (actsL [Ac.one 0 1]), .row g3 (acL (Ac.one 0 1))]))) (fun w hS => by
  have hS : St (fun _ => False) w0 w (.row g41 (bcs (fun _ => 0) 14 ++ []) :: .row gT (TbL.cells ⟨5, tad, tc, [x1]⟩) :: (E2 ++ (K2 ++ [.row g37 (ensL [ex20 g34]), .row g34 (actsL [Ac.one 0 1]), .row g3 (acL (Ac.one 0 1)), .row gS (SwL.cells ⟨gT, 0, 0, 0, 0, 2⟩)]))) := hS
  exact hS.permX) ?_
  refine WL.v (v_assign rfl rfl) rfl <| WL.nt <| WC.seq <| WC.region <| WL.v (v_move rfl rfl) rfl <| WL.v (v_move rfl rfl) rfl <| WL.call rfl rfl ck_20 (.none rfl) rfl rfl <| ?_
  intro w1 hS
  refine (Put_c (p := fun _ => False) (w0 := w0) (L := .row g41 (bcs (fun _ => 0) 14 ++ []) :: .row gT (TbL.cells ⟨5, tad, tc, [x1]⟩) :: (E2 ++ (K2 ++ [.row g37 (ensL [ex20 g34]), .row g34 (actsL [Ac.one 0 1]), .row g3 (acL (Ac.one 0 1))]))) gS ⟨gT, 0, 0, 0, 0, 2⟩ ⟨5, tad, tc, [x1]⟩ 0 (some ⟨g41, 0, none⟩) 14 14 (fun _ => 0) hS (fun h => h) hG (fun w h => tab20 hx1 hV2 hK2 h (fun e he => by simp [he]) (fun e he => by simp [he]) (by simp)) (fun w h => rdRow (g := g41) (r := []) h) (fun _ => (by decide : (0 : Int) ≤ 0 ∧ (0 : Int) ≤ 255)) (by decide) ⟨by dsimp only; omega, by dsimp only; omega, by dsimp only; omega, by dsimp only; omega, by dsimp only; omega⟩ (en20 hx1) (show 1 ≤ 5000 by decide)).mono ?_
  rintro e w' ⟨code1, ad1, c1, os1, EO1, KO1, sw1, rfl, hP1, hV1, hO1, hS'⟩
  obtain ⟨rfl, ⟨b1, hos1⟩, rfl⟩ := put20a hx1 hP1
  obtain ⟨o1, rfl, ho1⟩ : ∃ o1, os1 = [o1] ∧ o1.d = ⟨1, b1⟩ := List.map_eq_singleton_iff.1 hos1
  have hp1 : o1.port = 1 := (congrArg OutD.port ho1 :)
  refine ⟨_, .row gS (SwL.cells ⟨gT, 0 + 1, 0 + 1, 0, 0, 2⟩) :: .row g41 (bcs (fun _ => 0) 14 ++ []) :: (EO1 ++ (KO1 ++ (.row gT (TbL.cells ⟨5, tad, tc, [x1]⟩) :: (E2 ++ (K2 ++ [.row g37 (ensL [ex20 g34]), .row g34 (actsL [Ac.one 0 1]), .row g3 (acL (Ac.one 0 1))]))))), rfl, hS'.permX, ?_⟩
  refine WL.v (v_move rfl rfl) rfl <| WL.v (v_extract rfl rfl rfl) rfl <| WL.v (v_extract rfl rfl rfl) rfl <| WL.v (v_assign rfl rfl) rfl <| WL.v (v_assign rfl rfl) rfl <| WL.nt <| WC.seq <| WC.region <| WL.v (v_move rfl rfl) rfl <| WL.v (v_move rfl rfl) rfl <| WL.call rfl rfl ck_20 (.none rfl) rfl rfl <| ?_
  intro w1 hS
  refine (Put_c (p := fun _ => False) (w0 := w0) (L := .row g41 (bcs (fun _ => 0) 14 ++ []) :: (EO1 ++ (KO1 ++ (.row gT (TbL.cells ⟨5, tad, tc, [x1]⟩) :: (E2 ++ (K2 ++ [.row g37 (ensL [ex20 g34]), .row g34 (actsL [Ac.one 0 1]), .row g3 (acL (Ac.one 0 1))])))))) gS ⟨gT, 0 + 1, 0 + 1, 0, 0, 2⟩ ⟨5, tad, tc, [x1]⟩ 1 (some ⟨g41, 0, none⟩) 14 14 (fun _ => 0) hS (fun h => h) hG (fun w h => tab20 hx1 hV2 hK2 h (fun e he => by simp [he]) (fun e he => by simp [he]) (by simp)) (fun w h => rdRow (g := g41) (r := []) h) (fun _ => (by decide : (0 : Int) ≤ 0 ∧ (0 : Int) ≤ 255)) (by decide) ⟨by dsimp only; omega, by dsimp only; omega, by dsimp only; omega, by dsimp only; omega, by dsimp only; omega⟩ (en20 hx1) (show 1 ≤ 5000 by decide)).mono ?_
  rintro e w' ⟨code2, ad2, c2, os2, EO2, KO2, sw2, rfl, hP2, hV2o, hO2, hS'⟩
  obtain ⟨rfl, hos2⟩ := put20b hx1 hP2
  obtain rfl : os2 = [] := List.map_eq_nil_iff.1 hos2
  obtain ⟨q1, rfl⟩ := hV1.some_of (show 0 < 1 by decide)
  obtain ⟨b5, o5, ea5, r5⟩ := hV1.srcR (L := .row gS sw2.cells :: (EO2 ++ (KO2 ++ (.row g41 (bcs (fun _ => 0) 14 ++ []) :: (EO1 ++ (KO1 ++ (.row gT (TbL.cells ⟨5, tad, tc, [x1]⟩) :: (E2 ++ (K2 ++ [.row g37 (ensL [ex20 g34]), .row g34 (actsL [Ac.one 0 1]), .row g3 (acL (Ac.one 0 1))]))))))))) (fun e he => by simp [he]) (by show 0 < 2; decide)
  cases ea5
  refine ⟨_, _, rfl, hS', ?_⟩
  refine WL.v (v_move rfl rfl) rfl <| WL.v (v_extract rfl rfl rfl) rfl <| WL.v (v_extract rfl rfl rfl) rfl <| WL.v (v_assign rfl rfl) rfl <| WL.v (v_assign rfl rfl) rfl <| WL.nt <| WC.seq <| WC.region <| WL.v (v_move rfl rfl) rfl <| ?_
  refine WL.v ((v_eql rfl rfl rfl).t (by omega)) rfl ?_
  refine WL.v (v_move rfl rfl) rfl <| WL.val (v_move rfl rfl) (.some rfl rfl rfl) rfl rfl <| ?_
  refine WL.val ((v_eql rfl rfl rfl).t (by omega)) (.some rfl rfl rfl) rfl rfl ?_
  refine WL.v (v_pick_t rfl rfl rfl) rfl <| WL.v (v_move rfl rfl) rfl <| WL.val (v_move rfl rfl) (.some rfl rfl rfl) rfl rfl <| WL.val (v_len_slice rfl rfl Tryz.underlying51) (.some rfl rfl rfl) rfl rfl <| WL.val ((v_eql rfl rfl rfl).t (rfl)) (.some rfl rfl rfl) rfl rfl <| WL.v (v_pick_t rfl rfl rfl) rfl <| WL.v (v_move rfl rfl) rfl <| WL.val (v_move rfl rfl) (.some rfl rfl rfl) rfl rfl <| ?_
  refine WL.val (v_indexAddr (lo := 0) rfl rfl rfl Tryz.underlying51 sz_67 rfl (show 0 < 1 by decide)) (.some rfl rfl rfl) rfl rfl ?_
  refine WL.val (v_fieldAddr0 rfl rfl fld_67_0) (.some rfl rfl rfl) rfl rfl ?_
  refine WL.val (v_load1 rfl rfl one_3 (v := .int .i64 1) (fun w hS => by
  have := r5 _ _ w hS 0 _ rfl
  rw [hp1] at this
  exact this)) (.some rfl rfl rfl) rfl rfl ?_
  refine WL.val ((v_eql rfl rfl rfl).t (by omega)) (.some rfl rfl rfl) rfl rfl ?_
  refine WL.v (v_pick_t rfl rfl rfl) rfl <| WL.v (v_move rfl rfl) rfl <| WL.val (v_move rfl rfl) (.some rfl rfl rfl) rfl rfl <| WL.val (v_len_slice rfl rfl Tryz.underlying51) (.some rfl rfl rfl) rfl rfl <| WL.val ((v_eql rfl rfl rfl).t (rfl)) (.some rfl rfl rfl) rfl rfl <| WL.v (v_pick_t rfl rfl rfl) rfl <| WL.v (v_assign rfl rfl) rfl <| WL.nt <| WC.ret <| WE.ret1 (P := Tryz.prog) (.inl rfl) Tryz.results17 rfl <| ?_
  exact fun w' h => ⟨rfl, h.frm⟩
end Go.Proofs.YtkeonnnhogaggaaGreatDoor
/- An act that came in as an argument. -/
namespace Go.Proofs.YtkeonnnhogaggaaGreatDoor
open Go.RowKit

end Go.Proofs.YtkeonnnhogaggaaGreatDoor
/- Entries of a table as an argument. -/
namespace Go.Proofs.YtkeonnnhogaggaaGreatDoor
open Go.RowKit

/-- Elements that read as data: a list. -/
theorem rgs_of {P : Program} {w : World} {e s len : Nat} {a : Option Addr} {α : Type} {enc : α → List Value} {good : α → Prop} (hk : ∀ x, (enc x).length = s) (hx : ∀ cs, cs.length = s → Tree P w e cs → ∃ x, cs = enc x ∧ good x) (h : Elems P w e s a len) : ∃ xs : List α, xs.length = len ∧ Rg w a (encL enc xs) ∧ ∀ x ∈ xs, good x := by
  by_cases hl : 0 < len
  · obtain ⟨b, off, rfl, hE⟩ := h hl
    have hE' : ∀ i : Fin len, ∃ x, w.rangeAt b (off + i.1 * s) (enc x) ∧ good x := fun i => by
      obtain ⟨cs, hc, hr, hT⟩ := hE i.1 i.2
      obtain ⟨x, rfl, hg⟩ := hx cs hc hT
      exact ⟨x, hr, hg⟩
    have key : ∀ k, k ≤ len → ∃ xs : List α, xs.length = k ∧ w.rangeAt b off (encL enc xs) ∧ ∀ x ∈ xs, good x := by
      intro k
      induction k with
      | zero => exact fun _ => ⟨[], rfl, fun j v hj => by simp [encL] at hj, fun x h => by cases h⟩
      | succ k ih =>
        intro hk1
        obtain ⟨xs, e, hr, hg⟩ := ih (by omega)
        obtain ⟨x, hr2, hg2⟩ := hE' ⟨k, by omega⟩
        refine ⟨xs ++ [x], by rw [List.length_append, e]; rfl, fun j v hj => ?_, fun y hy => ?_⟩
        · rw [encL_snoc] at hj
          have hlen := encL_len hk xs
          by_cases hlt : j < (encL enc xs).length
          · rw [List.getElem?_append_left hlt] at hj; exact hr j v hj
          · rw [List.getElem?_append_right (by omega)] at hj
            have := hr2 _ v hj
            rw [hlen, e] at this hlt
            rwa [show off + k * s + (j - k * s) = off + j by omega] at this
        · rcases List.mem_append.1 hy with hy | hy
          · exact hg y hy
          · rw [List.mem_singleton.1 hy]; exact hg2
    obtain ⟨xs, e, hr, hg⟩ := key len (Nat.le_refl _)
    exact ⟨xs, e, fun _ => ⟨b, off, rfl, hr⟩, hg⟩
  · exact ⟨[], by rw [List.length_nil]; omega, fun hn => absurd rfl hn, fun x hm => by cases hm⟩
end Go.Proofs.YtkeonnnhogaggaaGreatDoor
/- FabricDrops. -/
namespace Go.Proofs.YtkeonnnhogaggaaGreatDoor
open Go.RowKit Go.Sort

/-- A frame that came in. -/
structure FrL where
  ad : Option Addr
  n : Nat
  c : Nat
  f : Nat → Int
def FrL.cells (x : FrL) : List Value := [.slice x.ad x.n x.c]
structure FrOk (w : World) (x : FrL) : Prop where
  le : x.n ≤ x.c
  rd : RdO w x.ad x.n x.f
  byt : Byt x.f
theorem Arg.frs {w : World} {v : Value} (h : Arg Tryz.prog w 72 v) : ∃ a cap, ∃ xs : List FrL, v = .slice a xs.length cap ∧ xs.length ≤ cap ∧ Rg w a (encL FrL.cells xs) ∧ ∀ x ∈ xs, FrOk w x := by
  obtain ⟨a, len, cap, rfl, h1, h2, hE⟩ := h.slice (s := 1) Tryz.underlying72 (by kernel_rfl) (by decide)
  obtain ⟨xs, rfl, hr, hg⟩ := rgs_of (enc := FrL.cells) (good := fun x => FrOk w x) (fun _ => rfl) (fun cs hc hT => by
    match cs, hc with
    | [y], _ =>
      obtain ⟨a2, n, c2, rfl, k1, _, hE2⟩ := Tree.slice (s := 1) Tryz.underlying41 (by kernel_rfl) (by decide) hT
      obtain ⟨f, k2, k3⟩ := hE2.bytes Tryz.underlying5
      exact ⟨⟨a2, n, c2, f⟩, rfl, ⟨k1, k2, k3⟩⟩) hE
  exact ⟨a, cap, xs, rfl, h1, hr, hg⟩
theorem run_none {H : Hd} {hs : List Hd} (h : TRunP [] H hs) : hs = [] := by
  rcases h with ⟨_, h⟩ | ⟨i, x, hx, _⟩
  · exact h
  · simp at hx
/-- The switch behind a frame that went nowhere. -/
def swN (sw : SwL) (e : Int) : SwL := if e = 0 then { sw with in_ := sw.in_ + 1, nought := sw.nought + 1 } else { sw with in_ := sw.in_ + 1, wrong := sw.wrong + 1 }
/-- Put where there are no entries. -/
theorem put_none {sw sw' : SwL} {port : Int} {f : Nat → Int} {n : Nat} {code : Int} {os : List OutD} (h : PutP sw [] port f n code os sw') (hp : 0 ≤ port ∧ port < sw.ports) :
    code = prErr port f n ∧ os = [] ∧ sw' = swN sw (prErr port f n) := by
  unfold swN
  by_cases he : prErr port f n = 0
  · obtain ⟨h1, _, _, ⟨hs, h3, _, h4⟩, h5⟩ := h.ok hp he
    have ho : os = [] := List.eq_nil_iff_forall_not_mem.2 fun u hu => by
      obtain ⟨y, k1, _⟩ := (h4 u).1 hu
      rw [run_none h3] at k1
      cases k1
    subst ho
    refine ⟨by rw [h1, he], rfl, ?_⟩
    rw [h5, if_pos he, if_pos rfl]
    show SwL.mk _ _ (sw.out + (0 : Nat)) _ _ _ = _
    rw [Int.natCast_zero, Int.add_zero]
  · obtain ⟨h1, h2, h3⟩ := h.err hp he
    exact ⟨h1, h2, by rw [h3, if_neg he]⟩
structure DrS where
  k : Nat
  m : Nat
def swD (gT k m : Nat) : SwL := ⟨gT, k, 0, m, (k : Int) - m, 3⟩
theorem swN_bad {gT k m : Nat} {e : Int} (h : e ≠ 0) : swN (swD gT k m) e = swD gT (k + 1) (m + 1) := by
  unfold swN swD
  rw [if_neg h]
  congr 1
  show (k : Int) - m = ((k + 1 : Nat) : Int) - ((m + 1 : Nat) : Int)
  omega
theorem swN_ok {gT k m : Nat} {e : Int} (h : e = 0) : swN (swD gT k m) e = swD gT (k + 1) m := by
  unfold swN swD
  rw [if_pos h]
  congr 1
  show (k : Int) - m + 1 = ((k + 1 : Nat) : Int) - m
  omega
set_option maxHeartbeats 1000000 in
theorem FabricDrops_all (w0 : World) (hG : GW w0) (fa : Option Addr) (fc : Nat) (fs : List FrL) (hr : Rg w0 fa (encL FrL.cells fs)) (hx : ∀ x ∈ fs, FrOk w0 x) :
    Calls Tryz.prog 6 #[.slice fa fs.length fc] w0 fun e w' => e = .returned (.bool true) ∧ Frm (fun _ => False) w0 w' := by
  refine enter Tryz.func6 rfl Tryz.ntmps6 rfl (St.start (fun _ => False) w0) ?_
  refine WC.seq <| WC.region <| WL.v (v_assign rfl rfl) rfl <| WL.nt <| WC.seq <| WC.seq <| WC.region <| WL.call rfl rfl ck_17 (.none rfl) rfl rfl <| ?_
  intro w hS
  refine Calls.then (Head20_c w (hG.keep (fun h => h) hS)) hS ?_
  refine WL.v (v_not rfl rfl rfl) rfl <| WL.nt <| WC.cond_f rfl <| WC.skip <| WE.then_n <| WC.seq <| WC.seq <| WC.region <| WL.v (v_move rfl rfl) rfl <| WL.v (v_len_slice rfl rfl Tryz.underlying72) rfl <| ?_
  refine WL.test (v_gtr rfl rfl rfl) (.none rfl) rfl rfl (fun h16 => ?_) (fun h16 => ?_)
  ·
   refine WL.nt <| WC.cond_t rfl <| WC.seq <| WC.region <| WL.v (v_assign rfl rfl) rfl <| WL.nt <| WC.ret <| WE.then_ret <| WE.ret1 (P := Tryz.prog) (.inl rfl) Tryz.results6 rfl <| ?_
   exact fun w' h => ⟨rfl, h.frm⟩
  ·
   refine WL.nt <| WC.cond_f rfl <| WC.skip <| WE.then_n <| WC.seq <| WC.region <| WL.call rfl rfl ck_18 (.none rfl) rfl rfl <| ?_
   intro w1 hS
   refine (FNew_c w1 3 5 (by decide) (by decide)).mono ?_
   rintro e w' ⟨gS, gT, rfl, hS'⟩
   refine ⟨_, _, rfl, hS.join hS', ?_⟩
   refine WL.v (v_move rfl rfl) rfl <| WL.v (v_extract rfl rfl rfl) rfl <| WL.v (v_extract rfl rfl rfl) rfl <| WL.v (v_assign rfl rfl) rfl <| WL.v (v_assign rfl rfl) rfl <| WL.nt <| WC.seq <| WC.seq <| WC.region <| WL.v (v_move rfl rfl) rfl <| ?_
   refine WL.v ((v_neq rfl rfl rfl).f (by omega)) rfl ?_
   refine WL.nt <| WC.cond_f rfl <| WC.skip <| WE.then_n <| WC.seq <| WC.region <| WL.v (v_assign rfl rfl) rfl <| WL.nt <| WC.seq <| WC.seq <| WC.region <| WL.v (v_move rfl rfl) rfl <| WL.v (v_len_slice rfl rfl Tryz.underlying72) rfl <| WL.v (v_move rfl rfl) rfl <| ?_
   refine WL.nt <| WC.block <| WC.loop (fun x : DrS => [(25, .int .i64 x.k), (24, .int .i64 fs.length), (23, .slice fa fs.length fc), (5, .int .i64 x.m), (3, .pointer (some ⟨gS, 0, none⟩)), (0, .slice fa fs.length fc)]) (fun x => [.row gS (swD gT x.k x.m).cells, .row gT (TbL.cells ⟨5, none, 0, []⟩)]) (fun x => x.k ≤ fs.length ∧ x.m ≤ x.k) (fun x => fs.length - x.k) ⟨0, 0⟩ ⟨Nat.zero_le _, Nat.le_refl _⟩ (.cons rfl (.cons rfl (.cons rfl (.cons rfl (.cons rfl (.cons rfl .nil)))))) (.refl _) <| ?_
   rintro ⟨k, m⟩ ⟨hk, hm⟩
   dsimp only at hk hm
   dsimp only
   refine WC.seq <| WC.region <| ?_
   refine WL.test (v_lss rfl rfl rfl) (.none rfl) rfl rfl (fun h26 => ?_) (fun h26 => ?_)
   ·
    refine WL.nt <| WC.seq <| WC.cond_t rfl <| WC.skip <| WE.then_n <| WC.seq <| WC.block <| WC.seq <| WC.region <| WL.v (v_move rfl rfl) rfl <| ?_
    obtain ⟨x, hxk⟩ : ∃ x, fs[k]? = some x := ⟨fs[k]'(by omega), List.getElem?_eq_getElem _⟩
    obtain ⟨b1, o1, ea1, q1⟩ := hr (by intro hh; have := encL_len (enc := FrL.cells) (k := 1) (fun _ => rfl) fs; rw [hh] at this; simp at this; omega)
    have hxo := hx x (List.mem_of_getElem? hxk)
    refine WL.v ((v_indexAddr (b := b1) (off := o1) (lo := k) rfl (by show some (Value.slice fa _ _) = _; rw [ea1]) rfl Tryz.underlying72 sz_41 rfl (by omega))) rfl ?_
    refine WL.val (v_load1 rfl rfl one_41 (v := .slice x.ad x.n x.c) (fun w hS => by
    have := rgIn (fun h => h) (Rg.seg (enc := FrL.cells) (fun _ => rfl) q1 hxk) w hS 0 _ rfl
    exact this)) (.none rfl) rfl rfl ?_
    refine WL.v (v_assign rfl rfl) rfl <| WL.v (v_assign rfl rfl) rfl <| WL.nt <| WC.seq <| WC.seq <| WC.region <| WL.v (v_move rfl rfl) rfl <| WL.v (v_len_slice rfl rfl Tryz.underlying41) rfl <| ?_
    refine WL.test (v_gtr rfl rfl rfl) (.none rfl) rfl rfl (fun h32 => ?_) (fun h32 => ?_)
    ·
     refine WL.nt <| WC.cond_t rfl <| WC.seq <| WC.region <| WL.v (v_assign rfl rfl) rfl <| WL.nt <| WC.ret <| WE.then_ret <| WE.block_ret <| WE.then_ret <| WE.then_ret <| WE.block_ret <| WE.then_ret <| WE.ret1 (P := Tryz.prog) (.inl rfl) Tryz.results6 rfl <| ?_
     exact fun w' h => ⟨rfl, h.frm⟩
    ·
     refine WL.nt <| WC.cond_f rfl <| WC.skip <| WE.then_n <| WC.seq <| WC.region <| WL.v (v_move rfl rfl) rfl <| WL.v (v_move rfl rfl) rfl <| ?_
     refine WL.v (v_rem rfl rfl rfl (by omega) (by omega)) rfl ?_
     refine WL.v (v_move rfl rfl) rfl <| WL.call rfl rfl ck_20 (.none rfl) rfl rfl <| ?_
     intro w1 hS
     refine (Put_c (p := fun _ => False) (w0 := w0) (L := [.row gT (TbL.cells ⟨5, none, 0, []⟩)]) gS (swD gT k m) ⟨5, none, 0, []⟩ _ x.ad x.n x.c x.f hS (fun h => h) hG (fun w h => ⟨St.cell (g := gT) h rfl, fun hn => absurd rfl hn, fun y hy => (by cases hy)⟩) (fun w h => rdOOld (fun _ h => h) hxo.rd w h) hxo.byt hxo.le ⟨by unfold swD; dsimp only; omega, by unfold swD; dsimp only; omega, by unfold swD; dsimp only; omega, by unfold swD; dsimp only; omega, by unfold swD; dsimp only; omega⟩ (fun y hy => (by cases hy)) (show 0 ≤ 5000 by decide)).mono ?_
     rintro e w' ⟨code, ad, c, os, E, K, sw', rfl, hP, _, _, hS'⟩
     obtain ⟨rfl, hos, rfl⟩ := put_none hP ⟨by omega, by show _ < (3 : Int); omega⟩
     obtain rfl : os = [] := List.map_eq_nil_iff.1 hos
     refine ⟨_, [.row gS _, .row gT (TbL.cells ⟨5, none, 0, []⟩)], rfl, hS'.sub (.cons_cons _ (List.sublist_append_of_sublist_right (List.sublist_append_right _ _))), ?_⟩
     refine WL.v (v_move rfl rfl) rfl <| WL.v (v_extract rfl rfl rfl) rfl <| WL.v (v_extract rfl rfl rfl) rfl <| WL.v (v_assign rfl rfl) rfl <| WL.v (v_assign rfl rfl) rfl <| WL.nt <| WC.seq <| WC.region <| WL.v (v_move rfl rfl) rfl <| ?_
     refine WL.v (v_rem rfl rfl rfl (by omega) (by omega)) rfl ?_
     refine WL.v (v_move rfl rfl) rfl <| WL.call rfl rfl ck_21 (.none rfl) rfl rfl <| ?_
     intro w1 hS
     refine (Parse_c w1 _ x.ad x.n x.c x.f (rdOOld (fun _ h => h) hxo.rd w1 hS) hxo.byt hxo.le).mono ?_
     rintro e w' ⟨V, rfl, hV, hF⟩
     obtain ⟨H1, W1, rw1, po1, en1, rfl⟩ : ∃ H1 W1 rw1 po1 en1, V = packV H1 W1 rw1 po1 en1 := (by
       rcases hV with ⟨h1, h2⟩ | ⟨h1, h2⟩
       · exact ⟨_, _, _, _, _, h2⟩
       · exact ⟨_, _, _, _, _, h2⟩)
     refine ⟨_, _, rfl, hS.ext hF, ?_⟩
     refine WL.v (v_move rfl rfl) rfl <| WL.v (v_extract rfl rfl rfl) rfl <| WL.v (v_extract rfl rfl rfl) rfl <| WL.alloc rfl zero_61 (.none rfl) rfl rfl <| ?_
     intro g10 hg10
     refine WL.storeW rfl rfl rfl rfl many_61 rfl rfl (.none rfl) rfl <| WL.v (v_assign rfl rfl) rfl <| WL.nt <| WC.seq <| WC.seq <| WC.region <| WL.v (v_move rfl rfl) rfl <| WL.v (v_len_slice rfl rfl Tryz.underlying51) rfl <| WL.v ((v_neq rfl rfl rfl).f (fun h => h rfl)) rfl <| WL.v (v_move rfl rfl) rfl <| WL.val (v_move rfl rfl) (.some rfl rfl rfl) rfl rfl <| WL.val (v_move rfl rfl) (.some rfl rfl rfl) rfl rfl <| ?_
     refine WL.val ((v_neq rfl rfl rfl).f (by omega)) (.some rfl rfl rfl) rfl rfl ?_
     refine WL.v (v_pick_f rfl rfl rfl) rfl <| WL.nt <| WC.cond_f rfl <| WC.skip <| WE.then_n <| WC.seq <| WC.region <| WL.v (v_move rfl rfl) rfl <| ?_
     refine WL.test (v_neq rfl rfl rfl) (.none rfl) rfl rfl (fun h57 => ?_) (fun h57 => ?_)
     ·
      refine WL.nt <| WC.cond_t rfl <| WC.region <| WL.v (v_move rfl rfl) rfl <| ?_
      refine WL.v (v_add rfl rfl rfl (w_i64 (by omega) (by omega))) rfl ?_
      refine WL.v (v_assign rfl rfl) rfl <| WL.nil <| WE.block_n <| WE.then_n <| WC.region <| ?_
      refine WL.v (v_add rfl rfl rfl (w_i64 (by omega) (by omega))) rfl ?_
      refine WL.v (v_move rfl rfl) rfl <| WL.nil <| ?_
      exact WE.next ⟨k + 1, m + 1⟩ (by dsimp only; omega) ⟨by dsimp only; omega, by dsimp only; omega⟩ (.int rfl (by dsimp only; omega) (.cons rfl (.cons rfl (.int rfl (by dsimp only; omega) (.cons rfl (.cons rfl .nil)))))) (by rw [swN_bad h57]; exact .cons _ (.refl _))
     ·
      refine WL.nt <| WC.cond_f rfl <| WC.skip <| WE.block_n <| WE.then_n <| WC.region <| ?_
      refine WL.v (v_add rfl rfl rfl (w_i64 (by omega) (by omega))) rfl ?_
      refine WL.v (v_move rfl rfl) rfl <| WL.nil <| ?_
      exact WE.next ⟨k + 1, m⟩ (by dsimp only; omega) ⟨by dsimp only; omega, by dsimp only; omega⟩ (.int rfl (by dsimp only; omega) (.cons rfl (.cons rfl (.cons rfl (.cons rfl (.cons rfl .nil)))))) (by rw [swN_ok (Decidable.of_not_not h57)]; exact .cons _ (.refl _))
   ·
    refine WL.nt <| WC.seq <| WC.cond_f rfl <| WC.exit <| WE.then_exit <| WE.then_exit <| WE.block_hit <| WE.then_n <| WC.seq <| WC.region <| WL.v (v_move rfl rfl) rfl <| ?_
    obtain rfl : k = fs.length := (by omega)
    refine WL.v (v_nilCheck rfl rfl) rfl <| WL.v (v_fieldAddr0 rfl rfl fld_49_1) rfl <| WL.v (v_loadN (cs := [.int .i64 (fs.length : Int), .int .i64 0, .int .i64 (m : Int), .int .i64 ((fs.length : Int) - m)]) rfl rfl many_47 rfl (segAt (g := gS) (m := 4) (new := [.int .i64 (fs.length : Int), .int .i64 0, .int .i64 (m : Int), .int .i64 ((fs.length : Int) - m)]) rfl)) rfl <| WL.v (v_move rfl rfl) rfl <| WL.v (v_len_slice rfl rfl Tryz.underlying72) rfl <| WL.v (v_move rfl rfl) rfl <| WL.v (v_move rfl rfl) rfl <| WL.v (v_len_slice rfl rfl Tryz.underlying72) rfl <| WL.v (v_move rfl rfl) rfl <| ?_
    refine WL.v (v_sub rfl rfl rfl (w_i64 (by omega) (by omega))) rfl ?_
    refine WL.v (v_build rfl rfl zero_47 plc_47 rfl) rfl ?_
    refine WL.v (v_eql_aggT rfl rfl rfl eqk_47 eqg_47 rfl rfl (by rfl)) rfl ?_
    refine WL.v (v_assign rfl rfl) rfl <| WL.nt <| WC.ret <| WE.ret1 (P := Tryz.prog) (.inl rfl) Tryz.results6 rfl <| ?_
    exact fun w' h => ⟨rfl, h.frm⟩
end Go.Proofs.YtkeonnnhogaggaaGreatDoor
