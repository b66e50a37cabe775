/- Texts joined: engine, contracts and laws, in the order in which they build. -/
import Derived.OrdersHeld
import Derived.Test.YtpjbofodllhjbaaDoorBcStreamFeeds
/- bgp: what an Update has behind its head. -/
namespace Go.Proofs.YtpjbofodllhjbaaDoor
open Go.RowKit

/-- The bytes behind a length of two bytes, and what is behind them. -/
def countR (xs : List Int) : Option (List Int × List Int) :=
  if xs.length < 2 ∨ (xs.length : Int) < 2 + (fOf xs 0 * 256 + fOf xs 1) then none else some ((xs.drop 2).take (fOf xs 0 * 256 + fOf xs 1).toNat, xs.drop (2 + (fOf xs 0 * 256 + fOf xs 1).toNat))
theorem netsR_len : ∀ (n : Nat) {xs : List Int} {ps : List PfL}, xs.length ≤ n → netsR xs = some ps → ps.length ≤ xs.length
  | _, [], ps, _, h => by rw [netsR] at h; cases h; exact Nat.le_refl _
  | 0, x :: xs, ps, hn, h => by simp at hn
  | n + 1, x :: xs, ps, hn, h => by
    rw [netsR_cons] at h
    split at h
    · cases h
    · obtain ⟨q, hq, rfl⟩ := Option.map_eq_some_iff.1 h
      rw [List.length_cons] at hn
      have := netsR_len n (by rw [List.length_drop]; omega) hq
      rw [List.length_drop] at this
      simp only [List.length_cons]; omega
theorem counted_u (w : World) (b o c : Nat) (xs : List Int) (hW : Win w b o c xs) (hn : xs.length ≤ 1000000) :
    Calls Tryd.prog 60 #[.slice (some ⟨b, o, none⟩) xs.length c] w fun e w' => ∃ (u r : Value) (ok : Bool), e = .returned (.tuple #[u, r, .bool ok]) ∧ Frm (fun _ => False) w w' ∧ (ok = false → countR xs = none) ∧
      (ok = true → ∃ (y z : List Int) (o1 c1 o2 c2 : Nat), countR xs = some (y, z) ∧ y.length ≤ xs.length ∧ z.length ≤ xs.length ∧ u = .slice (some ⟨b, o1, none⟩) y.length c1 ∧ r = .slice (some ⟨b, o2, none⟩) z.length c2 ∧ ∀ w0, Win w0 b o c xs → Win w0 b o1 c1 y ∧ Win w0 b o2 c2 z) := by
  by_cases h : xs.length < 2 ∨ (xs.length : Int) < 2 + (fOf xs 0 * 256 + fOf xs 1)
  · exact (counted_no w b o c xs hW hn h).mono fun e w' ⟨he, hF⟩ => ⟨_, _, false, he, hF, fun _ => by unfold countR; rw [if_pos h], fun e => by cases e⟩
  · have b0 := fOf_b hW.bys 0
    have b1 := fOf_b hW.bys 1
    obtain ⟨k, ek⟩ := Int.eq_ofNat_of_zero_le (show 0 ≤ fOf xs 0 * 256 + fOf xs 1 by omega)
    refine (counted_ok w b o c xs hW hn (by omega) k ek.symm (by omega)).mono fun e w' ⟨he, hF⟩ => ⟨_, _, true, he, hF, fun e => (by cases e), fun _ => ?_⟩
    have hl : ((xs.drop 2).take k).length = k := by rw [List.length_take, List.length_drop]; omega
    refine ⟨(xs.drop 2).take k, xs.drop (2 + k), sAddr o 2 c 1, c - 2, sAddr o (2 + k) c 1, c - (2 + k), by unfold countR; rw [if_neg h, ek, Int.toNat_natCast], by omega, by rw [List.length_drop]; omega, ?_, ?_, fun w0 hW0 => ⟨(hW0.drop 2).take k, hW0.drop (2 + k)⟩⟩
    · unfold winV; rw [hl, Nat.add_sub_cancel_left]
    · unfold winV; rw [List.length_drop]
theorem getNets_u (w0 : World) (b o c : Nat) (xs : List Int) (hW : Win w0 b o c xs) (hn : xs.length ≤ 100000) :
    Calls Tryd.prog 61 #[.slice (some ⟨b, o, none⟩) xs.length c] w0 fun e w' => ∃ (ps : List PfL) (ad : Option Addr) (c' : Nat) (E : List Ent) (ok : Bool), e = .returned (.tuple #[.slice ad ps.length c', .bool ok]) ∧ Vec 2 ad ps.length c' (pfsL ps) E ∧ St (fun _ => False) w0 w' E ∧ (ok = false → netsR xs = none) ∧ (ok = true → netsR xs = some ps) :=
  (getNets_c w0 b o c xs hW hn).mono fun e w' h => by
    unfold NetsP at h
    cases hp : netsR xs with
    | none =>
      rw [hp] at h
      exact ⟨[], none, 0, [], false, h.1, Vec.nil 2, (St.start _ _).ext h.2, fun _ => rfl, fun e => by cases e⟩
    | some ps =>
      rw [hp] at h
      obtain ⟨ad, c', E, he, hV, hS⟩ := h
      exact ⟨ps, ad, c', E, true, he, hV, hS, (fun e => by cases e), fun _ => rfl⟩
theorem AtDecode_u (w0 : World) (b o c : Nat) (xs : List Int) (hG : GF w0) (hZ : GZ w0) (hW : Win w0 b o c xs) (hn : xs.length ≤ 90000) :
    Calls Tryd.prog 62 #[.slice (some ⟨b, o, none⟩) xs.length c] w0 fun e w' => ∃ (ok : Bool) (s : Int) (d : ByteArray) (a : AtL) (K : List Ent), e = .returned (.tuple #[.agg a.cells.toArray, .agg (fltL (if ok then 0 else 3) s d).toArray]) ∧ AtAll K a ∧ St (fun _ => False) w0 w' K ∧
      (ok = false → decD AtL.zero.d [] xs = .inr (s, d)) ∧ (ok = true → s = 0 ∧ d = ⟨#[]⟩ ∧ ∃ dd, decD AtL.zero.d [] xs = .inl dd ∧ a.d = { dd with others := sortO dd.others }) :=
  (AtDecode_c w0 b o c xs hG hZ hW hn).mono fun e w' h => by
    unfold AtDecP at h
    cases hp : decD AtL.zero.d [] xs with
    | inr x =>
      obtain ⟨s, d⟩ := x
      rw [hp] at h
      exact ⟨false, s, d, .zero, [], h.1, ⟨AtOwn.zero, ⟨[], Vec.nil 2, fun _ h => by cases h⟩, fun _ h => by cases h⟩, (St.start _ _).ext h.2, fun _ => rfl, fun e => by cases e⟩
    | inl dd =>
      rw [hp] at h
      obtain ⟨a, K, he, ha, hA, hS⟩ := h
      exact ⟨true, 0, ⟨#[]⟩, a, K, he, hA, hS, (fun e => by cases e), fun _ => ⟨rfl, rfl, dd, rfl, ha⟩⟩
theorem AtAll.mono {K K' : List Ent} {a : AtL} (h : AtAll K a) (hm : ∀ e ∈ K, e ∈ K') : AtAll K' a := by
  obtain ⟨h1, ⟨E, r1, r2⟩, h3⟩ := h
  exact ⟨h1.mono hm, ⟨E, r1, fun e he => hm e (r2 e he)⟩, fun o ho => by obtain ⟨E, q1, q2⟩ := h3 o ho; exact ⟨E, q1, fun e he => hm e (q2 e he)⟩⟩
/-- All that a message holds lies in blocks of K. -/
structure MsAll (K : List Ent) (m : MsL) : Prop where
  caps : ∃ E, Vec 2 m.kad m.caps.length m.kc (capsL m.caps) E ∧ ∀ e ∈ E, e ∈ K
  vals : ∀ c ∈ m.caps, CapOwn K c
  gone : ∃ E, Vec 2 m.gad m.gone.length m.gc (pfsL m.gone) E ∧ ∀ e ∈ E, e ∈ K
  nets : ∃ E, Vec 2 m.nad m.nets.length m.nc (pfsL m.nets) E ∧ ∀ e ∈ E, e ∈ K
  at_ : AtAll K m.atr
theorem AtAll.zero : AtAll [] .zero := ⟨AtOwn.zero, ⟨[], Vec.nil 2, fun _ h => by cases h⟩, fun _ h => by cases h⟩
theorem MsAll.zero (k : Int) : MsAll [] (.zero k) := ⟨⟨[], Vec.nil 2, fun _ h => by cases h⟩, (fun _ h => by cases h), ⟨[], Vec.nil 2, fun _ h => by cases h⟩, ⟨[], Vec.nil 2, fun _ h => by cases h⟩, AtAll.zero⟩
def oneS (x : Int) : ByteArray := str (fun _ => x) 1
/-- The routes of an Update, or what is wrong. -/
def updR (xs : List Int) : (List PfL × AtD × List PfL) ⊕ (Int × Int × ByteArray) :=
  match countR xs with
  | none => .inr (3, 1, ⟨#[]⟩)
  | some (g, r) => match countR r with
    | none => .inr (3, 1, ⟨#[]⟩)
    | some (s, n) => match netsR g with
      | none => .inr (3, 1, ⟨#[]⟩)
      | some gs => match decD AtL.zero.d [] s with
        | .inr (s, d) => .inr (3, s, d)
        | .inl a => match netsR n with
          | none => .inr (3, 10, ⟨#[]⟩)
          | some ns => if 200 < gs.length ∨ 200 < ns.length then .inr (6, 1, ⟨#[]⟩) else if missI a.has ≠ 0 ∧ 0 < ns.length then .inr (3, 3, oneS (missI a.has)) else .inl (gs, { a with others := sortO a.others }, ns)
theorem missI_b (h : Int) : 0 ≤ missI h ∧ missI h ≤ 3 := by unfold missI; split <;> (try split) <;> (try split) <;> omega
def MsL.upd (k : Int) (gad : Option Addr) (gc : Nat) (gone : List PfL) (atr : AtL) (nad : Option Addr) (nc : Nat) (nets : List PfL) : MsL := { MsL.zero k with gad := gad, gc := gc, gone := gone, atr := atr, nad := nad, nc := nc, nets := nets }
def UpdP (w0 w' : World) (gm : Nat) (k : Int) (xs : List Int) (L : List Ent) (e : Ending) : Prop :=
  ∃ (ok : Bool) (c s : Int) (d : ByteArray) (gad : Option Addr) (gc : Nat) (gs : List PfL) (a : AtL) (nad : Option Addr) (nc : Nat) (ns : List PfL) (K : List Ent), e = .returned (.agg (fltL c s d).toArray) ∧ St (fun _ => False) w0 w' (.row gm (MsL.upd k gad gc gs a nad nc ns).cells :: (K ++ L)) ∧ MsAll K (MsL.upd k gad gc gs a nad nc ns) ∧
    (ok = false → c ≠ 0 ∧ updR xs = .inr (c, s, d)) ∧ (ok = true → c = 0 ∧ s = 0 ∧ d = ⟨#[]⟩ ∧ updR xs = .inl (gs, a.d, ns))
set_option maxHeartbeats 4000000 in
theorem readUpdate_c (w0 w1 : World) (gm b o c : Nat) (k : Int) (xs : List Int) (L : List Ent) (hG : GF w0) (hZ : GZ w0) (hW : Win w0 b o c xs) (hn : xs.length ≤ 90000) (hS0 : St (fun _ => False) w0 w1 (.row gm (MsL.zero k).cells :: L)) :
    Calls Tryd.prog 42 #[.pointer (some ⟨gm, 0, none⟩), .slice (some ⟨b, o, none⟩) xs.length c] w1 fun e w' => UpdP w0 w' gm k xs L e := by
  refine enter Tryd.func42 rfl Tryd.ntmps42 rfl hS0 ?_
  refine WC.seq ?_
  refine WC.region ?_
  refine WL.alloc rfl zero_25 (.none rfl) rfl rfl ?_
  intro g4 hg4
  refine WL.nil ?_
  refine WE.then_n ?_
  refine WC.seq ?_
  refine WC.region ?_
  refine WL.val (v_move rfl rfl) (.none rfl) rfl rfl ?_
  refine WL.call rfl rfl ck_60 (.none rfl) rfl rfl ?_
  intro w1 hS
  refine (counted_u w1 b o c xs (hW.st hS) (by omega)).mono ?_
  rintro e w' ⟨u1, r1, ok1, rfl, hF, hbad1, hok1⟩
  refine ⟨_, _, rfl, hS.ext hF, ?_⟩
  refine WL.val (v_move rfl rfl) (.none rfl) rfl rfl ?_
  refine WL.val (v_extract rfl rfl rfl) (.none rfl) rfl rfl ?_
  refine WL.val (v_extract rfl rfl rfl) (.none rfl) rfl rfl ?_
  refine WL.val (v_extract rfl rfl rfl) (.none rfl) rfl rfl ?_
  refine WL.val (v_assign rfl rfl) (.none rfl) rfl rfl ?_
  refine WL.val (v_assign rfl rfl) (.none rfl) rfl rfl ?_
  refine WL.val (v_assign rfl rfl) (.none rfl) rfl rfl ?_
  refine WL.nil ?_
  refine WE.then_n ?_
  refine WC.seq ?_
  refine WC.seq ?_
  refine WC.region ?_
  refine WL.val (v_move rfl rfl) (.none rfl) rfl rfl ?_
  skip
  cases ok1
  ·
   refine WL.val (v_not rfl rfl rfl) (.none rfl) rfl rfl ?_
   refine WL.nil ?_
   refine WE.then_n ?_
   refine WC.cond_t rfl ?_
   refine WC.seq ?_
   refine WC.region ?_
   refine WL.val (v_build rfl rfl zero_25 plc_25 rfl) (.none rfl) rfl rfl ?_
   refine WL.storeW rfl rfl rfl rfl many_25 rfl rfl (.none rfl) rfl ?_
   refine WL.nil ?_
   refine WE.then_n ?_
   refine WC.ret ?_
   refine WE.then_ret ?_
   refine WE.ret1 (P := Tryd.prog) (.inl rfl) Tryd.results42 (resRow rfl many_25 rfl) ?_
   have e0 : updR xs = .inr (3, 1, ⟨#[]⟩) := (by unfold updR; rw [hbad1 rfl])
   exact fun w' h => ⟨false, 3, 1, _, none, 0, [], .zero, none, 0, [], [], rfl, h.sub (.cons _ (.refl _)), MsAll.zero k, fun _ => ⟨by decide, e0⟩, fun e => by cases e⟩
  ·
   refine WL.val (v_not rfl rfl rfl) (.none rfl) rfl rfl ?_
   refine WL.nil ?_
   refine WE.then_n ?_
   refine WC.cond_f rfl ?_
   refine WC.skip ?_
   refine WE.then_n ?_
   refine WC.seq ?_
   refine WC.region ?_
   obtain ⟨xg, xr, o1, c1, o2, c2, ec1, lg, lr, rfl, rfl, hWW⟩ := hok1 rfl
   obtain ⟨hWg, hWr⟩ := hWW w0 hW
   refine WL.val (v_move rfl rfl) (.none rfl) rfl rfl ?_
   refine WL.call rfl rfl ck_60 (.none rfl) rfl rfl ?_
   intro w1 hS
   refine (counted_u w1 b o2 c2 xr (hWr.st hS) (by omega)).mono ?_
   rintro e w' ⟨u2, r2, ok2, rfl, hF2, hbad2, hok2⟩
   refine ⟨_, _, rfl, hS.ext hF2, ?_⟩
   refine WL.val (v_move rfl rfl) (.none rfl) rfl rfl ?_
   refine WL.val (v_extract rfl rfl rfl) (.none rfl) rfl rfl ?_
   refine WL.val (v_extract rfl rfl rfl) (.none rfl) rfl rfl ?_
   refine WL.val (v_extract rfl rfl rfl) (.none rfl) rfl rfl ?_
   refine WL.val (v_assign rfl rfl) (.none rfl) rfl rfl ?_
   refine WL.val (v_assign rfl rfl) (.none rfl) rfl rfl ?_
   refine WL.val (v_assign rfl rfl) (.none rfl) rfl rfl ?_
   refine WL.nil ?_
   refine WE.then_n ?_
   refine WC.seq ?_
   refine WC.seq ?_
   refine WC.region ?_
   refine WL.val (v_move rfl rfl) (.none rfl) rfl rfl ?_
   skip
   cases ok2
   ·
    refine WL.val (v_not rfl rfl rfl) (.none rfl) rfl rfl ?_
    refine WL.nil ?_
    refine WE.then_n ?_
    refine WC.cond_t rfl ?_
    refine WC.seq ?_
    refine WC.region ?_
    refine WL.val (v_build rfl rfl zero_25 plc_25 rfl) (.none rfl) rfl rfl ?_
    refine WL.storeW rfl rfl rfl rfl many_25 rfl rfl (.none rfl) rfl ?_
    refine WL.nil ?_
    refine WE.then_n ?_
    refine WC.ret ?_
    refine WE.then_ret ?_
    refine WE.ret1 (P := Tryd.prog) (.inl rfl) Tryd.results42 (resRow rfl many_25 rfl) ?_
    have e0 : updR xs = .inr (3, 1, ⟨#[]⟩) := (by unfold updR; rw [ec1]; dsimp only; rw [hbad2 rfl])
    exact fun w' h => ⟨false, 3, 1, _, none, 0, [], .zero, none, 0, [], [], rfl, h.sub (.cons _ (.refl _)), MsAll.zero k, fun _ => ⟨by decide, e0⟩, fun e => by cases e⟩
   ·
    refine WL.val (v_not rfl rfl rfl) (.none rfl) rfl rfl ?_
    refine WL.nil ?_
    refine WE.then_n ?_
    refine WC.cond_f rfl ?_
    refine WC.skip ?_
    refine WE.then_n ?_
    refine WC.seq ?_
    refine WC.seq ?_
    refine WC.region ?_
    obtain ⟨xs2, xn, o3, c3, o4, c4, ec2, ls, ln, rfl, rfl, hWW2⟩ := hok2 rfl
    obtain ⟨hWs, hWn⟩ := hWW2 w0 hWr
    refine WL.val (v_move rfl rfl) (.none rfl) rfl rfl ?_
    refine WL.val (v_move rfl rfl) (.none rfl) rfl rfl ?_
    refine WL.call rfl rfl ck_61 (.none rfl) rfl rfl ?_
    intro w1 hS
    refine (getNets_u w1 b o1 c1 xg (hWg.st hS) (by omega)).mono ?_
    rintro e w' ⟨gs, gad, gc, Eg, ok3, rfl, hVg, hSg, hbad3, hok3⟩
    refine ⟨_, _, rfl, hS.join hSg, ?_⟩
    refine WL.val (v_move rfl rfl) (.none rfl) rfl rfl ?_
    refine WL.val (v_extract rfl rfl rfl) (.none rfl) rfl rfl ?_
    refine WL.val (v_extract rfl rfl rfl) (.none rfl) rfl rfl ?_
    refine WL.val (v_nilCheck rfl rfl) (.none rfl) rfl rfl ?_
    refine WL.val (v_fieldAddr0 rfl rfl fld_43_5) (.none rfl) rfl rfl ?_
    refine WL.store1 rfl rfl rfl rfl one_36 (Nat.le_of_ble_eq_true rfl) (.none rfl) rfl ?_
    refine WL.as (L' := Eg ++ (.row g4 (fltL 0 0 ⟨#[]⟩) :: .row gm (MsL.upd k gad gc gs .zero none 0 []).cells :: L)) rfl ?_
    refine WL.val (v_assign rfl rfl) (.none rfl) rfl rfl ?_
    refine WL.nil ?_
    refine WE.then_n ?_
    refine WC.seq ?_
    refine WC.region ?_
    refine WL.val (v_move rfl rfl) (.none rfl) rfl rfl ?_
    skip
    cases ok3
    ·
     refine WL.val (v_not rfl rfl rfl) (.none rfl) rfl rfl ?_
     refine WL.nil ?_
     refine WE.then_n ?_
     refine WC.cond_t rfl ?_
     refine WC.seq ?_
     refine WC.region ?_
     refine WL.val (v_build rfl rfl zero_25 plc_25 rfl) (.none rfl) rfl rfl ?_
     refine WL.storeW rfl rfl rfl rfl many_25 rfl rfl (.none rfl) rfl ?_
     refine WL.nil ?_
     refine WE.then_n ?_
     refine WC.ret ?_
     refine WE.then_ret ?_
     refine WE.ret1 (P := Tryd.prog) (.inl rfl) Tryd.results42 (resRow rfl many_25 rfl) ?_
     have e0 : updR xs = .inr (3, 1, ⟨#[]⟩) := (by unfold updR; rw [ec1]; dsimp only; rw [ec2]; dsimp only; rw [hbad3 rfl])
     exact fun w' h => ⟨false, 3, 1, _, gad, gc, gs, .zero, none, 0, [], Eg, rfl, St.front (R := [.row gm (MsL.upd k gad gc gs .zero none 0 []).cells]) (L := L) Eg (h.sub (List.Sublist.append_left (.cons _ (.refl _)) _)), ⟨⟨[], Vec.nil 2, fun _ h => by cases h⟩, (fun _ h => by cases h), ⟨Eg, hVg, fun _ h => h⟩, ⟨[], Vec.nil 2, fun _ h => by cases h⟩, AtAll.zero.mono fun _ h => by cases h⟩, fun _ => ⟨by decide, e0⟩, fun e => by cases e⟩
    ·
     refine WL.val (v_not rfl rfl rfl) (.none rfl) rfl rfl ?_
     refine WL.nil ?_
     refine WE.then_n ?_
     refine WC.cond_f rfl ?_
     refine WC.skip ?_
     refine WE.then_n ?_
     refine WC.seq ?_
     refine WC.region ?_
     refine WL.val (v_move rfl rfl) (.none rfl) rfl rfl ?_
     refine WL.call rfl rfl ck_62 (.none rfl) rfl rfl ?_
     intro w1 hS
     refine (AtDecode_u w1 b o3 c3 xs2 (hG.keep (fun h => h) hS) (hZ.keep (fun h => h) hS) (hWs.st hS) (by omega)).mono ?_
     rintro e w' ⟨ok4, s4, d4, a, Ka, rfl, hAa, hSa, hbad4, hok4⟩
     refine ⟨_, _, rfl, hS.join hSa, ?_⟩
     refine WL.val (v_move rfl rfl) (.none rfl) rfl rfl ?_
     refine WL.val (v_extract rfl rfl rfl) (.none rfl) rfl rfl ?_
     refine WL.val (v_extract rfl rfl rfl) (.none rfl) rfl rfl ?_
     refine WL.alloc rfl zero_41 (.none rfl) rfl rfl ?_
     intro g9 hg9
     refine WL.alloc rfl zero_25 (.none rfl) rfl rfl ?_
     intro g10 hg10
     refine WL.storeW rfl rfl rfl rfl many_41 rfl rfl (.none rfl) rfl ?_
     refine WL.storeW rfl rfl rfl rfl many_25 rfl rfl (.none rfl) rfl ?_
     refine WL.as (L' := .row g10 (fltL (if ok4 then 0 else 3) s4 d4) :: .row g9 a.cells :: (Ka ++ (Eg ++ (.row g4 (fltL 0 0 ⟨#[]⟩) :: .row gm (MsL.upd k gad gc gs .zero none 0 []).cells :: L)))) rfl ?_
     refine WL.nil ?_
     refine WE.then_n ?_
     refine WC.seq ?_
     refine WC.seq ?_
     refine WC.region ?_
     refine WL.val (v_loadN rfl rfl many_25 rfl allAt) (.none rfl) rfl rfl ?_
     skip
     cases ok4
     ·
      refine WL.val (v_build rfl rfl zero_25 plc_25 rfl) (.none rfl) rfl rfl ?_
      refine WL.val (v_neq_aggT rfl rfl rfl eqk_25 eqg_25 rfl rfl (by (intro h; simp [fltL] at h))) (.none rfl) rfl rfl ?_
      refine WL.nil ?_
      refine WE.then_n ?_
      refine WC.cond_t rfl ?_
      refine WC.seq ?_
      refine WC.region ?_
      refine WL.val (v_loadN rfl rfl many_25 rfl allAt) (.none rfl) rfl rfl ?_
      refine WL.storeW rfl rfl rfl rfl many_25 rfl rfl (.none rfl) rfl ?_
      refine WL.nil ?_
      refine WE.then_n ?_
      refine WC.ret ?_
      refine WE.then_ret ?_
      refine WE.ret1 (P := Tryd.prog) (.inl rfl) Tryd.results42 (resRow rfl many_25 rfl) ?_
      have e0 : updR xs = .inr (3, s4, d4) := (by unfold updR; rw [ec1]; dsimp only; rw [ec2]; dsimp only; rw [hok3 rfl]; dsimp only; rw [hbad4 rfl])
      exact fun w' h => ⟨false, 3, s4, d4, gad, gc, gs, .zero, none, 0, [], Eg, rfl, St.front (R := [.row gm (MsL.upd k gad gc gs .zero none 0 []).cells]) (L := L) Eg (h.sub (.cons _ (.cons _ (List.sublist_append_of_sublist_right (List.Sublist.append_left (.cons _ (.refl _)) _))))), ⟨⟨[], Vec.nil 2, fun _ h => by cases h⟩, (fun _ h => by cases h), ⟨Eg, hVg, fun _ h => h⟩, ⟨[], Vec.nil 2, fun _ h => by cases h⟩, AtAll.zero.mono fun _ h => by cases h⟩, fun _ => ⟨by decide, e0⟩, fun e => by cases e⟩
     ·
      obtain ⟨rfl, rfl, dd, ed, ea⟩ := hok4 rfl
      refine WL.val (v_build rfl rfl zero_25 plc_25 rfl) (.none rfl) rfl rfl ?_
      refine WL.val (v_neq_aggF rfl rfl rfl eqk_25 eqg_25 rfl rfl (by rfl)) (.none rfl) rfl rfl ?_
      refine WL.nil ?_
      refine WE.then_n ?_
      refine WC.cond_f rfl ?_
      refine WC.skip ?_
      refine WE.then_n ?_
      refine WC.seq ?_
      refine WC.region ?_
      refine WL.val (v_move rfl rfl) (.none rfl) rfl rfl ?_
      refine WL.val (v_loadN rfl rfl many_41 rfl allAt) (.none rfl) rfl rfl ?_
      refine WL.val (v_nilCheck rfl rfl) (.none rfl) rfl rfl ?_
      refine WL.val (v_fieldAddr0 rfl rfl fld_43_6) (.none rfl) rfl rfl ?_
      refine WL.storeN rfl rfl rfl rfl many_41 rfl (by first | exact Nat.le_of_ble_eq_true rfl | simp) (.none rfl) rfl ?_
      refine WL.as (L' := .row g10 (fltL 0 0 ⟨#[]⟩) :: .row g9 a.cells :: (Ka ++ (Eg ++ (.row g4 (fltL 0 0 ⟨#[]⟩) :: .row gm (MsL.upd k gad gc gs a none 0 []).cells :: L)))) rfl ?_
      refine WL.nil ?_
      refine WE.then_n ?_
      refine WC.seq ?_
      refine WC.seq ?_
      refine WC.region ?_
      refine WL.val (v_move rfl rfl) (.none rfl) rfl rfl ?_
      refine WL.val (v_move rfl rfl) (.none rfl) rfl rfl ?_
      refine WL.call rfl rfl ck_61 (.none rfl) rfl rfl ?_
      intro w1 hS
      refine (getNets_u w1 b o4 c4 xn (hWn.st hS) (by omega)).mono ?_
      rintro e w' ⟨ns, nad, nc, En, ok5, rfl, hVn, hSn, hbad5, hok5⟩
      refine ⟨_, _, rfl, hS.join hSn, ?_⟩
      refine WL.val (v_move rfl rfl) (.none rfl) rfl rfl ?_
      refine WL.val (v_extract rfl rfl rfl) (.none rfl) rfl rfl ?_
      refine WL.val (v_extract rfl rfl rfl) (.none rfl) rfl rfl ?_
      refine WL.val (v_nilCheck rfl rfl) (.none rfl) rfl rfl ?_
      refine WL.val (v_fieldAddr0 rfl rfl fld_43_7) (.none rfl) rfl rfl ?_
      refine WL.store1 rfl rfl rfl rfl one_36 (Nat.le_of_ble_eq_true rfl) (.none rfl) rfl ?_
      refine WL.as (L' := En ++ (.row g10 (fltL 0 0 ⟨#[]⟩) :: .row g9 a.cells :: (Ka ++ (Eg ++ (.row g4 (fltL 0 0 ⟨#[]⟩) :: .row gm (MsL.upd k gad gc gs a nad nc ns).cells :: L))))) rfl ?_
      refine WL.to (L' := .row g4 (fltL 0 0 ⟨#[]⟩) :: .row gm (MsL.upd k gad gc gs a nad nc ns).cells :: ((En ++ (.row g9 a.cells :: (Ka ++ Eg))) ++ L)) (fun w hS => by
        have := St.front (R := [.row g4 (fltL 0 0 ⟨#[]⟩), .row gm (MsL.upd k gad gc gs a nad nc ns).cells]) (L := L) (En ++ (.row g9 a.cells :: (Ka ++ Eg))) (by
          have h1 := hS.sub (List.Sublist.append_left (List.sublist_cons_self _ _) En)
          simpa only [List.cons_append, List.append_assoc, List.nil_append] using h1)
        exact this) ?_
      refine WL.as (L' := .row g4 (fltL 0 0 ⟨#[]⟩) :: .row gm (MsL.upd k gad gc gs a nad nc ns).cells :: (En ++ (.row g9 a.cells :: (Ka ++ (Eg ++ L))))) (by simp only [List.cons_append, List.append_assoc]) ?_
      refine WL.val (v_assign rfl rfl) (.none rfl) rfl rfl ?_
      refine WL.nil ?_
      refine WE.then_n ?_
      refine WC.seq ?_
      refine WC.region ?_
      skip
      have hAll : MsAll (En ++ (.row g9 a.cells :: (Ka ++ Eg))) (MsL.upd k gad gc gs a nad nc ns) := ⟨⟨[], Vec.nil 2, fun _ h => by cases h⟩, (fun _ h => by cases h), ⟨Eg, hVg, fun e he => List.mem_append_right _ (List.mem_cons_of_mem _ (List.mem_append_right _ he))⟩, ⟨En, hVn, fun e he => List.mem_append_left _ he⟩, hAa.mono fun e he => List.mem_append_right _ (List.mem_cons_of_mem _ (List.mem_append_left _ he))⟩
      have hfin : ∀ w', St (fun _ => False) w0 w' (.row gm (MsL.upd k gad gc gs a nad nc ns).cells :: (En ++ (.row g9 a.cells :: (Ka ++ (Eg ++ L))))) → St (fun _ => False) w0 w' (.row gm (MsL.upd k gad gc gs a nad nc ns).cells :: ((En ++ (.row g9 a.cells :: (Ka ++ Eg))) ++ L)) := (fun w' h => by simpa only [List.cons_append, List.append_assoc, List.nil_append] using h)
      have e1 : updR xs = match netsR xn with
          | none => .inr (3, 10, ⟨#[]⟩)
          | some ns => if 200 < gs.length ∨ 200 < ns.length then .inr (6, 1, ⟨#[]⟩) else if missI dd.has ≠ 0 ∧ 0 < ns.length then .inr (3, 3, oneS (missI dd.has)) else .inl (gs, { dd with others := sortO dd.others }, ns) := (by
        unfold updR; rw [ec1]; dsimp only; rw [ec2]; dsimp only; rw [hok3 rfl]; dsimp only; rw [ed])
      have hah : dd.has = a.has := (by have := congrArg AtD.has ea; exact this.symm)
      rw [← ea, hah] at e1
      have hmi := missI_b a.has
      have hgl := netsR_len _ (Nat.le_refl _) (hok3 rfl)
      refine WL.val (v_move rfl rfl) (.none rfl) rfl rfl ?_
      skip
      cases ok5
      ·
       refine WL.val (v_not rfl rfl rfl) (.none rfl) rfl rfl ?_
       refine WL.nil ?_
       refine WE.then_n ?_
       refine WC.cond_t rfl ?_
       refine WC.seq ?_
       refine WC.region ?_
       refine WL.val (v_build rfl rfl zero_25 plc_25 rfl) (.none rfl) rfl rfl ?_
       refine WL.storeW rfl rfl rfl rfl many_25 rfl rfl (.none rfl) rfl ?_
       refine WL.nil ?_
       refine WE.then_n ?_
       refine WC.ret ?_
       refine WE.then_ret ?_
       refine WE.ret1 (P := Tryd.prog) (.inl rfl) Tryd.results42 (resRow rfl many_25 rfl) ?_
       rw [hbad5 rfl] at e1
       exact fun w' h => ⟨false, 3, 10, _, gad, gc, gs, a, nad, nc, ns, _, rfl, hfin _ (h.sub (.cons _ (.refl _))), hAll, fun _ => ⟨by decide, e1⟩, fun e => by cases e⟩
      ·
       refine WL.val (v_not rfl rfl rfl) (.none rfl) rfl rfl ?_
       refine WL.nil ?_
       refine WE.then_n ?_
       refine WC.cond_f rfl ?_
       refine WC.skip ?_
       refine WE.then_n ?_
       refine WC.seq ?_
       refine WC.seq ?_
       refine WC.region ?_
       have hnl := netsR_len _ (Nat.le_refl _) (hok5 rfl)
       rw [hok5 rfl] at e1
       dsimp only at e1
       refine WL.val (v_move rfl rfl) (.none rfl) rfl rfl ?_
       refine WL.val (v_nilCheck rfl rfl) (.none rfl) rfl rfl ?_
       refine WL.val (v_fieldAddr0 rfl rfl fld_43_5) (.none rfl) rfl rfl ?_
       refine WL.val (v_load1 rfl rfl one_36 (cellAt (v := .slice gad gs.length gc) rfl)) (.none rfl) rfl rfl ?_
       refine WL.val (v_len_slice rfl rfl Tryd.underlying36) (.none rfl) rfl rfl ?_
       refine WL.test (v_gtr rfl rfl rfl) (.none rfl) rfl rfl (fun h70 => ?_) (fun h70 => ?_)
       ·
        refine WL.val (v_move rfl rfl) (.none rfl) rfl rfl ?_
        refine WL.skip rfl rfl rfl rfl rfl rfl ?_
        refine WL.skip rfl rfl rfl rfl rfl rfl ?_
        refine WL.skip rfl rfl rfl rfl rfl rfl ?_
        refine WL.skip rfl rfl rfl rfl rfl rfl ?_
        refine WL.skip rfl rfl rfl rfl rfl rfl ?_
        refine WL.skip rfl rfl rfl rfl rfl rfl ?_
        refine WL.val (v_pick_t rfl rfl rfl) (.none rfl) rfl rfl ?_
        refine WL.nil ?_
        refine WE.then_n ?_
        refine WC.cond_t rfl ?_
        refine WC.seq ?_
        refine WC.region ?_
        refine WL.val (v_build rfl rfl zero_25 plc_25 rfl) (.none rfl) rfl rfl ?_
        refine WL.storeW rfl rfl rfl rfl many_25 rfl rfl (.none rfl) rfl ?_
        refine WL.nil ?_
        refine WE.then_n ?_
        refine WC.ret ?_
        refine WE.then_ret ?_
        refine WE.ret1 (P := Tryd.prog) (.inl rfl) Tryd.results42 (resRow rfl many_25 rfl) ?_
        rw [if_pos (.inl (by omega))] at e1
        exact fun w' h => ⟨false, 6, 1, _, gad, gc, gs, a, nad, nc, ns, _, rfl, hfin _ (h.sub (.cons _ (.refl _))), hAll, fun _ => ⟨by decide, e1⟩, fun e => by cases e⟩
       ·
        refine WL.val (v_move rfl rfl) (.none rfl) rfl rfl ?_
        refine WL.val (v_move rfl rfl) (.some rfl rfl rfl) rfl rfl ?_
        refine WL.val (v_nilCheck rfl rfl) (.some rfl rfl rfl) rfl rfl ?_
        refine WL.val (v_fieldAddr0 rfl rfl fld_43_7) (.some rfl rfl rfl) rfl rfl ?_
        refine WL.val (v_load1 rfl rfl one_36 (cellAt (v := .slice nad ns.length nc) rfl)) (.some rfl rfl rfl) rfl rfl ?_
        refine WL.val (v_len_slice rfl rfl Tryd.underlying36) (.some rfl rfl rfl) rfl rfl ?_
        refine WL.test (v_gtr rfl rfl rfl) (.some rfl rfl rfl) rfl rfl (fun h77 => ?_) (fun h77 => ?_)
        ·
         refine WL.val (v_pick_f rfl rfl rfl) (.none rfl) rfl rfl ?_
         refine WL.nil ?_
         refine WE.then_n ?_
         refine WC.cond_t rfl ?_
         refine WC.seq ?_
         refine WC.region ?_
         refine WL.val (v_build rfl rfl zero_25 plc_25 rfl) (.none rfl) rfl rfl ?_
         refine WL.storeW rfl rfl rfl rfl many_25 rfl rfl (.none rfl) rfl ?_
         refine WL.nil ?_
         refine WE.then_n ?_
         refine WC.ret ?_
         refine WE.then_ret ?_
         refine WE.ret1 (P := Tryd.prog) (.inl rfl) Tryd.results42 (resRow rfl many_25 rfl) ?_
         rw [if_pos (.inr (by omega))] at e1
         exact fun w' h => ⟨false, 6, 1, _, gad, gc, gs, a, nad, nc, ns, _, rfl, hfin _ (h.sub (.cons _ (.refl _))), hAll, fun _ => ⟨by decide, e1⟩, fun e => by cases e⟩
        ·
         refine WL.val (v_pick_f rfl rfl rfl) (.none rfl) rfl rfl ?_
         refine WL.nil ?_
         refine WE.then_n ?_
         refine WC.cond_f rfl ?_
         refine WC.skip ?_
         refine WE.then_n ?_
         refine WC.seq ?_
         refine WC.seq ?_
         refine WC.region ?_
         rw [if_neg (by omega)] at e1
         refine WL.val (v_loadN rfl rfl many_41 rfl allAt) (.none rfl) rfl rfl ?_
         refine WL.call rfl rfl ck_63 (.none rfl) rfl rfl ?_
         intro w hS
         refine Calls.then (Missing_c w a) hS ?_
         refine WL.val (v_assign rfl rfl) (.none rfl) rfl rfl ?_
         refine WL.nil ?_
         refine WE.then_n ?_
         refine WC.seq ?_
         refine WC.region ?_
         refine WL.val (v_move rfl rfl) (.none rfl) rfl rfl ?_
         refine WL.test (v_neq rfl rfl rfl) (.none rfl) rfl rfl (fun h83 => ?_) (fun h83 => ?_)
         ·
          refine WL.val (v_move rfl rfl) (.none rfl) rfl rfl ?_
          refine WL.val (v_move rfl rfl) (.some rfl rfl rfl) rfl rfl ?_
          refine WL.val (v_nilCheck rfl rfl) (.some rfl rfl rfl) rfl rfl ?_
          refine WL.val (v_fieldAddr0 rfl rfl fld_43_7) (.some rfl rfl rfl) rfl rfl ?_
          refine WL.val (v_load1 rfl rfl one_36 (cellAt (v := .slice nad ns.length nc) rfl)) (.some rfl rfl rfl) rfl rfl ?_
          refine WL.val (v_len_slice rfl rfl Tryd.underlying36) (.some rfl rfl rfl) rfl rfl ?_
          refine WL.test (v_gtr rfl rfl rfl) (.some rfl rfl rfl) rfl rfl (fun h90 => ?_) (fun h90 => ?_)
          ·
           refine WL.val (v_pick_t rfl rfl rfl) (.none rfl) rfl rfl ?_
           refine WL.nil ?_
           refine WE.then_n ?_
           refine WC.cond_t rfl ?_
           refine WC.seq ?_
           refine WC.region ?_
           refine WL.val (v_move rfl rfl) (.none rfl) rfl rfl ?_
           refine WL.val (v_conv rfl rfl Tryd.underlying5 Tryd.underlying3 (by first | exact w_u8 (by omega) (by omega) | exact w_u8m _)) (.none rfl) rfl rfl ?_
           refine WL.buildSlice rfl rfl Tryd.underlying22 sz_5 zero_5 rfl (by decide) rfl (.none rfl) rfl rfl ?_
           intro g94 hg94
           refine WL.val (v_convBS ((fun _ => missI a.has)) rfl rfl Tryd.underlying22 Tryd.underlying5 Tryd.underlying9 (fun w' hS' _ => ⟨g94, 0, rfl, fun i hi => by
           obtain rfl : i = 0 := (by omega)
           exact hS'.cell (g := g94) rfl⟩)) (.none rfl) rfl rfl ?_
           refine WL.val (v_build rfl rfl zero_25 plc_25 rfl) (.none rfl) rfl rfl ?_
           refine WL.storeW rfl rfl rfl rfl many_25 rfl rfl (.none rfl) rfl ?_
           refine WL.nil ?_
           refine WE.then_n ?_
           refine WC.ret ?_
           refine WE.then_ret ?_
           refine WE.ret1 (P := Tryd.prog) (.inl rfl) Tryd.results42 (resRow rfl many_25 rfl) ?_
           rw [if_pos ⟨h83, by omega⟩] at e1
           exact fun w' h => ⟨false, 3, 3, _, gad, gc, gs, a, nad, nc, ns, _, rfl, hfin _ (h.sub (.cons _ (.cons _ (.refl _)))), hAll, fun _ => ⟨by decide, e1⟩, fun e => by cases e⟩
          ·
           refine WL.val (v_pick_t rfl rfl rfl) (.none rfl) rfl rfl ?_
           refine WL.nil ?_
           refine WE.then_n ?_
           refine WC.cond_f rfl ?_
           refine WC.skip ?_
           refine WE.then_n ?_
           refine WC.seq ?_
           refine WC.region ?_
           refine WL.val (v_build rfl rfl zero_25 plc_25 rfl) (.none rfl) rfl rfl ?_
           refine WL.storeW rfl rfl rfl rfl many_25 rfl rfl (.none rfl) rfl ?_
           refine WL.nil ?_
           refine WE.then_n ?_
           refine WC.ret ?_
           refine WE.ret1 (P := Tryd.prog) (.inl rfl) Tryd.results42 (resRow rfl many_25 rfl) ?_
           rw [if_neg (fun h => h90 (by omega))] at e1
           exact fun w' h => ⟨true, 0, 0, _, gad, gc, gs, a, nad, nc, ns, _, rfl, hfin _ (h.sub (.cons _ (.refl _))), hAll, fun e => (by cases e), fun _ => ⟨rfl, rfl, rfl, e1⟩⟩
         ·
          refine WL.val (v_move rfl rfl) (.none rfl) rfl rfl ?_
          refine WL.skip rfl rfl rfl rfl rfl rfl ?_
          refine WL.skip rfl rfl rfl rfl rfl rfl ?_
          refine WL.skip rfl rfl rfl rfl rfl rfl ?_
          refine WL.skip rfl rfl rfl rfl rfl rfl ?_
          refine WL.skip rfl rfl rfl rfl rfl rfl ?_
          refine WL.skip rfl rfl rfl rfl rfl rfl ?_
          refine WL.val (v_pick_f rfl rfl rfl) (.none rfl) rfl rfl ?_
          refine WL.nil ?_
          refine WE.then_n ?_
          refine WC.cond_f rfl ?_
          refine WC.skip ?_
          refine WE.then_n ?_
          refine WC.seq ?_
          refine WC.region ?_
          refine WL.val (v_build rfl rfl zero_25 plc_25 rfl) (.none rfl) rfl rfl ?_
          refine WL.storeW rfl rfl rfl rfl many_25 rfl rfl (.none rfl) rfl ?_
          refine WL.nil ?_
          refine WE.then_n ?_
          refine WC.ret ?_
          refine WE.ret1 (P := Tryd.prog) (.inl rfl) Tryd.results42 (resRow rfl many_25 rfl) ?_
          rw [if_neg (fun h => h.1 (by omega))] at e1
          exact fun w' h => ⟨true, 0, 0, _, gad, gc, gs, a, nad, nc, ns, _, rfl, hfin _ (h.sub (.cons _ (.refl _))), hAll, fun e => (by cases e), fun _ => ⟨rfl, rfl, rfl, e1⟩⟩
end Go.Proofs.YtpjbofodllhjbaaDoor
/- bgp.Decode, exactly. -/
namespace Go.Proofs.YtpjbofodllhjbaaDoor
open Go.RowKit

/-- A message as plain numbers and lists. -/
structure MsD where
  kind : Int
  asn : Int
  hold : Int
  id : Int
  caps : List (Int × List Int)
  gone : List PfL
  atr : AtD
  nets : List PfL
  fc : Int
  fs : Int
  fd : ByteArray
def MsL.d (m : MsL) : MsD := ⟨m.kind, m.asn, m.hold, m.id, m.caps.map capD, m.gone, m.atr.d, m.nets, m.fc, m.fs, m.fd⟩
def strD (xs : List Int) : ByteArray := str (fun i => fOf xs (2 + i)) (xs.length - 2)
/-- A message of a kind and what it has behind its head, or what is wrong. -/
def bodyM (k : Int) (xs : List Int) : MsD ⊕ (Int × Int × ByteArray) :=
  if k = 1 then match openR xs with
    | .inl cs => .inl { (MsL.zero k).d with asn := asnB xs, hold := holdB xs, id := idB xs, caps := cs }
    | .inr (s, d) => .inr (2, s, d)
  else if k = 2 then match updR xs with
    | .inl (g, a, n) => .inl { (MsL.zero k).d with gone := g, atr := a, nets := n }
    | .inr f => .inr f
  else if k = 3 then .inl { (MsL.zero k).d with fc := fOf xs 0, fs := fOf xs 1, fd := strD xs }
  else .inl (MsL.zero k).d
/-- The message of bytes, or what is wrong. -/
def decM (xs : List Int) : MsD ⊕ (Int × Int × ByteArray) :=
  if (sizeR xs.length (fOf xs)).2.1 ≠ 0 then .inr (sizeR xs.length (fOf xs)).2
  else if (sizeR xs.length (fOf xs)).1 ≠ xs.length then .inr (1, 2, str (fun i => fOf xs (16 + i)) 2)
  else bodyM (fOf xs 18) (xs.drop 19)
theorem sizeR_cases (n : Nat) (f : Nat → Int) : (∃ C S d, sizeR n f = (0, C, S, d) ∧ C ≠ 0) ∨ (sizeR n f = (lenI f, 0, 0, ⟨#[]⟩) ∧ 19 ≤ n ∧ mark255 f = true ∧ 19 ≤ lenI f ∧ lenI f ≤ 4096 ∧ 1 ≤ f 18 ∧ f 18 ≤ 4 ∧ leastI (f 18) ≤ lenI f ∧ (f 18 = 4 → lenI f = 19)) := by
  by_cases h1 : n < 19
  · left; exact ⟨1, 2, ⟨#[]⟩, by unfold sizeR; rw [if_pos h1], by decide⟩
  by_cases h2 : mark255 f = true
  · rw [sizeR_on h1 h2]
    split
    · left; exact ⟨1, 2, _, rfl, by decide⟩
    split
    · left; exact ⟨1, 3, _, rfl, by decide⟩
    split
    · left; exact ⟨1, 2, _, rfl, by decide⟩
    · rename_i h3 h4 h5
      right
      have := Classical.byContradiction fun h => h4 (leastI_zero.2 h)
      refine ⟨rfl, by omega, h2, by omega, by omega, by omega, by omega, by omega, fun e => by omega⟩
  · left; exact ⟨1, 1, ⟨#[]⟩, by unfold sizeR; rw [if_neg h1]; simp [h2], by decide⟩
def DecP (w0 w' : World) (xs : List Int) (e : Ending) : Prop :=
  match decM xs with
  | .inr (c, s, d) => e = .returned (.tuple #[.agg (MsL.zero 0).cells.toArray, .agg (fltL c s d).toArray]) ∧ Frm (fun _ => False) w0 w'
  | .inl md => ∃ m K, e = .returned (.tuple #[.agg m.cells.toArray, .agg (fltL 0 0 ⟨#[]⟩).toArray]) ∧ m.d = md ∧ MsAll K m ∧ St (fun _ => False) w0 w' K
structure DecT where
  ok : Bool
  c : Int
  s : Int
  d : ByteArray
  m : MsL
  K : List Ent
set_option maxHeartbeats 4000000 in
theorem DecOk_c (w0 : World) (b o c : Nat) (xs : List Int) (hG : GF w0) (hZ : GZ w0) (hW : Win w0 b o c xs) (hn : xs.length ≤ 90000) (hs : sizeR xs.length (fOf xs) = ((xs.length : Int), 0, 0, ⟨#[]⟩)) (h19 : 19 ≤ xs.length) (h18 : 1 ≤ fOf xs 18 ∧ fOf xs 18 ≤ 4) (hle2 : leastI (fOf xs 18) ≤ xs.length) :
    Calls Tryd.prog 17 #[.slice (some ⟨b, o, none⟩) xs.length c] w0 fun e w' => DecP w0 w' xs e := by
  have hle := hW.le
  have e00 : decM xs = bodyM (fOf xs 18) (xs.drop 19) := by unfold decM; rw [hs]; dsimp only; rw [if_neg (by simp), if_neg (by simp)]
  have hWd := hW.drop 19
  have hdl : (xs.drop 19).length = xs.length - 19 := List.length_drop ..
  have hlst : leastI (fOf xs 18) = if fOf xs 18 = 1 then 29 else if fOf xs 18 = 2 then 23 else if fOf xs 18 = 3 then 21 else 19 := by unfold leastI; repeat' split; all_goals first | rfl | omega
  refine enter Tryd.func17 rfl Tryd.ntmps17 rfl (St.start (fun _ => False) w0) ?_
  refine WC.seq ?_
  refine WC.region ?_
  refine WL.alloc rfl zero_43 (.none rfl) rfl rfl ?_
  intro g2 hg2
  refine WL.alloc rfl zero_25 (.none rfl) rfl rfl ?_
  intro g3 hg3
  refine WL.nil ?_
  refine WE.then_n ?_
  refine WC.seq ?_
  refine WC.region ?_
  refine WL.val (v_move rfl rfl) (.none rfl) rfl rfl ?_
  refine WL.call rfl rfl ck_14 (.none rfl) rfl rfl ?_
  intro w hS
  refine Calls.then (by rw [show (Ending.returned (.tuple #[.int .i64 xs.length, .agg (fltL 0 0 ⟨#[]⟩).toArray])) = .returned (sizeV (sizeR xs.length (fOf xs))) by rw [hs]; rfl]; exact Size_c w (some ⟨b, o, none⟩) xs.length c (fOf xs) (fOf_byt hW.bys) (fun _ => ⟨b, o, rfl, rd_u8s (hW.st hS).at_⟩) (by omega) hle) hS ?_
  refine WL.val (v_move rfl rfl) (.none rfl) rfl rfl ?_
  refine WL.val (v_extract rfl rfl rfl) (.none rfl) rfl rfl ?_
  refine WL.val (v_extract rfl rfl rfl) (.none rfl) rfl rfl ?_
  refine WL.alloc rfl zero_25 (.none rfl) rfl rfl ?_
  intro g5 hg5
  refine WL.val (v_assign rfl rfl) (.none rfl) rfl rfl ?_
  refine WL.storeW rfl rfl rfl rfl many_25 rfl rfl (.none rfl) rfl ?_
  refine WL.nil ?_
  refine WE.then_n ?_
  refine WC.seq ?_
  refine WC.seq ?_
  refine WC.region ?_
  refine WL.val (v_loadN rfl rfl many_25 rfl allAt) (.none rfl) rfl rfl ?_
  refine WL.val (v_build rfl rfl zero_25 plc_25 rfl) (.none rfl) rfl rfl ?_
  refine WL.val (v_neq_aggF rfl rfl rfl eqk_25 eqg_25 rfl rfl (by rfl)) (.none rfl) rfl rfl ?_
  refine WL.nil ?_
  refine WE.then_n ?_
  refine WC.cond_f rfl ?_
  refine WC.skip ?_
  refine WE.then_n ?_
  refine WC.seq ?_
  refine WC.seq ?_
  refine WC.region ?_
  refine WL.val (v_move rfl rfl) (.none rfl) rfl rfl ?_
  refine WL.val (v_move rfl rfl) (.none rfl) rfl rfl ?_
  refine WL.val (v_len_slice rfl rfl Tryd.underlying22) (.none rfl) rfl rfl ?_
  refine WL.val ((v_neq rfl rfl rfl).f (by omega)) (.none rfl) rfl rfl ?_
  refine WL.nil ?_
  refine WE.then_n ?_
  refine WC.cond_f rfl ?_
  refine WC.skip ?_
  refine WE.then_n ?_
  refine WC.seq ?_
  refine WC.region ?_
  refine WL.val (v_move rfl rfl) (.none rfl) rfl rfl ?_
  refine WL.val (v_indexAddr (lo := 18) rfl rfl rfl Tryd.underlying22 sz_5 rfl (by omega)) (.none rfl) rfl rfl ?_
  refine WL.val (v_load1 rfl rfl one_5 (cellOld (fun h => h) (hW.get (fOf_get (by omega))))) (.none rfl) rfl rfl ?_
  refine WL.val (v_conv rfl rfl Tryd.underlying3 Tryd.underlying5 (w_i64 (by omega) (by omega))) (.none rfl) rfl rfl ?_
  refine WL.val (v_build rfl rfl zero_43 plc_43 rfl) (.none rfl) rfl rfl ?_
  refine WL.alloc rfl zero_43 (.none rfl) rfl rfl ?_
  intro g6 hg6
  refine WL.storeW rfl rfl rfl rfl many_43 rfl rfl (.none rfl) rfl ?_
  refine WL.as (L' := .row g6 (MsL.zero (fOf xs 18)).cells :: .row g5 (fltL 0 0 ⟨#[]⟩) :: .row g3 (fltL 0 0 ⟨#[]⟩) :: [.row g2 (MsL.zero 0).cells]) rfl ?_
  refine WL.nil ?_
  refine WE.then_n ?_
  refine WC.seq ?_
  refine WC.region ?_
  refine WL.val (v_move rfl rfl) (.none rfl) rfl rfl ?_
  refine WL.val ((v_slice_lo (lo := 19) rfl rfl rfl Tryd.underlying22 sz_5 rfl (by omega))) (.none rfl) rfl rfl ?_
  rw [show xs.length - 19 = (xs.drop 19).length by rw [List.length_drop]]
  refine WL.val (v_assign rfl rfl) (.none rfl) rfl rfl ?_
  refine WL.nil ?_
  refine WE.then_n ?_
  refine WC.cut (fun y : DecT => [(2, .pointer (some ⟨g2, 0, none⟩)), (3, .pointer (some ⟨g3, 0, none⟩)), (5, .pointer (some ⟨g5, 0, none⟩)), (6, .pointer (some ⟨g6, 0, none⟩))]) (fun y => .row g6 y.m.cells :: (y.K ++ (.row g5 (fltL y.c y.s y.d) :: .row g3 (fltL 0 0 ⟨#[]⟩) :: [.row g2 (MsL.zero 0).cells]))) (fun y => MsAll y.K y.m ∧ (y.ok = false → y.c ≠ 0 ∧ bodyM (fOf xs 18) (xs.drop 19) = .inr (y.c, y.s, y.d)) ∧ (y.ok = true → y.c = 0 ∧ y.s = 0 ∧ y.d = ⟨#[]⟩ ∧ bodyM (fOf xs 18) (xs.drop 19) = .inl y.m.d)) ?_ ?_
  ·
   refine WC.seq ?_
   refine WC.region ?_
   refine WL.val (v_fieldAddr0 rfl rfl fld_43_0) (.none rfl) rfl rfl ?_
   refine WL.val (v_load1 rfl rfl one_3 (cellAt (v := .int .i64 (fOf xs 18)) rfl)) (.none rfl) rfl rfl ?_
   refine WL.nil ?_
   refine WE.then_n ?_
   refine WC.block ?_
   refine WC.seq ?_
   refine WC.region ?_
   refine WL.test (v_eql rfl rfl rfl) (.none rfl) rfl rfl (fun h35 => ?_) (fun h35 => ?_)
   ·
    refine WL.val (v_assign rfl rfl) (.none rfl) rfl rfl ?_
    refine WL.nil ?_
    refine WE.then_n ?_
    refine WC.cond_t rfl ?_
    refine WC.region ?_
    refine WL.val (v_move rfl rfl) (.none rfl) rfl rfl ?_
    refine WL.call rfl rfl ck_41 (.none rfl) rfl rfl ?_
    intro w1 hS
    refine (readOpen_c w0 w1 g6 b (sAddr o 19 c 1) (c - 19) (fOf xs 18) (xs.drop 19) (.row g5 (fltL 0 0 ⟨#[]⟩) :: .row g3 (fltL 0 0 ⟨#[]⟩) :: [.row g2 (MsL.zero 0).cells]) hWd (by rw [hlst, if_pos h35] at hle2; omega) (by omega) hS).mono ?_
    rintro e w' ⟨ok, s, d, ad, kc, cs, E, K, rfl, hS', hV, hO, hF, hT⟩
    refine ⟨_, _, rfl, hS', ?_⟩
    refine WL.storeW rfl rfl rfl rfl many_25 rfl rfl (.none rfl) rfl ?_
    refine WL.as (L' := .row g6 (MsL.opened (fOf xs 18) (xs.drop 19) ad kc cs).cells :: (E ++ (K ++ (.row g5 (fltL (if ok then 0 else 2) s d) :: .row g3 (fltL 0 0 ⟨#[]⟩) :: [.row g2 (MsL.zero 0).cells])))) rfl ?_
    refine WL.nil ?_
    refine WE.block_n ?_
    exact WE.mid ⟨ok, if ok then 0 else 2, s, d, MsL.opened (fOf xs 18) (xs.drop 19) ad kc cs, E ++ K⟩ ⟨⟨⟨E, hV, fun e he => List.mem_append_left _ he⟩, fun c hc => (by
    obtain ⟨E', r1, r2⟩ := hO c hc
    exact ⟨E', r1, fun e he => List.mem_append_right _ (r2 e he)⟩), ⟨[], Vec.nil 2, fun _ h => by cases h⟩, ⟨[], Vec.nil 2, fun _ h => by cases h⟩, AtAll.zero.mono fun _ h => by cases h⟩, fun e => (by
    cases e
    exact ⟨by show (2 : Int) ≠ 0; decide, by unfold bodyM; rw [if_pos h35, hF rfl]; rfl⟩), fun e => by
    cases e
    obtain ⟨rfl, rfl, e1⟩ := hT rfl
    exact ⟨rfl, rfl, rfl, by unfold bodyM; rw [if_pos h35, e1]; rfl⟩⟩ (.cons rfl (.cons rfl (.cons rfl (.cons rfl .nil)))) (by dsimp only; rw [List.append_assoc]; exact .refl _)
   ·
    refine WL.val (v_assign rfl rfl) (.none rfl) rfl rfl ?_
    refine WL.nil ?_
    refine WE.then_n ?_
    refine WC.cond_f rfl ?_
    refine WC.seq ?_
    refine WC.region ?_
    refine WL.test (v_eql rfl rfl rfl) (.none rfl) rfl rfl (fun h39 => ?_) (fun h39 => ?_)
    ·
     refine WL.val (v_assign rfl rfl) (.none rfl) rfl rfl ?_
     refine WL.nil ?_
     refine WE.then_n ?_
     refine WC.cond_t rfl ?_
     refine WC.region ?_
     refine WL.val (v_move rfl rfl) (.none rfl) rfl rfl ?_
     refine WL.call rfl rfl ck_42 (.none rfl) rfl rfl ?_
     intro w1 hS
     refine (readUpdate_c w0 w1 g6 b (sAddr o 19 c 1) (c - 19) (fOf xs 18) (xs.drop 19) (.row g5 (fltL 0 0 ⟨#[]⟩) :: .row g3 (fltL 0 0 ⟨#[]⟩) :: [.row g2 (MsL.zero 0).cells]) hG hZ hWd (by omega) hS).mono ?_
     rintro e w' ⟨ok, fc, s, d, gad, gc, gs, a, nad, nc, ns, K, rfl, hS', hM, hF, hT⟩
     refine ⟨_, _, rfl, hS', ?_⟩
     refine WL.storeW rfl rfl rfl rfl many_25 rfl rfl (.none rfl) rfl ?_
     refine WL.as (L' := .row g6 (MsL.upd (fOf xs 18) gad gc gs a nad nc ns).cells :: (K ++ (.row g5 (fltL fc s d) :: .row g3 (fltL 0 0 ⟨#[]⟩) :: [.row g2 (MsL.zero 0).cells]))) rfl ?_
     refine WL.nil ?_
     refine WE.block_n ?_
     exact WE.mid ⟨ok, fc, s, d, MsL.upd (fOf xs 18) gad gc gs a nad nc ns, K⟩ ⟨hM, fun e => (by
     have := hF e
     exact ⟨this.1, by unfold bodyM; rw [if_neg h35, if_pos h39, this.2]⟩), fun e => by
     obtain ⟨e1, e2, e3, e4⟩ := hT e
     exact ⟨e1, e2, e3, by unfold bodyM; rw [if_neg h35, if_pos h39, e4]; rfl⟩⟩ (.cons rfl (.cons rfl (.cons rfl (.cons rfl .nil)))) (.refl _)
    ·
     refine WL.val (v_assign rfl rfl) (.none rfl) rfl rfl ?_
     refine WL.nil ?_
     refine WE.then_n ?_
     refine WC.cond_f rfl ?_
     refine WC.seq ?_
     refine WC.region ?_
     refine WL.test (v_eql rfl rfl rfl) (.none rfl) rfl rfl (fun h43 => ?_) (fun h43 => ?_)
     ·
      refine WL.val (v_assign rfl rfl) (.none rfl) rfl rfl ?_
      refine WL.nil ?_
      refine WE.then_n ?_
      refine WC.cond_t rfl ?_
      refine WC.orders mixed ?_
      refine WR.first (g := 8) [0, 1, 4, 5, 8, 9] (by kernel_rfl) (by kernel_rfl) ?_
      have h2l : 2 ≤ (xs.drop 19).length := (by rw [hlst, if_neg h35, if_neg h39, if_pos h43] at hle2; omega)
      have b0 := fOf_b hWd.bys 0
      have b1 := fOf_b hWd.bys 1
      refine WP.val (v_move rfl rfl) (.none rfl) rfl rfl ?_
      refine WP.val (v_indexAddr (lo := 0) rfl rfl rfl Tryd.underlying22 sz_5 rfl (by omega)) (.none rfl) rfl rfl ?_
      refine WP.val (v_move rfl rfl) (.none rfl) rfl rfl ?_
      refine WP.val (v_indexAddr (lo := 1) rfl rfl rfl Tryd.underlying22 sz_5 rfl (by omega)) (.none rfl) rfl rfl ?_
      refine WP.val (v_move rfl rfl) (.none rfl) rfl rfl ?_
      refine WP.val ((v_slice_lo (lo := 2) rfl rfl rfl Tryd.underlying22 sz_5 rfl (by omega))) (.none rfl) rfl rfl ?_
      refine WP.nil ?_
      refine WR.read (g := 1) [2, 3, 6, 7, 10, 11, 12] (by kernel_rfl) (by kernel_rfl) (by kernel_rfl) (by kernel_rfl) rfl ?_
      refine WQ.val (v_load1 rfl rfl one_5 (cellOld (fun h => h) (hWd.get (fOf_get (by omega))))) (.none rfl) rfl rfl ?_
      refine WQ.val (v_conv rfl rfl Tryd.underlying3 Tryd.underlying5 (w_i64 (by omega) (by omega))) (.none rfl) rfl rfl ?_
      refine WQ.val (v_load1 rfl rfl one_5 (cellOld (fun h => h) (hWd.get (fOf_get (by omega))))) (.none rfl) rfl rfl ?_
      refine WQ.val (v_conv rfl rfl Tryd.underlying3 Tryd.underlying5 (w_i64 (by omega) (by omega))) (.none rfl) rfl rfl ?_
      refine WQ.val (v_convBS ((fun i => fOf (xs.drop 19) (2 + i))) rfl rfl Tryd.underlying22 Tryd.underlying5 Tryd.underlying9 (fun w' hS' _ => ⟨b, sAddr (sAddr o 19 c 1) 2 (c - 19) 1, rfl, fun i hi => by
      have := ((hWd.st hS').drop 2).get (i := i) (x := fOf (xs.drop 19) (2 + i)) (by rw [List.getElem?_drop]; exact fOf_get (by omega))
      rwa [Nat.mul_one] at this⟩)) (.none rfl) rfl rfl ?_
      refine WQ.val (v_build rfl rfl zero_25 plc_25 rfl) (.none rfl) rfl rfl ?_
      refine WQ.val (v_fieldAddr0 rfl rfl fld_43_8) (.none rfl) rfl rfl ?_
      refine WQ.nilR ?_
      refine WR.ones (g := 0) [13] (by kernel_rfl) ?_
      refine WL.storeN rfl rfl rfl rfl many_25 rfl (by first | exact Nat.le_of_ble_eq_true rfl | simp) (.none rfl) rfl ?_
      refine WL.as (L' := .row g6 (MsL.cells { MsL.zero (fOf xs 18) with fc := fOf (xs.drop 19) 0, fs := fOf (xs.drop 19) 1, fd := strD (xs.drop 19) }) :: .row g5 (fltL 0 0 ⟨#[]⟩) :: .row g3 (fltL 0 0 ⟨#[]⟩) :: [.row g2 (MsL.zero 0).cells]) rfl ?_
      refine WL.nilR ?_
      refine WR.done (by kernel_rfl) ?_
      refine WE.block_n ?_
      exact WE.mid ⟨true, 0, 0, ⟨#[]⟩, { MsL.zero (fOf xs 18) with fc := fOf (xs.drop 19) 0, fs := fOf (xs.drop 19) 1, fd := strD (xs.drop 19) }, []⟩ ⟨⟨⟨[], Vec.nil 2, fun _ h => by cases h⟩, (fun _ h => by cases h), ⟨[], Vec.nil 2, fun _ h => by cases h⟩, ⟨[], Vec.nil 2, fun _ h => by cases h⟩, AtAll.zero⟩, fun e => (by cases e), fun _ => ⟨rfl, rfl, rfl, by unfold bodyM; rw [if_neg h35, if_neg h39, if_pos h43]; rfl⟩⟩ (.cons rfl (.cons rfl (.cons rfl (.cons rfl .nil)))) (.refl _)
     ·
      refine WL.val (v_assign rfl rfl) (.none rfl) rfl rfl ?_
      refine WL.nil ?_
      refine WE.then_n ?_
      refine WC.cond_f rfl ?_
      refine WC.skip ?_
      refine WE.block_n ?_
      exact WE.mid ⟨true, 0, 0, ⟨#[]⟩, MsL.zero (fOf xs 18), []⟩ ⟨MsAll.zero _, fun e => (by cases e), fun _ => ⟨rfl, rfl, rfl, by unfold bodyM; rw [if_neg h35, if_neg h39, if_neg h43]⟩⟩ (.cons rfl (.cons rfl (.cons rfl (.cons rfl .nil)))) (.refl _)
  ·
   rintro ⟨ok, fc, s, d, m, K⟩ ⟨hM, hF, hT⟩
   dsimp only at hM hF hT
   dsimp only
   refine WC.seq ?_
   refine WC.seq ?_
   refine WC.region ?_
   refine WL.val (v_loadN rfl rfl many_25 rfl allAt) (.none rfl) rfl rfl ?_
   skip
   cases ok
   ·
    refine WL.val (v_build rfl rfl zero_25 plc_25 rfl) (.none rfl) rfl rfl ?_
    refine WL.val (v_neq_aggT rfl rfl rfl eqk_25 eqg_25 rfl rfl (by exact fun h => by injection h with h1 _; injection h1 with _ h1; exact (hF rfl).1 h1)) (.none rfl) rfl rfl ?_
    refine WL.nil ?_
    refine WE.then_n ?_
    refine WC.cond_t rfl ?_
    refine WC.seq ?_
    refine WC.orders mixed ?_
    refine WR.first (g := 3) [0] (by kernel_rfl) (by kernel_rfl) ?_
    refine WP.val (v_build rfl rfl zero_43 plc_43 rfl) (.none rfl) rfl rfl ?_
    refine WP.nil ?_
    refine WR.each (g := 2) [1, 2] (by kernel_rfl) (by decide) ?_
    refine ⟨?_, ?_⟩
    ·
     refine WL.val (v_loadN rfl rfl many_25 rfl allAt) (.none rfl) rfl rfl ?_
     refine WL.nilR ?_
     refine WR.ones (g := 0) [2, 3] (by kernel_rfl) ?_
     refine WL.storeW rfl rfl rfl rfl many_43 rfl rfl (.none rfl) rfl ?_
     refine WL.storeW rfl rfl rfl rfl many_25 rfl rfl (.none rfl) rfl ?_
     refine WL.nilR ?_
     refine WR.done (by kernel_rfl) ?_
     refine WE.then_n ?_
     refine WC.ret ?_
     refine WE.then_ret ?_
     refine WE.ret2 (P := Tryd.prog) (.inl rfl) Tryd.results17 (resRow rfl many_43 rfl) (resRow rfl many_25 rfl) ?_
     exact fun w' h => by unfold DecP; rw [e00, (hF rfl).2]; exact ⟨rfl, h.frm⟩
    ·
     refine WL.storeW rfl rfl rfl rfl many_43 rfl rfl (.none rfl) rfl ?_
     refine WL.nilR ?_
     refine WR.read (g := 1) [1] (by kernel_rfl) (by kernel_rfl) (by kernel_rfl) (by kernel_rfl) rfl ?_
     refine WQ.val (v_loadN rfl rfl many_25 rfl allAt) (.none rfl) rfl rfl ?_
     refine WQ.nilR ?_
     refine WR.ones (g := 0) [3] (by kernel_rfl) ?_
     refine WL.storeW rfl rfl rfl rfl many_25 rfl rfl (.none rfl) rfl ?_
     refine WL.nilR ?_
     refine WR.done (by kernel_rfl) ?_
     refine WE.then_n ?_
     refine WC.ret ?_
     refine WE.then_ret ?_
     refine WE.ret2 (P := Tryd.prog) (.inl rfl) Tryd.results17 (resRow rfl many_43 rfl) (resRow rfl many_25 rfl) ?_
     exact fun w' h => by unfold DecP; rw [e00, (hF rfl).2]; exact ⟨rfl, h.frm⟩
   ·
    obtain ⟨rfl, rfl, rfl, e1⟩ := hT rfl
    refine WL.val (v_build rfl rfl zero_25 plc_25 rfl) (.none rfl) rfl rfl ?_
    refine WL.val (v_neq_aggF rfl rfl rfl eqk_25 eqg_25 rfl rfl (by rfl)) (.none rfl) rfl rfl ?_
    refine WL.nil ?_
    refine WE.then_n ?_
    refine WC.cond_f rfl ?_
    refine WC.skip ?_
    refine WE.then_n ?_
    refine WC.seq ?_
    refine WC.region ?_
    refine WL.val (v_loadN rfl rfl many_43 rfl allAt) (.none rfl) rfl rfl ?_
    refine WL.val (v_build rfl rfl zero_25 plc_25 rfl) (.none rfl) rfl rfl ?_
    refine WL.storeW rfl rfl rfl rfl many_43 rfl rfl (.none rfl) rfl ?_
    refine WL.storeW rfl rfl rfl rfl many_25 rfl rfl (.none rfl) rfl ?_
    refine WL.nil ?_
    refine WE.then_n ?_
    refine WC.ret ?_
    refine WE.ret2 (P := Tryd.prog) (.inl rfl) Tryd.results17 (resRow rfl many_43 rfl) (resRow rfl many_25 rfl) ?_
    exact fun w' h => by unfold DecP; rw [e00, e1]; exact ⟨m, K, rfl, rfl, hM, (h.sub (List.sublist_cons_self _ _)).sub (List.sublist_append_left _ _)⟩
/-- bgp.Decode, whatever bytes. -/
theorem Decode_c (w0 : World) (b o c : Nat) (xs : List Int) (hG : GF w0) (hZ : GZ w0) (hW : Win w0 b o c xs) (hn : xs.length ≤ 90000) :
    Calls Tryd.prog 17 #[.slice (some ⟨b, o, none⟩) xs.length c] w0 fun e w' => DecP w0 w' xs e := by
  rcases sizeR_cases xs.length (fOf xs) with ⟨C, S, d, e, hC⟩ | ⟨e, h1, h2, h3, h4, h5, h6, h7, h8⟩
  · refine (DecBad_c w0 _ xs.length c (fOf xs) (fOf_byt hW.bys) (fun _ => ⟨b, o, rfl, rd_u8s hW.at_⟩) (by omega) hW.le C S d e hC).mono fun en w' h => ?_
    have e0 : decM xs = .inr (C, S, d) := by unfold decM; rw [e]; exact if_pos hC
    unfold DecP; rw [e0]; exact h
  · by_cases hk : lenI (fOf xs) = xs.length
    · rw [hk] at e
      exact DecOk_c w0 b o c xs hG hZ hW hn e h1 ⟨h5, h6⟩ (by omega)
    · refine (DecLong_c w0 b o xs.length c (fOf xs) (fOf_byt hW.bys) (rd_u8s hW.at_) (by omega) hW.le h1 _ e hk).mono fun en w' h => ?_
      have e0 : decM xs = .inr (1, 2, str (fun i => fOf xs (16 + i)) 2) := by unfold decM; rw [e]; dsimp only; rw [if_neg (by simp), if_pos hk]
      unfold DecP; rw [e0]; exact h
end Go.Proofs.YtpjbofodllhjbaaDoor
/- bgp: routes as they are said; the plain law of BgpNets. -/
namespace Go.Proofs.YtpjbofodllhjbaaDoor
open Go.RowKit

/-- A message's bytes: its kind, what it has behind its head. -/
def msgOf (k : Int) (body : List Int) : List Int := List.replicate 16 255 ++ numB (19 + body.length : Nat) 2 ++ [k] ++ body
theorem msgOf_len (k : Int) (body : List Int) : (msgOf k body).length = 19 + body.length := by unfold msgOf; simp only [List.length_append, List.length_replicate, numB_len, List.length_cons, List.length_nil]
theorem msgOf_head {k : Int} {body : List Int} {i : Nat} (hi : i < 19) : (msgOf k body)[i]? = if i < 16 then some 255 else if i = 16 then some (((19 + body.length : Nat) : Int) / 256 % 256) else if i = 17 then some (((19 + body.length : Nat) : Int) % 256) else some k := by
  unfold msgOf
  rw [show numB (((19 + body.length : Nat) : Int)) 2 = [((19 + body.length : Nat) : Int) / 256 % 256, ((19 + body.length : Nat) : Int) % 256] by
    show [_ / 2 ^ 8 % 256, _ / 2 ^ 0 % 256] = _
    rw [show (2 : Int) ^ 8 = 256 by decide, show (2 : Int) ^ 0 = 1 by decide, Int.ediv_one]]
  by_cases h : i < 16
  · rw [if_pos h, List.getElem?_append_left (by simp; omega), List.getElem?_append_left (by simp; omega), List.getElem?_append_left (by simp; omega), List.getElem?_replicate, if_pos h]
  · rw [if_neg h]
    have : i = 16 ∨ i = 17 ∨ i = 18 := by omega
    rcases this with rfl | rfl | rfl <;> rfl
theorem msgOf_drop (k : Int) (body : List Int) : (msgOf k body).drop 19 = body := by
  unfold msgOf
  exact List.drop_left' (by simp [numB_len])
theorem decM_of (k : Int) (body : List Int) (hk : 1 ≤ k ∧ k ≤ 4) (hl : 19 + body.length ≤ 4096) (hle : leastI k ≤ 19 + body.length) (h4 : k = 4 → body = []) : decM (msgOf k body) = bodyM k body := by
  have hh := head_of (zs := msgOf k body) (L := 19 + body.length) (k := k) (fun i hi => msgOf_head hi) (by omega)
  have hs : sizeR (msgOf k body).length (fOf (msgOf k body)) = (((msgOf k body).length : Int), 0, 0, ⟨#[]⟩) := by
    rw [msgOf_len, sizeR_on (by omega) hh.1, hh.2.1, hh.2.2, if_neg (by omega), if_neg (fun h => leastI_zero.1 h hk), if_neg (by
      rintro (h | ⟨h, h'⟩)
      · omega
      · rw [h4 h] at h'; exact h' rfl)]
  unfold decM
  rw [hs, msgOf_drop, hh.2.2]
  dsimp only
  rw [if_neg (by simp), if_neg (by simp)]
end Go.Proofs.YtpjbofodllhjbaaDoor
/- bgp: BgpNets. -/
namespace Go.Proofs.YtpjbofodllhjbaaDoor
open Go.RowKit

end Go.Proofs.YtpjbofodllhjbaaDoor
/- bgp: BgpNets, walked. -/
namespace Go.Proofs.YtpjbofodllhjbaaDoor
open Go.RowKit

theorem msgOf_bys {k : Int} {body : List Int} (hk : 0 ≤ k ∧ k ≤ 255) (h : Bys body) : Bys (msgOf k body) := by
  unfold msgOf
  exact Bys.app (Bys.app (Bys.app (fun x hx => by rw [List.mem_replicate] at hx; omega) (numB_bys _ _)) (Bys.one hk.1 hk.2)) h
theorem Win.row {p : Nat → Prop} {w0 w : World} {L : List Ent} {g c : Nat} {cs : List Value} {xs : List Int} [At L g cs] (hS : St p w0 w L) (hx : cs.take xs.length = u8s xs) (hb : Bys xs) (hl : xs.length ≤ c) : Win w g 0 c xs :=
  ⟨fun j v hj => allAt (g := g) w hS j v (by
    rw [← hx, List.getElem?_take] at hj
    split at hj
    · exact hj
    · cases hj), hb, hl⟩
end Go.Proofs.YtpjbofodllhjbaaDoor
/- attr: what was written is read again: numbers, paths, communities. -/
namespace Go.Proofs.YtpjbofodllhjbaaDoor
open Go.RowKit

end Go.Proofs.YtpjbofodllhjbaaDoor
/- attr: what was written is read again. -/
namespace Go.Proofs.YtpjbofodllhjbaaDoor
open Go.RowKit

theorem AtD.ext' {d e : AtD} (h1 : d.has = e.has) (h2 : d.origin = e.origin) (h3 : d.path = e.path) (h4 : d.hop = e.hop) (h5 : d.med = e.med) (h6 : d.loc = e.loc) (h7 : d.aas = e.aas) (h8 : d.aid = e.aid) (h9 : d.comms = e.comms) (h10 : d.others = e.others) : d = e := by
  cases d; cases e; dsimp only at *; subst h1 h2 h3 h4 h5 h6 h7 h8 h9 h10; rfl
theorem hasB_iff {h : Int} {k : Nat} (h1 : 1 ≤ k) (h8 : k ≤ 8) : hasB h k = true ↔ h / 2 ^ k % 2 = 1 := by
  unfold hasB
  exact ⟨fun e => (of_decide_eq_true e).2.2, fun e => decide_eq_true ⟨h1, h8, e⟩⟩
end Go.Proofs.YtpjbofodllhjbaaDoor
/- attr: all attributes that were written are read again. -/
namespace Go.Proofs.YtpjbofodllhjbaaDoor
open Go.RowKit

end Go.Proofs.YtpjbofodllhjbaaDoor
/- bgp: what was written is read again: what an Open, an Update has behind its head. -/
namespace Go.Proofs.YtpjbofodllhjbaaDoor
open Go.RowKit

end Go.Proofs.YtpjbofodllhjbaaDoor
/- stream: an append of made zeros; slices.Grow, slices.Concat of bytes. -/
namespace Go.Proofs.YtpjbofodllhjbaaDoor
open Go.RowKit

theorem append_made {P : Program} {p : Nat → Prop} {w0 : World} {t tx e s by_ m : Nat} {kk : IntKind} {zs : List Value} {L0 : List Ent} {w : World} {ty : TypeId}
    (hu : P.underlying t = some (.slice e)) (hux : P.underlying tx = some (.int kk)) (hs : (P.info? e).map (·.size) = some s) (hb : (P.info? e).map (·.bytes) = some by_) (hz : Zero P e zs) (hzl : zs.length = s) (hs1 : 0 < s)
    (_ : 0 < by_) (hm : 0 < m) (hm2 : m ≤ 1000000) (hby2 : by_ ≤ 1000) (hS : St p w0 w L0) :
    ∃ g c' cs w', (Builtin.append_ #[t, tx] ty #[.slice none 0 0, .int .i64 m]).run P w = .ok (.slice (some ⟨g, 0, none⟩) m c') w' ∧ m ≤ c' ∧ cs.length = c' * s ∧ St p w0 w' (.row g cs :: L0) := by
  have hq : ∃ i, P.info? e = some i ∧ i.bytes = by_ := by
    cases hq : P.info? e with
    | none => simp [hq] at hb
    | some i => exact ⟨i, rfl, by simpa [hq] using hb⟩
  obtain ⟨ti, hi, hib⟩ := hq
  have hask : ∀ (k : Nat) (w : World), (askRoom k).run P w = .ok () w := fun k w => by
    unfold askRoom
    by_cases h : k > roomBytes
    · rw [if_pos h]; rfl
    · rw [if_neg h]; rfl
  have hcapE : Builtin.nextslicecap m 0 = m := by unfold Builtin.nextslicecap; rw [if_pos (by omega)]
  have hmb : m * by_ ≤ 1000000 * 1000 := Nat.mul_le_mul hm2 hby2
  have hcap : ¬ (m * by_ > 2 ^ 48) := by omega
  obtain ⟨z, hz, hzs⟩ := hz
  have hzc : z.cells = zs.toArray := by rw [← hzs]
  have hd := hS.drew
  let nc := (Question.appendCap m 0 e).cut (w.tape w.drawn (.appendCap m 0 e))
  have hnc : m ≤ nc := by show m ≤ m + _; omega
  let A := Builtin.zeroCells zs.toArray m
  let B := Builtin.zeroCells zs.toArray (nc - m)
  have hAl : A.size = m * s := by show (Builtin.zeroCells zs.toArray m).size = _; simp [Builtin.zeroCells, hzl]
  have hBl : B.size = (nc - m) * s := by show (Builtin.zeroCells zs.toArray (nc - m)).size = _; simp [Builtin.zeroCells, hzl]
  have hnew : St p w0 (w.drew.alloc (.cells (A ++ B) e)) (.row w.drew.heap.size (A ++ B).toList :: L0) := St.new hd
  refine ⟨w.drew.heap.size, nc, (A ++ B).toList, _, ?_, hnc, ?_, hnew⟩
  · have hcut : (choose (.appendCap m 0 e)).run P w = .ok nc w.drew := rfl
    have hw : IntKind.i64.wrap (m : Int) = (m : Int) := w_i64 (by omega) (by omega)
    have hb0 : ¬ ((m : Int) * (by_ : Int) > 2 ^ 48) := by rw [← Int.natCast_mul]; omega
    have hms : ¬ (m * s = 0) := by have := Nat.mul_pos hm hs1; omega
    have hpos : ¬ ((m : Int) < 0) := by omega
    have hroom : ¬ (m ≤ 0) := by omega
    have hmax : ¬ ((m : Int) > IntKind.i64.max) := by show ¬ ((m : Int) > 9223372036854775807); omega
    have hasI : (asIntOf (Value.int .i64 (m : Int))).run P w = .ok (.i64, (m : Int)) w := rfl
    simp only [Builtin.append_, List.getElem?_toArray, List.getElem?_cons_zero, List.getElem?_cons_succ, Sem.run_bind, run_underlying hu, run_underlying hux, Result.andThen_ok, run_sizeOf hs, Sem.run_pure, if_true, asInt, hasI, hw, hpos, if_false]
    simp only [typeInfo, program, Sem.run, hi, Sem.run_bind, Result.andThen_ok, hib, hb0, if_false, Sem.run_pure, Int.toNat_natCast, Nat.zero_add, hroom, hmax, false_and, hcapE, hcap, hcut, hask, hms, Bool.not_true, Bool.false_eq_true, run_zeroValue hz, hzc, newRow, newObj]
    have hfc : (Builtin.firstCells s 0 (Value.slice none 0 0)).run P w.drew = .ok #[] w.drew := rfl
    rw [hfc]
    simp only [Result.andThen_ok, Array.empty_append]
    rfl
  · rw [Array.length_toList, Array.size_append, hAl, hBl, ← Nat.add_mul]; congr 1; omega
section
variable {P : Program} {ops : Array Oper} {Q : Exit → Act → World → Prop} {n : Nat} {p : Nat → Prop} {w0 : World} {o : Oper} {rest : List Oper} {l : Kn} {L : List Ent}
/-- A slice's capacity. -/
theorem v_cap_slice {C : World → Prop} {t e len cap : Nat} {ad : Option Addr} {x : Operand} (ho : o.op = .call { callee := .builtin .cap, args := #[x], argTypes := #[t] }) (hx : ev l x = some (.slice ad len cap)) (hu : P.underlying t = some (.slice e)) : Val P C n l o (.int .i64 cap) := fun a w ha _ => by
  have hx' : evs l [x] = some [.slice ad len cap] := by simp [evs, hx]
  obtain ⟨cs, h⟩ := run_builtin (P := P) (w := w) (xs := [x]) ho hx' ha
  rw [h]
  simp [builtin, Builtin.cap_, run_underlying hu, goInt]
/-- append(x, make(.., m)...) where x is nil. -/
theorem WL.appendZ {t tx e s by_ d m : Nat} {kk : IntKind} {zs : List Value} {x y : Operand} (ho : o.op = .call { callee := .builtin .append, args := #[x, y], argTypes := #[t, tx] }) (hx : ev l x = some (.slice none 0 0)) (hy : ev l y = some (.int .i64 m))
    (hu : P.underlying t = some (.slice e)) (hux : P.underlying tx = some (.int kk)) (hs : (P.info? e).map (·.size) = some s) (hb : (P.info? e).map (·.bytes) = some by_) (hz : Zero P e zs) (hzl : zs.length = s) (hs1 : Nat.blt 0 s = true) (hby : Nat.blt 0 by_ = true) (hm : 0 < m) (hm2 : m ≤ 1000000) (hby2 : Nat.ble by_ 1000 = true)
    (hg : On ops o l) (hd : o.dst = some d) (hn : Nat.blt d n = true)
    (h : ∀ g c' cs, m ≤ c' → cs.length = c' * s → WL P ops Q n p w0 rest ((d, .slice (some ⟨g, 0, none⟩) m c') :: l) (.row g cs :: L)) : WL P ops Q n p w0 (o :: rest) l L := by
  refine WL.op hg hd hn fun a w ha hS => ?_
  have hxy : evs l [x, y] = some [.slice none 0 0, .int .i64 m] := by simp [evs, hx, hy]
  obtain ⟨cc, hr⟩ := run_builtin (P := P) (w := w) (xs := [x, y]) ho hxy ha
  obtain ⟨g, c', cs, w', h1, h2, h3, h4⟩ := append_made (P := P) (ty := o.type) hu hux hs hb hz hzl (by simpa using hs1) (by simpa using hby) hm hm2 (by simpa using hby2) hS
  refine ⟨_, w', .row g cs :: L, ?_, h4, h g c' cs h2 h3⟩
  rw [hr]
  simp [builtin, h1]
end
set_option maxHeartbeats 1000000 in
theorem Grow_c (w : World) (m : Nat) (hm : m ≤ 1000000) : Calls Tryd.prog 78 #[.slice none 0 0, .int .i64 m] w fun e w' => ∃ ad c E, e = .returned (.slice ad 0 c) ∧ BV ad c [] E ∧ St (fun _ => False) w w' E := by
  refine enter Tryd.func78 rfl Tryd.ntmps78 rfl (St.start (fun _ => False) w) ?_
  refine WC.seq ?_
  refine WC.region ?_
  refine WL.val (v_assign rfl rfl) (.none rfl) rfl rfl ?_
  refine WL.nil ?_
  refine WE.then_n ?_
  refine WC.seq ?_
  refine WC.seq ?_
  refine WC.region ?_
  refine WL.val (v_move rfl rfl) (.none rfl) rfl rfl ?_
  refine WL.val ((v_lss rfl rfl rfl).f (by omega)) (.none rfl) rfl rfl ?_
  refine WL.nil ?_
  refine WE.then_n ?_
  refine WC.cond_f rfl ?_
  refine WC.skip ?_
  refine WE.then_n ?_
  refine WC.seq ?_
  refine WC.seq ?_
  refine WC.region ?_
  refine WL.val (v_move rfl rfl) (.none rfl) rfl rfl ?_
  refine WL.val (v_move rfl rfl) (.none rfl) rfl rfl ?_
  refine WL.val ((v_cap_slice rfl rfl Tryd.underlying22)) (.none rfl) rfl rfl ?_
  refine WL.val (v_move rfl rfl) (.none rfl) rfl rfl ?_
  refine WL.val (v_len_slice rfl rfl Tryd.underlying22) (.none rfl) rfl rfl ?_
  refine WL.val (v_sub rfl rfl rfl (w_i64 (by omega) (by omega))) (.none rfl) rfl rfl ?_
  refine WL.val (v_sub rfl rfl rfl (show _ = ((m : Nat) : Int) from (w_i64 (by omega) (by omega)).trans (by omega))) (.none rfl) rfl rfl ?_
  refine WL.val (v_assign rfl rfl) (.none rfl) rfl rfl ?_
  refine WL.nil ?_
  refine WE.then_n ?_
  refine WC.seq ?_
  refine WC.region ?_
  refine WL.val (v_move rfl rfl) (.none rfl) rfl rfl ?_
  refine WL.test (v_gtr rfl rfl rfl) (.none rfl) rfl rfl (fun h16 => ?_) (fun h16 => ?_)
  ·
   refine WL.nil ?_
   refine WE.then_n ?_
   refine WC.cond_t rfl ?_
   refine WC.region ?_
   refine WL.val (v_move rfl rfl) (.none rfl) rfl rfl ?_
   refine WL.val (v_move rfl rfl) (.none rfl) rfl rfl ?_
   refine WL.val ((v_cap_slice rfl rfl Tryd.underlying22)) (.none rfl) rfl rfl ?_
   refine WL.val ((v_slice_hi (hi := 0) rfl rfl rfl Tryd.underlying22 sz_5 rfl (by omega))) (.none rfl) rfl rfl ?_
   refine WL.val (v_move rfl rfl) (.none rfl) rfl rfl ?_
   refine WL.appendZ rfl rfl rfl Tryd.underlying22 Tryd.underlying3 sz_5 by_5 zero_5 rfl rfl rfl (by omega) hm rfl (.none rfl) rfl rfl ?_
   intro g22 c22 cs22 hc22 hl22
   refine WL.val (v_move rfl rfl) (.none rfl) rfl rfl ?_
   refine WL.val (v_len_slice rfl rfl Tryd.underlying22) (.none rfl) rfl rfl ?_
   refine WL.val ((v_slice_hi (hi := 0) rfl rfl rfl Tryd.underlying22 sz_5 rfl (by omega))) (.none rfl) rfl rfl ?_
   refine WL.val (v_assign rfl rfl) (.none rfl) rfl rfl ?_
   refine WL.nil ?_
   refine WE.then_n ?_
   refine WC.seq ?_
   refine WC.region ?_
   refine WL.val (v_move rfl rfl) (.none rfl) rfl rfl ?_
   refine WL.val (v_assign rfl rfl) (.none rfl) rfl rfl ?_
   refine WL.nil ?_
   refine WE.then_n ?_
   refine WC.ret ?_
   refine WE.ret1 (P := Tryd.prog) (.inl rfl) Tryd.results78 rfl ?_
   exact fun w' h => ⟨_, _, [.row g22 cs22], rfl, Vec.row (k := 0) rfl hl22 (Nat.zero_le _), h.sub (.refl _)⟩
  ·
   refine WL.nil ?_
   refine WE.then_n ?_
   refine WC.cond_f rfl ?_
   refine WC.skip ?_
   refine WE.then_n ?_
   refine WC.seq ?_
   refine WC.region ?_
   refine WL.val (v_move rfl rfl) (.none rfl) rfl rfl ?_
   refine WL.val (v_assign rfl rfl) (.none rfl) rfl rfl ?_
   refine WL.nil ?_
   refine WE.then_n ?_
   refine WC.ret ?_
   refine WE.ret1 (P := Tryd.prog) (.inl rfl) Tryd.results78 rfl ?_
   exact fun w' h => ⟨none, 0, [], rfl, Vec.nil 1, h⟩
structure SlL where
  ad : Option Addr
  cap : Nat
  val : List Int
def SlL.cells (s : SlL) : List Value := [.slice s.ad s.val.length s.cap]
def catL (ss : List SlL) : List Int := ss.flatMap SlL.val
theorem catL_take {ss : List SlL} {k : Nat} {s : SlL} (h : ss[k]? = some s) : catL (ss.take (k + 1)) = catL (ss.take k) ++ s.val := by
  rw [take_succ_get h]; unfold catL; rw [List.flatMap_append, List.flatMap_cons, List.flatMap_nil, List.append_nil]
theorem catL_le (ss : List SlL) (k : Nat) : (catL (ss.take k)).length ≤ (catL ss).length := by
  have h : ss = ss.take k ++ ss.drop k := (List.take_append_drop k ss).symm
  have e : catL ss = catL (ss.take k) ++ catL (ss.drop k) := by
    conv => lhs; rw [h]
    unfold catL; rw [List.flatMap_append]
  rw [e, List.length_append]; omega
set_option maxHeartbeats 2000000 in
theorem Concat_c (w0 : World) (gs os c : Nat) (ss : List SlL) (hR : RowsAt w0 (some ⟨gs, os, none⟩) 1 SlL.cells ss) (hC : ∀ s ∈ ss, CellsAt w0 s.ad (u8s s.val)) (hn : (catL ss).length ≤ 100000) (hl : ss.length ≤ 1000) :
    Calls Tryd.prog 56 #[.slice (some ⟨gs, os, none⟩) ss.length c] w0 fun e w' => ∃ v, e = .returned v ∧ OwnB w0 w' (catL ss) v := by
  refine enter Tryd.func56 rfl Tryd.ntmps56 rfl (St.start (fun _ => False) w0) ?_
  refine WC.seq ?_
  refine WC.region ?_
  refine WL.val (v_assign rfl rfl) (.none rfl) rfl rfl ?_
  refine WL.nil ?_
  refine WE.then_n ?_
  refine WC.seq ?_
  refine WC.region ?_
  refine WL.val (v_assign rfl rfl) (.none rfl) rfl rfl ?_
  refine WL.nil ?_
  refine WE.then_n ?_
  refine WC.seq ?_
  refine WC.seq ?_
  refine WC.region ?_
  refine WL.val (v_move rfl rfl) (.none rfl) rfl rfl ?_
  refine WL.val (v_len_slice rfl rfl Tryd.underlying148) (.none rfl) rfl rfl ?_
  refine WL.val (v_move rfl rfl) (.none rfl) rfl rfl ?_
  refine WL.nil ?_
  refine WE.then_n ?_
  refine WC.block ?_
  refine WC.loop (fun k : Nat => [(11, .int .i64 k), (10, .int .i64 ss.length), (9, .slice (some ⟨gs, os, none⟩) ss.length c), (3, .int .i64 (catL (ss.take k)).length), (0, .slice (some ⟨gs, os, none⟩) ss.length c)]) (fun _ => []) (fun k => k ≤ ss.length) (fun k => ss.length - k) 0 (Nat.zero_le _) (.cons rfl (.cons rfl (.cons rfl (.cons rfl (.cons rfl .nil))))) (.refl _) ?_
  intro k hk
  refine WC.seq ?_
  refine WC.region ?_
  refine WL.test (v_lss rfl rfl rfl) (.none rfl) rfl rfl (fun h12 => ?_) (fun h12 => ?_)
  ·
   refine WL.nil ?_
   refine WE.then_n ?_
   refine WC.seq ?_
   refine WC.cond_t rfl ?_
   refine WC.skip ?_
   refine WE.then_n ?_
   refine WC.seq ?_
   refine WC.block ?_
   refine WC.seq ?_
   refine WC.region ?_
   obtain ⟨s, hs⟩ : ∃ s, ss[k]? = some s := ⟨ss[k]'(by omega), List.getElem?_eq_getElem _⟩
   have hr := hR.get hs
   have hct := catL_take hs
   have hle := catL_le ss (k + 1)
   have hlen : (catL (ss.take (k + 1))).length = (catL (ss.take k)).length + s.val.length := (by rw [hct, List.length_append])
   refine WL.val (v_indexAddr (lo := k) rfl rfl rfl Tryd.underlying148 sz_22 (by omega) (by omega)) (.none rfl) rfl rfl ?_
   refine WL.val (v_load1 rfl rfl one_22 (cellOld (v := .slice s.ad s.val.length s.cap) (fun h => h) (by have := hr 0 _ rfl; exact this))) (.none rfl) rfl rfl ?_
   refine WL.val (v_assign rfl rfl) (.none rfl) rfl rfl ?_
   refine WL.nil ?_
   refine WE.then_n ?_
   refine WC.seq ?_
   refine WC.region ?_
   refine WL.val (v_move rfl rfl) (.none rfl) rfl rfl ?_
   refine WL.val (v_move rfl rfl) (.none rfl) rfl rfl ?_
   refine WL.val (v_len_slice rfl rfl Tryd.underlying22) (.none rfl) rfl rfl ?_
   refine WL.val (v_add rfl rfl rfl (show _ = ((catL (ss.take (k + 1))).length : Int) from (w_i64 (by omega) (by omega)).trans (by omega))) (.none rfl) rfl rfl ?_
   refine WL.val (v_assign rfl rfl) (.none rfl) rfl rfl ?_
   refine WL.nil ?_
   refine WE.then_n ?_
   refine WC.seq ?_
   refine WC.region ?_
   refine WL.val (v_move rfl rfl) (.none rfl) rfl rfl ?_
   refine WL.val ((v_lss rfl rfl rfl).f (by omega)) (.none rfl) rfl rfl ?_
   refine WL.nil ?_
   refine WE.then_n ?_
   refine WC.cond_f rfl ?_
   refine WC.skip ?_
   refine WE.block_n ?_
   refine WE.then_n ?_
   refine WC.region ?_
   refine WL.val (v_add rfl rfl rfl (w_i64 (by omega) (by omega))) (.none rfl) rfl rfl ?_
   refine WL.val (v_move rfl rfl) (.none rfl) rfl rfl ?_
   refine WL.nil ?_
   exact WE.next (k + 1) (by omega) (by omega) (.int rfl (by omega) (.cons rfl (.cons rfl (.cons rfl (.cons rfl .nil))))) (.refl _)
  ·
   refine WL.nil ?_
   refine WE.then_n ?_
   refine WC.seq ?_
   refine WC.cond_f rfl ?_
   refine WC.exit ?_
   refine WE.then_exit ?_
   refine WE.then_exit ?_
   refine WE.block_hit ?_
   refine WE.then_n ?_
   refine WC.seq ?_
   refine WC.region ?_
   refine WL.val (v_move rfl rfl) (.none rfl) rfl rfl ?_
   refine WL.call rfl rfl ck_78 (.none rfl) rfl rfl ?_
   intro w1 hS
   refine (Grow_c w1 (catL (ss.take k)).length (by have := catL_le ss k; omega)).mono ?_
   rintro e w' ⟨ad24, c24, E24, rfl, hV24, hS'⟩
   refine ⟨_, _, rfl, hS.join hS', ?_⟩
   refine WL.val (v_assign rfl rfl) (.none rfl) rfl rfl ?_
   refine WL.nil ?_
   refine WE.then_n ?_
   refine WC.seq ?_
   refine WC.seq ?_
   refine WC.region ?_
   refine WL.val (v_move rfl rfl) (.none rfl) rfl rfl ?_
   refine WL.val (v_len_slice rfl rfl Tryd.underlying148) (.none rfl) rfl rfl ?_
   refine WL.val (v_move rfl rfl) (.none rfl) rfl rfl ?_
   refine WL.nil ?_
   refine WE.then_n ?_
   refine WC.block ?_
   refine WC.loop (fun x : Nat × Option Addr × Nat × List Ent => [(27, .int .i64 x.1), (26, .int .i64 ss.length), (25, .slice (some ⟨gs, os, none⟩) ss.length c), (6, .slice x.2.1 (catL (ss.take x.1)).length x.2.2.1)]) (fun x => x.2.2.2 ++ []) (fun x => x.1 ≤ ss.length ∧ BV x.2.1 x.2.2.1 (catL (ss.take x.1)) x.2.2.2) (fun x => ss.length - x.1) (0, ad24, c24, E24) ⟨Nat.zero_le _, hV24⟩ (.cons rfl (.cons rfl (.cons rfl (.cons rfl .nil)))) (.refl _) ?_
   rintro ⟨k, ad, c6, E⟩ ⟨hk2, hV⟩
   dsimp only at hk2 hV
   dsimp only
   refine WC.seq ?_
   refine WC.region ?_
   refine WL.test (v_lss rfl rfl rfl) (.none rfl) rfl rfl (fun h28 => ?_) (fun h28 => ?_)
   ·
    refine WL.nil ?_
    refine WE.then_n ?_
    refine WC.seq ?_
    refine WC.cond_t rfl ?_
    refine WC.skip ?_
    refine WE.then_n ?_
    refine WC.seq ?_
    refine WC.block ?_
    refine WC.seq ?_
    refine WC.region ?_
    obtain ⟨s, hs⟩ : ∃ s, ss[k]? = some s := ⟨ss[k]'(by omega), List.getElem?_eq_getElem _⟩
    have hr := hR.get hs
    have hct := catL_take hs
    have hle := catL_le ss (k + 1)
    have hlen : (catL (ss.take (k + 1))).length = (catL (ss.take k)).length + s.val.length := (by rw [hct, List.length_append])
    have hsrc : 0 < s.val.length → ∃ b so, s.ad = some ⟨b, so, none⟩ ∧ ∀ w, St (fun _ => False) w0 w (E ++ []) → w.rangeAt b so (u8s s.val) := (fun h => by
      obtain ⟨b, o, e, hr⟩ := hC s (List.mem_of_getElem? hs) (by rw [u8s_len]; exact h)
      exact ⟨b, o, e, fun w hS => hS.rng (fun _ h => h) _ _ _ hr⟩)
    refine WL.val (v_indexAddr (lo := k) rfl rfl rfl Tryd.underlying148 sz_22 (by omega) (by omega)) (.none rfl) rfl rfl ?_
    refine WL.val (v_load1 rfl rfl one_22 (cellOld (v := .slice s.ad s.val.length s.cap) (fun h => h) (by have := hr 0 _ rfl; exact this))) (.none rfl) rfl rfl ?_
    refine WL.val (v_assign rfl rfl) (.none rfl) rfl rfl ?_
    refine WL.nil ?_
    refine WE.then_n ?_
    refine WC.region ?_
    refine WL.val (v_move rfl rfl) (.none rfl) rfl rfl ?_
    refine WL.val (v_move rfl rfl) (.none rfl) rfl rfl ?_
    refine WL.appendL rfl rfl rfl Tryd.underlying22 Tryd.underlying22 sz_5 by_5 zero_5 rfl rfl hV (new := u8s s.val) hsrc (by rw [u8s_len]; omega) (u8s_one _) (by omega) (.none rfl) rfl rfl ?_
    intro ad33 c33 E33 hV33 hr33
    rw [← u8s_app, ← hct] at hV33
    rw [← hlen] at hV33 ⊢
    refine WL.val (v_assign rfl rfl) (.none rfl) rfl rfl ?_
    refine WL.nil ?_
    refine WE.block_n ?_
    refine WE.then_n ?_
    refine WC.region ?_
    refine WL.val (v_add rfl rfl rfl (w_i64 (by omega) (by omega))) (.none rfl) rfl rfl ?_
    refine WL.val (v_move rfl rfl) (.none rfl) rfl rfl ?_
    refine WL.nil ?_
    exact WE.next (k + 1, ad33, c33, E33) (by dsimp only; omega) ⟨by dsimp only; omega, hV33⟩ (.int rfl (by dsimp only; omega) (.cons rfl (.cons rfl (.cons rfl .nil)))) (.refl _)
   ·
    refine WL.nil ?_
    refine WE.then_n ?_
    refine WC.seq ?_
    refine WC.cond_f rfl ?_
    refine WC.exit ?_
    refine WE.then_exit ?_
    refine WE.then_exit ?_
    refine WE.block_hit ?_
    refine WE.then_n ?_
    refine WC.seq ?_
    refine WC.region ?_
    refine WL.val (v_move rfl rfl) (.none rfl) rfl rfl ?_
    refine WL.val (v_assign rfl rfl) (.none rfl) rfl rfl ?_
    refine WL.nil ?_
    refine WE.then_n ?_
    refine WC.ret ?_
    refine WE.ret1 (P := Tryd.prog) (.inl rfl) Tryd.results56 rfl ?_
    have ek : k = ss.length := (by omega)
    rw [ek, List.take_length] at hV ⊢
    exact fun w' h => ⟨_, rfl, ad, c6, E, rfl, hV, h.sub (List.sublist_append_left _ _)⟩
end Go.Proofs.YtpjbofodllhjbaaDoor
/- stream: what a Reader makes of bytes, as plain lists. -/
namespace Go.Proofs.YtpjbofodllhjbaaDoor
open Go.RowKit

/-- Bytes seen through a slice, in blocks of E. -/
structure View (E : List Ent) (aa : Option Addr) (c : Nat) (ys : List Int) : Prop where
  le : ys.length ≤ c
  bys : Bys ys
  at_ : (aa = none ∧ c = 0 ∧ ys = []) ∨ ∃ b o, aa = some ⟨b, o, none⟩ ∧ ∀ w, (∀ e ∈ E, e.holds w) → w.rangeAt b o (u8s ys)
theorem View.of {ad : Option Addr} {c : Nat} {xs : List Int} {E : List Ent} (h : BV ad c xs E) (hb : Bys xs) : View E ad c xs := by
  refine ⟨h.len.2, hb, ?_⟩
  rcases h with ⟨ha, hn, hc, _⟩ | ⟨g, cs, rfl, rfl, hx, _, _⟩
  · exact .inl ⟨ha, hc, List.length_eq_zero_iff.1 hn⟩
  · refine .inr ⟨g, 0, rfl, fun w hw j v hj => ?_⟩
    have hR : Row w g cs := hw (.row g cs) (List.mem_cons_self ..)
    rw [← hx, List.getElem?_take] at hj
    split at hj
    · rw [Nat.zero_add]; exact hR.cell hj
    · cases hj
theorem View.win {E : List Ent} {b o c : Nat} {ys : List Int} (h : View E (some ⟨b, o, none⟩) c ys) {w : World} (hw : ∀ e ∈ E, e.holds w) : Win w b o c ys := by
  rcases h.at_ with ⟨h1, _, _⟩ | ⟨b', o', e, hr⟩
  · exact nomatch h1
  · cases e; exact ⟨hr w hw, h.bys, h.le⟩
theorem View.some {E : List Ent} {aa : Option Addr} {c : Nat} {ys : List Int} (h : View E aa c ys) (h0 : 0 < ys.length) : ∃ b o, aa = some ⟨b, o, none⟩ := by
  rcases h.at_ with ⟨_, _, e⟩ | ⟨b, o, e, _⟩
  · rw [e] at h0; exact absurd h0 (Nat.lt_irrefl 0)
  · exact ⟨b, o, e⟩
theorem View.drop {E : List Ent} {b o c : Nat} {ys : List Int} (h : View E (.some ⟨b, o, none⟩) c ys) (k : Nat) : View E (.some ⟨b, sAddr o k c 1, none⟩) (c - k) (ys.drop k) := by
  have hle := h.le
  refine ⟨by rw [List.length_drop]; omega, fun x hx => h.bys x (List.mem_of_mem_drop hx), .inr ⟨b, sAddr o k c 1, rfl, fun w hw => ((h.win hw).drop k).at_⟩⟩
/-- A Reader. -/
structure RdL where
  ad : Option Addr
  cap : Nat
  wait : List Int
  count : Int
  fc : Int
  fs : Int
  fd : ByteArray
def RdL.cells (r : RdL) : List Value := [.slice r.ad r.wait.length r.cap, .int .i64 r.count, .int .i64 r.fc, .int .i64 r.fs, .string r.fd]
def szL (xs : List Int) : Nat := (sizeR xs.length (fOf xs)).1.toNat
/-- The messages behind others that bytes are, the fault, what waits. -/
def feedM (acc : List MsD) (xs : List Int) : List MsD × Option (Int × Int × ByteArray) × List Int :=
  if xs.length < 19 then (acc, none, xs)
  else if (sizeR xs.length (fOf xs)).2.1 ≠ 0 then (acc, some (sizeR xs.length (fOf xs)).2, [])
  else if xs.length < szL xs then (acc, none, xs)
  else match decM (xs.take (szL xs)) with
    | .inr f => (acc, some f, [])
    | .inl m => feedM (acc ++ [m]) (xs.drop (szL xs))
termination_by xs.length
decreasing_by
  rename_i _ h2 _
  rw [List.length_drop]
  rcases sizeR_cases xs.length (fOf xs) with ⟨C, S, d, e, hC⟩ | ⟨e, _, _, h, _⟩
  · rw [e] at h2; exact absurd hC h2
  · have : szL xs = (lenI (fOf xs)).toNat := by unfold szL; rw [e]
    omega
theorem feedM_few {acc : List MsD} {xs : List Int} (h : xs.length < 19) : feedM acc xs = (acc, none, xs) := by rw [feedM, if_pos h]
theorem feedM_bad {acc : List MsD} {xs : List Int} (h : ¬ xs.length < 19) {f : Int × Int × ByteArray} (hs : (sizeR xs.length (fOf xs)).2 = f) (hC : f.1 ≠ 0) : feedM acc xs = (acc, some f, []) := by
  rw [feedM, if_neg h, if_pos (by rw [hs]; exact hC), hs]
theorem feedM_wait {acc : List MsD} {xs : List Int} (h : ¬ xs.length < 19) (hs : (sizeR xs.length (fOf xs)).2.1 = 0) (hl : xs.length < szL xs) : feedM acc xs = (acc, none, xs) := by
  rw [feedM, if_neg h, if_neg (by rw [hs]; decide), if_pos hl]
theorem feedM_flt {acc : List MsD} {xs : List Int} (h : ¬ xs.length < 19) (hs : (sizeR xs.length (fOf xs)).2.1 = 0) (hl : ¬ xs.length < szL xs) {f : Int × Int × ByteArray} (hd : decM (xs.take (szL xs)) = .inr f) : feedM acc xs = (acc, some f, []) := by
  rw [feedM, if_neg h, if_neg (by rw [hs]; decide), if_neg hl, hd]
theorem feedM_on {acc : List MsD} {xs : List Int} (h : ¬ xs.length < 19) (hs : (sizeR xs.length (fOf xs)).2.1 = 0) (hl : ¬ xs.length < szL xs) {m : MsD} (hd : decM (xs.take (szL xs)) = .inl m) : feedM acc xs = feedM (acc ++ [m]) (xs.drop (szL xs)) := by
  rw [feedM, if_neg h, if_neg (by rw [hs]; decide), if_neg hl, hd]
theorem Size_u (w0 : World) (b o c : Nat) (xs : List Int) (hW : Win w0 b o c xs) (hn : xs.length ≤ 100000) :
    Calls Tryd.prog 14 #[.slice (some ⟨b, o, none⟩) xs.length c] w0 fun e w' => ∃ (ok : Bool) (n : Nat) (C S : Int) (d : ByteArray), e = .returned (.tuple #[.int .i64 n, .agg (fltL C S d).toArray]) ∧ Frm (fun _ => False) w0 w' ∧
      (ok = false → C ≠ 0 ∧ (sizeR xs.length (fOf xs)).2 = (C, S, d)) ∧ (ok = true → C = 0 ∧ S = 0 ∧ d = ⟨#[]⟩ ∧ (sizeR xs.length (fOf xs)).2.1 = 0 ∧ n = szL xs ∧ 19 ≤ n ∧ n ≤ 4096) := by
  refine (Size_c w0 (some ⟨b, o, none⟩) xs.length c (fOf xs) (fOf_byt hW.bys) (fun _ => ⟨b, o, rfl, rd_u8s hW.at_⟩) (by omega) hW.le).mono fun e w' h => ?_
  obtain ⟨rfl, hF⟩ := h
  rcases sizeR_cases xs.length (fOf xs) with ⟨C, S, d, e, hC⟩ | ⟨e, h1, h2, h3, h4, _⟩
  · exact ⟨false, 0, C, S, d, by rw [e]; rfl, hF, fun _ => ⟨hC, by rw [e]⟩, fun e => by cases e⟩
  · obtain ⟨n, hn⟩ := Int.eq_ofNat_of_zero_le (show 0 ≤ lenI (fOf xs) by omega)
    have es : szL xs = n := by unfold szL; rw [e]; dsimp only; rw [hn, Int.toNat_natCast]
    exact ⟨true, n, 0, 0, ⟨#[]⟩, by rw [e, hn]; rfl, hF, fun e => (by cases e), fun _ => ⟨rfl, rfl, rfl, by rw [e], es.symm, by omega, by omega⟩⟩
theorem updR_code {xs : List Int} {c s : Int} {d : ByteArray} (h : updR xs = .inr (c, s, d)) : c ≠ 0 := by
  unfold updR at h
  split at h
  · cases h; decide
  split at h
  · cases h; decide
  split at h
  · cases h; decide
  split at h
  · cases h; decide
  split at h
  · cases h; decide
  split at h
  · cases h; decide
  split at h
  · cases h; decide
  · cases h
theorem decM_code {xs : List Int} {c s : Int} {d : ByteArray} (h : decM xs = .inr (c, s, d)) : c ≠ 0 := by
  unfold decM at h
  split at h
  · rename_i h1; cases hq : (sizeR xs.length (fOf xs)) with | mk a r => rw [hq] at h h1; cases h; exact h1
  split at h
  · cases h; decide
  unfold bodyM at h
  split at h
  · split at h
    · cases h
    · cases h; decide
  split at h
  · split at h
    · cases h
    · cases h; rename_i h2; exact updR_code h2
  split at h
  · cases h
  · cases h
theorem Decode_u (w0 : World) (b o c : Nat) (xs : List Int) (hG : GF w0) (hZ : GZ w0) (hW : Win w0 b o c xs) (hn : xs.length ≤ 90000) :
    Calls Tryd.prog 17 #[.slice (some ⟨b, o, none⟩) xs.length c] w0 fun e w' => ∃ (ok : Bool) (C S : Int) (d : ByteArray) (m : MsL) (K : List Ent), e = .returned (.tuple #[.agg m.cells.toArray, .agg (fltL C S d).toArray]) ∧ MsAll K m ∧ St (fun _ => False) w0 w' K ∧
      (ok = false → C ≠ 0 ∧ decM xs = .inr (C, S, d)) ∧ (ok = true → C = 0 ∧ S = 0 ∧ d = ⟨#[]⟩ ∧ decM xs = .inl m.d) :=
  (Decode_c w0 b o c xs hG hZ hW hn).mono fun e w' h => by
    unfold DecP at h
    cases hp : decM xs with
    | inr x =>
      obtain ⟨C, S, d⟩ := x
      rw [hp] at h
      exact ⟨false, C, S, d, .zero 0, [], h.1, MsAll.zero 0, (St.start _ _).ext h.2, fun _ => ⟨decM_code hp, rfl⟩, fun e => by cases e⟩
    | inl dd =>
      rw [hp] at h
      obtain ⟨m, K, he, hm, hM, hS⟩ := h
      exact ⟨true, 0, 0, ⟨#[]⟩, m, K, he, hM, hS, (fun e => by cases e), fun _ => ⟨rfl, rfl, rfl, by rw [hm]⟩⟩
def msgsL (ms : List MsL) : List Value := ms.flatMap MsL.cells
theorem msgsL_snoc (ms : List MsL) (m : MsL) : msgsL (ms ++ [m]) = msgsL ms ++ m.cells := by unfold msgsL; rw [List.flatMap_append, List.flatMap_cons, List.flatMap_nil, List.append_nil]
theorem MsAll.mono {K K' : List Ent} {m : MsL} (h : MsAll K m) (hm : ∀ e ∈ K, e ∈ K') : MsAll K' m := by
  obtain ⟨⟨E1, a1, b1⟩, h2, ⟨E3, a3, b3⟩, ⟨E4, a4, b4⟩, h5⟩ := h
  exact ⟨⟨E1, a1, fun e he => hm e (b1 e he)⟩, fun c hc => by obtain ⟨E, q1, q2⟩ := h2 c hc; exact ⟨E, q1, fun e he => hm e (q2 e he)⟩, ⟨E3, a3, fun e he => hm e (b3 e he)⟩, ⟨E4, a4, fun e he => hm e (b4 e he)⟩, h5.mono hm⟩
end Go.Proofs.YtpjbofodllhjbaaDoor
/- stream: Reader.Feed, walked. -/
namespace Go.Proofs.YtpjbofodllhjbaaDoor
open Go.RowKit

theorem CloneV_c (w : World) (E : List Ent) (aa : Option Addr) (c : Nat) (ys : List Int) (hV : View E aa c ys) (hw : ∀ e ∈ E, e.holds w) (hn : ys.length ≤ 1000000) :
    Calls Tryd.prog 57 #[.slice aa ys.length c] w fun e w' => ∃ x, e = .returned x ∧ OwnB w w' ys x := by
  rcases hV.at_ with ⟨rfl, rfl, rfl⟩ | ⟨b, o, rfl, _⟩
  · refine enter Tryd.func57 rfl Tryd.ntmps57 rfl (St.start (fun _ => False) w) ?_
    refine WC.seq ?_
    refine WC.region ?_
    refine WL.val (v_assign rfl rfl) (.none rfl) rfl rfl ?_
    refine WL.nil ?_
    refine WE.then_n ?_
    refine WC.seq ?_
    refine WC.seq ?_
    refine WC.region ?_
    refine WL.val (v_move rfl rfl) (.none rfl) rfl rfl ?_
    refine WL.val (v_eql_nil true rfl rfl Tryd.underlying22 rfl) (.none rfl) rfl rfl ?_
    refine WL.nil ?_
    refine WE.then_n ?_
    refine WC.cond_t rfl ?_
    refine WC.seq ?_
    refine WC.region ?_
    refine WL.val (v_assign rfl rfl) (.none rfl) rfl rfl ?_
    refine WL.nil ?_
    refine WE.then_n ?_
    refine WC.ret ?_
    refine WE.then_ret ?_
    refine WE.ret1 (P := Tryd.prog) (.inl rfl) Tryd.results57 rfl ?_
    exact fun w' h => ⟨_, rfl, none, 0, [], rfl, Vec.nil 1, h⟩
  · exact CloneB_c w b o c ys (hV.win hw) hn
theorem rows1 {w : World} {g : Nat} {cs : List Value} {ss : List SlL} (h : w.rangeAt g 0 cs) (hcs : cs = ss.map fun s => .slice s.ad s.val.length s.cap) : RowsAt w (some ⟨g, 0, none⟩) 1 SlL.cells ss := fun i s hi => ⟨g, 0, rfl, fun j v hj => by
  match j, hj with
  | 0, hj =>
    cases hj
    have := h i _ (by rw [hcs, List.getElem?_map, hi]; rfl)
    simpa using this
  | j + 1, hj => simp [SlL.cells] at hj⟩
structure FdS where
  ys : List Int
  aa : Option Addr
  c : Nat
  ms : List MsL
  ad : Option Addr
  mc : Nat
  Em : List Ent
  K : List Ent
def RdL.more (r : RdL) (k : Nat) : RdL := { r with count := r.count + k }
def fltOf (f : Option (Int × Int × ByteArray)) : Int × Int × ByteArray := f.getD (0, 0, ⟨#[]⟩)
/-- What Feed leaves behind. -/
def FeedP (w0 w' : World) (gr : Nat) (r : RdL) (bs : List Int) (L : List Ent) (e : Ending) : Prop :=
  ∃ (ad : Option Addr) (mc : Nat) (ms : List MsL) (Em K : List Ent) (wad : Option Addr) (wc : Nat) (rest : List Int) (Ew : List Ent) (f : Option (Int × Int × ByteArray)),
    feedM [] (r.wait ++ bs) = (ms.map MsL.d, f, rest) ∧ e = .returned (.tuple #[.slice ad ms.length mc, .agg (fltL (fltOf f).1 (fltOf f).2.1 (fltOf f).2.2).toArray]) ∧ Vec 20 ad ms.length mc (msgsL ms) Em ∧ (∀ m ∈ ms, MsAll K m) ∧ BV wad wc rest Ew ∧ Bys rest ∧
    St (fun _ => False) w0 w' (.row gr (RdL.cells ⟨wad, wc, rest, r.count + ms.length, (fltOf f).1, (fltOf f).2.1, (fltOf f).2.2⟩) :: (Ew ++ (Em ++ (K ++ L))))
set_option maxHeartbeats 4000000 in
theorem Feed_c (w0 w1 : World) (gr : Nat) (r : RdL) (ba : Option Addr) (bc : Nat) (bs : List Int) (E L : List Ent) (hG : GF w0) (hZ : GZ w0) (hr : r.fc = 0 ∧ r.fs = 0 ∧ r.fd = ⟨#[]⟩) (hV : BV r.ad r.cap r.wait E) (hB : Bys (r.wait ++ bs)) (hb : ∀ w, St (fun _ => False) w0 w (.row gr r.cells :: (E ++ L)) → CellsAt w ba (u8s bs)) (hn : (r.wait ++ bs).length ≤ 50000) (hc : 0 ≤ r.count ∧ r.count ≤ 4611686018427387904)
    (hS0 : St (fun _ => False) w0 w1 (.row gr r.cells :: (E ++ L))) :
    Calls Tryd.prog 26 #[.pointer (some ⟨gr, 0, none⟩), .slice ba bs.length bc] w1 fun e w' => FeedP w0 w' gr r bs L e := by
  obtain ⟨rad, rcap, ws, cnt, rfc, rfs, rfd⟩ := r
  dsimp only at hr hV hB hn hc
  obtain ⟨rfl, rfl, rfl⟩ := hr
  have hln : ws.length ≤ 50000 ∧ bs.length ≤ 50000 := by rw [List.length_append] at hn; omega
  refine enter Tryd.func26 rfl Tryd.ntmps26 rfl hS0 ?_
  refine WC.seq ?_
  refine WC.region ?_
  refine WL.val (v_assign rfl rfl) (.none rfl) rfl rfl ?_
  refine WL.alloc rfl zero_25 (.none rfl) rfl rfl ?_
  intro g5 hg5
  refine WL.nil ?_
  refine WE.then_n ?_
  refine WC.seq ?_
  refine WC.seq ?_
  refine WC.region ?_
  refine WL.val (v_move rfl rfl) (.none rfl) rfl rfl ?_
  refine WL.val (v_eql_nil false rfl rfl Tryd.underlying72 rfl) (.none rfl) rfl rfl ?_
  refine WL.val (v_move rfl rfl) (.none rfl) rfl rfl ?_
  refine WL.val (v_move rfl rfl) (.some rfl rfl rfl) rfl rfl ?_
  refine WL.val (v_nilCheck rfl rfl) (.some rfl rfl rfl) rfl rfl ?_
  refine WL.val (v_fieldAddr0 rfl rfl fld_74_2) (.some rfl rfl rfl) rfl rfl ?_
  refine WL.val (v_loadN rfl rfl many_25 rfl (segAt (m := 3) rfl)) (.some rfl rfl rfl) rfl rfl ?_
  refine WL.val (v_build rfl rfl zero_25 plc_25 rfl) (.some rfl rfl rfl) rfl rfl ?_
  refine WL.val (v_neq_aggF rfl rfl rfl eqk_25 eqg_25 rfl rfl (by rfl)) (.some rfl rfl rfl) rfl rfl ?_
  refine WL.val (v_pick_f rfl rfl rfl) (.none rfl) rfl rfl ?_
  refine WL.nil ?_
  refine WE.then_n ?_
  refine WC.cond_f rfl ?_
  refine WC.skip ?_
  refine WE.then_n ?_
  refine WC.seq ?_
  refine WC.region ?_
  refine WL.val (v_move rfl rfl) (.none rfl) rfl rfl ?_
  refine WL.val (v_nilCheck rfl rfl) (.none rfl) rfl rfl ?_
  refine WL.val (v_fieldAddr0 rfl rfl fld_74_0) (.none rfl) rfl rfl ?_
  refine WL.val (v_load1 rfl rfl one_22 (cellAt (v := .slice rad ws.length rcap) rfl)) (.none rfl) rfl rfl ?_
  refine WL.val (v_move rfl rfl) (.none rfl) rfl rfl ?_
  refine WL.buildSlice rfl rfl Tryd.underlying148 sz_22 zero_22 rfl (by decide) rfl (.none rfl) rfl rfl ?_
  intro g27 hg27
  have hcat : catL [⟨rad, rcap, ws⟩, ⟨ba, bc, bs⟩] = ws ++ bs := (by show ws ++ (bs ++ []) = _; rw [List.append_nil])
  refine WL.call rfl rfl ck_56 (.none rfl) rfl rfl ?_
  intro w1 hS
  refine (Concat_c w1 g27 0 2 [⟨rad, rcap, ws⟩, ⟨ba, bc, bs⟩] (rows1 (allAt (g := g27) w1 hS) rfl) (fun s hs => by
    rcases List.mem_cons.1 hs with rfl | hs
    · intro h0
      obtain ⟨b, o, e, hr⟩ := hV.src (L := .row g27 _ :: .row g5 _ :: .row gr _ :: (E ++ L)) (fun e he => .tail _ (.tail _ (.tail _ (List.mem_append_left _ he)))) h0
      exact ⟨b, o, e, hr _ _ _ hS⟩
    · rcases List.mem_cons.1 hs with rfl | hs
      · exact hb _ (hS.sub (.cons _ (.cons _ (.refl _))))
      · cases hs) (by rw [hcat]; omega) (by show 2 ≤ 1000; omega)).mono ?_
  rintro e w' ⟨_, rfl, ad28, c28, E28, rfl, hV28, hS'⟩
  refine ⟨_, _, rfl, hS.join hS', ?_⟩
  rw [hcat] at hV28 ⊢
  have hVw := View.of hV28 hB
  refine WL.to (L' := [] ++ (.row gr (RdL.cells ⟨rad, rcap, ws, cnt + ((0 : Nat) : Int), 0, 0, ⟨#[]⟩⟩) :: .row g5 (fltL 0 0 ⟨#[]⟩) :: ([] ++ (E28 ++ (E ++ L))))) (fun w hS => by
    have h1 := hS.sub (List.Sublist.append_left (List.sublist_cons_self _ _) E28)
    have h2 := St.front (R := [.row g5 _, .row gr _]) (L := E ++ L) E28 h1
    have h3 := h2.perm (List.Perm.swap _ _ _)
    rw [show cnt + ((0 : Nat) : Int) = cnt by omega]
    exact h3) ?_
  refine WL.val (v_assign rfl rfl) (.none rfl) rfl rfl ?_
  refine WL.nil ?_
  refine WE.then_n ?_
  refine WC.seq ?_
  refine WC.region ?_
  refine WL.val (v_assign rfl rfl) (.none rfl) rfl rfl ?_
  refine WL.nil ?_
  refine WE.then_n ?_
  refine WC.cut (fun y : FdS => [(0, .pointer (some ⟨gr, 0, none⟩)), (5, .pointer (some ⟨g5, 0, none⟩)), (6, .slice y.aa y.ys.length y.c), (7, .slice y.ad y.ms.length y.mc)]) (fun y => y.Em ++ (.row gr (RdL.cells ⟨rad, rcap, ws, cnt + (y.ms.length : Int), 0, 0, ⟨#[]⟩⟩) :: .row g5 (fltL 0 0 ⟨#[]⟩) :: (y.K ++ (E28 ++ (E ++ L))))) (fun y => y.ys.length ≤ (ws ++ bs).length ∧ View E28 y.aa y.c y.ys ∧ feedM [] (ws ++ bs) = (y.ms.map MsL.d, none, y.ys) ∧ Vec 20 y.ad y.ms.length y.mc (msgsL y.ms) y.Em ∧ ∀ m ∈ y.ms, MsAll y.K m) ?_ ?_
  ·
   refine WC.block ?_
   refine WC.loop (fun x : FdS => [(0, .pointer (some ⟨gr, 0, none⟩)), (5, .pointer (some ⟨g5, 0, none⟩)), (6, .slice x.aa x.ys.length x.c), (7, .slice x.ad x.ms.length x.mc)]) (fun x => x.Em ++ (.row gr (RdL.cells ⟨rad, rcap, ws, cnt + (x.ms.length : Int), 0, 0, ⟨#[]⟩⟩) :: .row g5 (fltL 0 0 ⟨#[]⟩) :: (x.K ++ (E28 ++ (E ++ L))))) (fun x => x.ms.length + x.ys.length ≤ (ws ++ bs).length ∧ View E28 x.aa x.c x.ys ∧ feedM [] (ws ++ bs) = feedM (x.ms.map MsL.d) x.ys ∧ Vec 20 x.ad x.ms.length x.mc (msgsL x.ms) x.Em ∧ ∀ m ∈ x.ms, MsAll x.K m) (fun x => x.ys.length) ⟨ws ++ bs, ad28, c28, [], none, 0, [], []⟩ ⟨by simp, hVw, rfl, Vec.nil 20, fun _ h => by cases h⟩ (.cons rfl (.cons rfl (.cons rfl (.cons rfl .nil)))) (.refl _) ?_
   rintro ⟨ys, aa, c, ms, ad, mc, Em, K⟩ ⟨hl, hVy, hy, hVm, hK⟩
   dsimp only at hl hVy hy hVm hK
   dsimp only
   refine WC.seq ?_
   refine WC.seq ?_
   refine WC.region ?_
   refine WL.val (v_move rfl rfl) (.none rfl) rfl rfl ?_
   refine WL.val (v_len_slice rfl rfl Tryd.underlying22) (.none rfl) rfl rfl ?_
   refine WL.test (v_geq rfl rfl rfl) (.none rfl) rfl rfl (fun h31 => ?_) (fun h31 => ?_)
   ·
    refine WL.nil ?_
    refine WE.then_n ?_
    refine WC.cond_t rfl ?_
    refine WC.skip ?_
    refine WE.then_n ?_
    refine WC.block ?_
    refine WC.seq ?_
    refine WC.region ?_
    refine WL.val (v_move rfl rfl) (.none rfl) rfl rfl ?_
    have h19' : ¬ ys.length < 19 := (by omega)
    obtain ⟨b', o', rfl⟩ := hVy.some (by omega)
    have hle := hVy.le
    refine WL.call rfl rfl ck_14 (.none rfl) rfl rfl ?_
    intro w1 hS
    refine (Size_u w1 b' o' c ys (hVy.win (fun e he => hS.holds e (List.mem_append_right _ (.tail _ (.tail _ (List.mem_append_right _ (List.mem_append_left _ he))))))) (by omega)).mono ?_
    rintro e w' ⟨ok, n, C, S, d, rfl, hF, hbad, hok⟩
    refine ⟨_, _, rfl, hS.ext hF, ?_⟩
    refine WL.val (v_move rfl rfl) (.none rfl) rfl rfl ?_
    refine WL.val (v_extract rfl rfl rfl) (.none rfl) rfl rfl ?_
    refine WL.val (v_extract rfl rfl rfl) (.none rfl) rfl rfl ?_
    skip
    cases ok
    ·
     refine WL.alloc rfl zero_25 (.none rfl) rfl rfl ?_
     intro g9 hg9
     refine WL.val (v_assign rfl rfl) (.none rfl) rfl rfl ?_
     refine WL.storeW rfl rfl rfl rfl many_25 rfl rfl (.none rfl) rfl ?_
     refine WL.nil ?_
     refine WE.then_n ?_
     refine WC.seq ?_
     refine WC.seq ?_
     refine WC.region ?_
     refine WL.val (v_loadN rfl rfl many_25 rfl allAt) (.none rfl) rfl rfl ?_
     refine WL.val (v_build rfl rfl zero_25 plc_25 rfl) (.none rfl) rfl rfl ?_
     refine WL.val (v_eql_aggF rfl rfl rfl eqk_25 eqg_25 rfl rfl (by exact fun h => by injection h with h1 _; injection h1 with _ h1; exact (hbad rfl).1 h1)) (.none rfl) rfl rfl ?_
     refine WL.val (v_move rfl rfl) (.none rfl) rfl rfl ?_
     refine WL.skip rfl rfl rfl rfl rfl rfl ?_
     refine WL.skip rfl rfl rfl rfl rfl rfl ?_
     refine WL.skip rfl rfl rfl rfl rfl rfl ?_
     refine WL.skip rfl rfl rfl rfl rfl rfl ?_
     refine WL.val (v_pick_f rfl rfl rfl) (.none rfl) rfl rfl ?_
     refine WL.nil ?_
     refine WE.then_n ?_
     refine WC.cond_f rfl ?_
     refine WC.skip ?_
     refine WE.then_n ?_
     refine WC.seq ?_
     refine WC.region ?_
     refine WL.alloc rfl zero_43 (.none rfl) rfl rfl ?_
     intro g10 hg10
     refine WL.nil ?_
     refine WE.then_n ?_
     refine WC.seq ?_
     refine WC.seq ?_
     refine WC.region ?_
     refine WL.val (v_loadN rfl rfl many_25 rfl allAt) (.none rfl) rfl rfl ?_
     refine WL.val (v_build rfl rfl zero_25 plc_25 rfl) (.none rfl) rfl rfl ?_
     refine WL.val (v_eql_aggF rfl rfl rfl eqk_25 eqg_25 rfl rfl (by exact fun h => by injection h with h1 _; injection h1 with _ h1; exact (hbad rfl).1 h1)) (.none rfl) rfl rfl ?_
     refine WL.nil ?_
     refine WE.then_n ?_
     refine WC.cond_f rfl ?_
     refine WC.skip ?_
     refine WE.then_n ?_
     refine WC.seq ?_
     refine WC.seq ?_
     refine WC.region ?_
     refine WL.val (v_loadN rfl rfl many_25 rfl allAt) (.none rfl) rfl rfl ?_
     refine WL.val (v_build rfl rfl zero_25 plc_25 rfl) (.none rfl) rfl rfl ?_
     refine WL.val (v_neq_aggT rfl rfl rfl eqk_25 eqg_25 rfl rfl (by exact fun h => by injection h with h1 _; injection h1 with _ h1; exact (hbad rfl).1 h1)) (.none rfl) rfl rfl ?_
     refine WL.nil ?_
     refine WE.then_n ?_
     refine WC.cond_t rfl ?_
     refine WC.seq ?_
     refine WC.orders mixed ?_
     refine WR.first (g := 5) [0, 1, 3, 4] (by kernel_rfl) (by kernel_rfl) ?_
     refine WP.val (v_move rfl rfl) (.none rfl) rfl rfl ?_
     refine WP.val (v_move rfl rfl) (.none rfl) rfl rfl ?_
     refine WP.val (v_nilCheck rfl rfl) (.none rfl) rfl rfl ?_
     refine WP.val (v_fieldAddr0 rfl rfl fld_74_0) (.none rfl) rfl rfl ?_
     refine WP.nil ?_
     refine WR.each (g := 4) [2, 5] (by kernel_rfl) (by decide) ?_
     refine ⟨?_, ?_⟩
     ·
      refine WL.val (v_loadN rfl rfl many_25 rfl allAt) (.none rfl) rfl rfl ?_
      refine WL.nilR ?_
      refine WR.ones (g := 3) [5] (by kernel_rfl) ?_
      refine WL.store1 rfl rfl rfl rfl one_22 (Nat.le_of_ble_eq_true rfl) (.none rfl) rfl ?_
      refine WL.nilR ?_
      refine WR.first (g := 1) [6, 7] (by kernel_rfl) (by kernel_rfl) ?_
      refine WP.val (v_nilCheck rfl rfl) (.none rfl) rfl rfl ?_
      refine WP.val (v_fieldAddr0 rfl rfl fld_74_2) (.none rfl) rfl rfl ?_
      refine WP.nil ?_
      refine WR.ones (g := 0) [8] (by kernel_rfl) ?_
      refine WL.storeN rfl rfl rfl rfl many_25 rfl (by first | exact Nat.le_of_ble_eq_true rfl | simp) (.none rfl) rfl ?_
      refine WL.nilR ?_
      refine WR.done (by kernel_rfl) ?_
      refine WE.then_n ?_
      refine WC.seq ?_
      refine WC.orders mixed ?_
      refine WR.first (g := 2) [0, 2] (by kernel_rfl) (by kernel_rfl) ?_
      refine WP.val (v_move rfl rfl) (.none rfl) rfl rfl ?_
      refine WP.val (v_assign rfl rfl) (.none rfl) rfl rfl ?_
      refine WP.nil ?_
      refine WR.read (g := 1) [1] (by kernel_rfl) (by kernel_rfl) (by kernel_rfl) (by kernel_rfl) rfl ?_
      refine WQ.val (v_loadN rfl rfl many_25 rfl allAt) (.none rfl) rfl rfl ?_
      refine WQ.nilR ?_
      refine WR.ones (g := 0) [3] (by kernel_rfl) ?_
      refine WL.storeW rfl rfl rfl rfl many_25 rfl rfl (.none rfl) rfl ?_
      refine WL.nilR ?_
      refine WR.done (by kernel_rfl) ?_
      refine WE.then_n ?_
      refine WC.ret ?_
      refine WE.then_ret ?_
      refine WE.block_ret ?_
      refine WE.then_ret ?_
      refine WE.block_ret ?_
      refine WE.then_ret ?_
      refine WE.ret2 (P := Tryd.prog) (.inl rfl) Tryd.results26 rfl (resRow rfl many_25 rfl) ?_
      have e0 := hy.trans (feedM_bad h19' (hbad rfl).2 (hbad rfl).1)
      refine fun w' h => ⟨ad, mc, ms, Em, K, none, 0, [], [], some (C, S, d), e0, rfl, hVm, hK, Vec.nil 1, Bys.nil, ?_⟩
      have h1 := h.sub (.cons _ (.cons _ (List.Sublist.append_left (.cons_cons _ (.cons _ (List.Sublist.append_left (List.sublist_append_of_sublist_right (List.sublist_append_right _ _)) _))) _)))
      exact St.front (R := [_]) (L := K ++ L) Em h1
     ·
      refine WL.store1 rfl rfl rfl rfl one_22 (Nat.le_of_ble_eq_true rfl) (.none rfl) rfl ?_
      refine WL.nilR ?_
      refine WR.read (g := 1) [2, 6, 7] (by kernel_rfl) (by kernel_rfl) (by kernel_rfl) (by kernel_rfl) rfl ?_
      refine WQ.val (v_loadN rfl rfl many_25 rfl allAt) (.none rfl) rfl rfl ?_
      refine WQ.val (v_nilCheck rfl rfl) (.none rfl) rfl rfl ?_
      refine WQ.val (v_fieldAddr0 rfl rfl fld_74_2) (.none rfl) rfl rfl ?_
      refine WQ.nilR ?_
      refine WR.ones (g := 0) [8] (by kernel_rfl) ?_
      refine WL.storeN rfl rfl rfl rfl many_25 rfl (by first | exact Nat.le_of_ble_eq_true rfl | simp) (.none rfl) rfl ?_
      refine WL.nilR ?_
      refine WR.done (by kernel_rfl) ?_
      refine WE.then_n ?_
      refine WC.seq ?_
      refine WC.orders mixed ?_
      refine WR.first (g := 2) [0, 2] (by kernel_rfl) (by kernel_rfl) ?_
      refine WP.val (v_move rfl rfl) (.none rfl) rfl rfl ?_
      refine WP.val (v_assign rfl rfl) (.none rfl) rfl rfl ?_
      refine WP.nil ?_
      refine WR.read (g := 1) [1] (by kernel_rfl) (by kernel_rfl) (by kernel_rfl) (by kernel_rfl) rfl ?_
      refine WQ.val (v_loadN rfl rfl many_25 rfl allAt) (.none rfl) rfl rfl ?_
      refine WQ.nilR ?_
      refine WR.ones (g := 0) [3] (by kernel_rfl) ?_
      refine WL.storeW rfl rfl rfl rfl many_25 rfl rfl (.none rfl) rfl ?_
      refine WL.nilR ?_
      refine WR.done (by kernel_rfl) ?_
      refine WE.then_n ?_
      refine WC.ret ?_
      refine WE.then_ret ?_
      refine WE.block_ret ?_
      refine WE.then_ret ?_
      refine WE.block_ret ?_
      refine WE.then_ret ?_
      refine WE.ret2 (P := Tryd.prog) (.inl rfl) Tryd.results26 rfl (resRow rfl many_25 rfl) ?_
      have e0 := hy.trans (feedM_bad h19' (hbad rfl).2 (hbad rfl).1)
      refine fun w' h => ⟨ad, mc, ms, Em, K, none, 0, [], [], some (C, S, d), e0, rfl, hVm, hK, Vec.nil 1, Bys.nil, ?_⟩
      have h1 := h.sub (.cons _ (.cons _ (List.Sublist.append_left (.cons_cons _ (.cons _ (List.Sublist.append_left (List.sublist_append_of_sublist_right (List.sublist_append_right _ _)) _))) _)))
      exact St.front (R := [_]) (L := K ++ L) Em h1
    ·
     obtain ⟨rfl, rfl, rfl, hz, rfl, hn19, hn4⟩ := hok rfl
     refine WL.alloc rfl zero_25 (.none rfl) rfl rfl ?_
     intro g9 hg9
     refine WL.val (v_assign rfl rfl) (.none rfl) rfl rfl ?_
     refine WL.storeW rfl rfl rfl rfl many_25 rfl rfl (.none rfl) rfl ?_
     refine WL.nil ?_
     refine WE.then_n ?_
     refine WC.seq ?_
     refine WC.seq ?_
     refine WC.region ?_
     refine WL.val (v_loadN rfl rfl many_25 rfl allAt) (.none rfl) rfl rfl ?_
     refine WL.val (v_build rfl rfl zero_25 plc_25 rfl) (.none rfl) rfl rfl ?_
     refine WL.val (v_eql_aggT rfl rfl rfl eqk_25 eqg_25 rfl rfl (by rfl)) (.none rfl) rfl rfl ?_
     refine WL.val (v_move rfl rfl) (.none rfl) rfl rfl ?_
     refine WL.val (v_move rfl rfl) (.some rfl rfl rfl) rfl rfl ?_
     refine WL.val (v_len_slice rfl rfl Tryd.underlying22) (.some rfl rfl rfl) rfl rfl ?_
     refine WL.val (v_move rfl rfl) (.some rfl rfl rfl) rfl rfl ?_
     refine WL.test (v_lss rfl rfl rfl) (.some rfl rfl rfl) rfl rfl (fun h44 => ?_) (fun h44 => ?_)
     ·
      refine WL.val (v_pick_t rfl rfl rfl) (.none rfl) rfl rfl ?_
      refine WL.nil ?_
      refine WE.then_n ?_
      refine WC.cond_t rfl ?_
      refine WC.exit ?_
      refine WE.then_exit ?_
      refine WE.block_miss rfl ?_
      refine WE.then_exit ?_
      refine WE.block_hit ?_
      exact WE.mid ⟨ys, some ⟨b', o', none⟩, c, ms, ad, mc, Em, K⟩ ⟨by dsimp only; omega, hVy, by rw [hy]; exact feedM_wait h19' hz (by omega), hVm, hK⟩ (.cons rfl (.cons rfl (.cons rfl (.cons rfl .nil)))) (.cons _ (.refl _))
     ·
      refine WL.val (v_pick_t rfl rfl rfl) (.none rfl) rfl rfl ?_
      refine WL.nil ?_
      refine WE.then_n ?_
      refine WC.cond_f rfl ?_
      refine WC.skip ?_
      refine WE.then_n ?_
      refine WC.seq ?_
      refine WC.region ?_
      refine WL.alloc rfl zero_43 (.none rfl) rfl rfl ?_
      intro g10 hg10
      refine WL.nil ?_
      refine WE.then_n ?_
      refine WC.seq ?_
      refine WC.seq ?_
      refine WC.region ?_
      refine WL.val (v_loadN rfl rfl many_25 rfl allAt) (.none rfl) rfl rfl ?_
      refine WL.val (v_build rfl rfl zero_25 plc_25 rfl) (.none rfl) rfl rfl ?_
      refine WL.val (v_eql_aggT rfl rfl rfl eqk_25 eqg_25 rfl rfl (by rfl)) (.none rfl) rfl rfl ?_
      refine WL.nil ?_
      refine WE.then_n ?_
      refine WC.cond_t rfl ?_
      refine WC.region ?_
      refine WL.val (v_move rfl rfl) (.none rfl) rfl rfl ?_
      refine WL.val (v_move rfl rfl) (.none rfl) rfl rfl ?_
      refine WL.val ((v_slice_hi (hi := szL ys) rfl rfl rfl Tryd.underlying22 sz_5 rfl (by omega))) (.none rfl) rfl rfl ?_
      refine WL.call rfl rfl ck_17 (.none rfl) rfl rfl ?_
      intro w1 hS
      have hWy := hVy.win (fun e he => hS.holds e (.tail _ (.tail _ (List.mem_append_right _ (.tail _ (.tail _ (List.mem_append_right _ (List.mem_append_left _ he))))))))
      have htl : (ys.take (szL ys)).length = szL ys := (by rw [List.length_take]; omega)
      have hc := Decode_u w1 b' o' c (ys.take (szL ys)) (hG.keep (fun h => h) hS) (hZ.keep (fun h => h) hS) (hWy.take _) (by omega)
      rw [htl] at hc
      refine hc.mono ?_
      rintro e w' ⟨ok2, C, S, d, m, Kd, rfl, hMd, hSd, hbad2, hok2⟩
      refine ⟨_, _, rfl, hS.join hSd, ?_⟩
      refine WL.val (v_move rfl rfl) (.none rfl) rfl rfl ?_
      refine WL.val (v_extract rfl rfl rfl) (.none rfl) rfl rfl ?_
      refine WL.val (v_extract rfl rfl rfl) (.none rfl) rfl rfl ?_
      skip
      cases ok2
      ·
       refine WL.storeW rfl rfl rfl rfl many_43 rfl rfl (.none rfl) rfl ?_
       refine WL.storeW rfl rfl rfl rfl many_25 rfl rfl (.none rfl) rfl ?_
       refine WL.nil ?_
       refine WE.then_n ?_
       refine WC.seq ?_
       refine WC.seq ?_
       refine WC.region ?_
       refine WL.val (v_loadN rfl rfl many_25 rfl allAt) (.none rfl) rfl rfl ?_
       refine WL.val (v_build rfl rfl zero_25 plc_25 rfl) (.none rfl) rfl rfl ?_
       refine WL.val (v_neq_aggT rfl rfl rfl eqk_25 eqg_25 rfl rfl (by exact fun h => by injection h with h1 _; injection h1 with _ h1; exact (hbad2 rfl).1 h1)) (.none rfl) rfl rfl ?_
       refine WL.nil ?_
       refine WE.then_n ?_
       refine WC.cond_t rfl ?_
       refine WC.seq ?_
       refine WC.orders mixed ?_
       refine WR.first (g := 5) [0, 1, 3, 4] (by kernel_rfl) (by kernel_rfl) ?_
       refine WP.val (v_move rfl rfl) (.none rfl) rfl rfl ?_
       refine WP.val (v_move rfl rfl) (.none rfl) rfl rfl ?_
       refine WP.val (v_nilCheck rfl rfl) (.none rfl) rfl rfl ?_
       refine WP.val (v_fieldAddr0 rfl rfl fld_74_0) (.none rfl) rfl rfl ?_
       refine WP.nil ?_
       refine WR.each (g := 4) [2, 5] (by kernel_rfl) (by decide) ?_
       refine ⟨?_, ?_⟩
       ·
        refine WL.val (v_loadN rfl rfl many_25 rfl allAt) (.none rfl) rfl rfl ?_
        refine WL.nilR ?_
        refine WR.ones (g := 3) [5] (by kernel_rfl) ?_
        refine WL.store1 rfl rfl rfl rfl one_22 (Nat.le_of_ble_eq_true rfl) (.none rfl) rfl ?_
        refine WL.nilR ?_
        refine WR.first (g := 1) [6, 7] (by kernel_rfl) (by kernel_rfl) ?_
        refine WP.val (v_nilCheck rfl rfl) (.none rfl) rfl rfl ?_
        refine WP.val (v_fieldAddr0 rfl rfl fld_74_2) (.none rfl) rfl rfl ?_
        refine WP.nil ?_
        refine WR.ones (g := 0) [8] (by kernel_rfl) ?_
        refine WL.storeN rfl rfl rfl rfl many_25 rfl (by first | exact Nat.le_of_ble_eq_true rfl | simp) (.none rfl) rfl ?_
        refine WL.nilR ?_
        refine WR.done (by kernel_rfl) ?_
        refine WE.then_n ?_
        refine WC.seq ?_
        refine WC.orders mixed ?_
        refine WR.first (g := 2) [0, 2] (by kernel_rfl) (by kernel_rfl) ?_
        refine WP.val (v_move rfl rfl) (.none rfl) rfl rfl ?_
        refine WP.val (v_assign rfl rfl) (.none rfl) rfl rfl ?_
        refine WP.nil ?_
        refine WR.read (g := 1) [1] (by kernel_rfl) (by kernel_rfl) (by kernel_rfl) (by kernel_rfl) rfl ?_
        refine WQ.val (v_loadN rfl rfl many_25 rfl allAt) (.none rfl) rfl rfl ?_
        refine WQ.nilR ?_
        refine WR.ones (g := 0) [3] (by kernel_rfl) ?_
        refine WL.storeW rfl rfl rfl rfl many_25 rfl rfl (.none rfl) rfl ?_
        refine WL.nilR ?_
        refine WR.done (by kernel_rfl) ?_
        refine WE.then_n ?_
        refine WC.ret ?_
        refine WE.then_ret ?_
        refine WE.block_ret ?_
        refine WE.then_ret ?_
        refine WE.block_ret ?_
        refine WE.then_ret ?_
        refine WE.ret2 (P := Tryd.prog) (.inl rfl) Tryd.results26 rfl (resRow rfl many_25 rfl) ?_
        have e0 := hy.trans (feedM_flt h19' hz (by omega) (hbad2 rfl).2)
        refine fun w' h => ⟨ad, mc, ms, Em, K, none, 0, [], [], some (C, S, d), e0, rfl, hVm, hK, Vec.nil 1, Bys.nil, ?_⟩
        have h1 := (((h.sub (List.sublist_append_right _ _)).sub (.cons _ (.cons _ (.refl _)))).sub (List.Sublist.append_left (.cons_cons _ (.cons _ (List.Sublist.append_left (List.sublist_append_of_sublist_right (List.sublist_append_right _ _)) _))) _))
        exact St.front (R := [_]) (L := K ++ L) Em h1
       ·
        refine WL.store1 rfl rfl rfl rfl one_22 (Nat.le_of_ble_eq_true rfl) (.none rfl) rfl ?_
        refine WL.nilR ?_
        refine WR.read (g := 1) [2, 6, 7] (by kernel_rfl) (by kernel_rfl) (by kernel_rfl) (by kernel_rfl) rfl ?_
        refine WQ.val (v_loadN rfl rfl many_25 rfl allAt) (.none rfl) rfl rfl ?_
        refine WQ.val (v_nilCheck rfl rfl) (.none rfl) rfl rfl ?_
        refine WQ.val (v_fieldAddr0 rfl rfl fld_74_2) (.none rfl) rfl rfl ?_
        refine WQ.nilR ?_
        refine WR.ones (g := 0) [8] (by kernel_rfl) ?_
        refine WL.storeN rfl rfl rfl rfl many_25 rfl (by first | exact Nat.le_of_ble_eq_true rfl | simp) (.none rfl) rfl ?_
        refine WL.nilR ?_
        refine WR.done (by kernel_rfl) ?_
        refine WE.then_n ?_
        refine WC.seq ?_
        refine WC.orders mixed ?_
        refine WR.first (g := 2) [0, 2] (by kernel_rfl) (by kernel_rfl) ?_
        refine WP.val (v_move rfl rfl) (.none rfl) rfl rfl ?_
        refine WP.val (v_assign rfl rfl) (.none rfl) rfl rfl ?_
        refine WP.nil ?_
        refine WR.read (g := 1) [1] (by kernel_rfl) (by kernel_rfl) (by kernel_rfl) (by kernel_rfl) rfl ?_
        refine WQ.val (v_loadN rfl rfl many_25 rfl allAt) (.none rfl) rfl rfl ?_
        refine WQ.nilR ?_
        refine WR.ones (g := 0) [3] (by kernel_rfl) ?_
        refine WL.storeW rfl rfl rfl rfl many_25 rfl rfl (.none rfl) rfl ?_
        refine WL.nilR ?_
        refine WR.done (by kernel_rfl) ?_
        refine WE.then_n ?_
        refine WC.ret ?_
        refine WE.then_ret ?_
        refine WE.block_ret ?_
        refine WE.then_ret ?_
        refine WE.block_ret ?_
        refine WE.then_ret ?_
        refine WE.ret2 (P := Tryd.prog) (.inl rfl) Tryd.results26 rfl (resRow rfl many_25 rfl) ?_
        have e0 := hy.trans (feedM_flt h19' hz (by omega) (hbad2 rfl).2)
        refine fun w' h => ⟨ad, mc, ms, Em, K, none, 0, [], [], some (C, S, d), e0, rfl, hVm, hK, Vec.nil 1, Bys.nil, ?_⟩
        have h1 := (((h.sub (List.sublist_append_right _ _)).sub (.cons _ (.cons _ (.refl _)))).sub (List.Sublist.append_left (.cons_cons _ (.cons _ (List.Sublist.append_left (List.sublist_append_of_sublist_right (List.sublist_append_right _ _)) _))) _))
        exact St.front (R := [_]) (L := K ++ L) Em h1
      ·
       refine WL.storeW rfl rfl rfl rfl many_43 rfl rfl (.none rfl) rfl ?_
       refine WL.storeW rfl rfl rfl rfl many_25 rfl rfl (.none rfl) rfl ?_
       refine WL.nil ?_
       refine WE.then_n ?_
       refine WC.seq ?_
       refine WC.seq ?_
       refine WC.region ?_
       refine WL.val (v_loadN rfl rfl many_25 rfl allAt) (.none rfl) rfl rfl ?_
       obtain ⟨rfl, rfl, rfl, hdm⟩ := hok2 rfl
       refine WL.val (v_build rfl rfl zero_25 plc_25 rfl) (.none rfl) rfl rfl ?_
       refine WL.val (v_neq_aggF rfl rfl rfl eqk_25 eqg_25 rfl rfl (by rfl)) (.none rfl) rfl rfl ?_
       refine WL.nil ?_
       refine WE.then_n ?_
       refine WC.cond_f rfl ?_
       refine WC.skip ?_
       refine WE.then_n ?_
       refine WC.seq ?_
       refine WC.region ?_
       refine WL.val (v_move rfl rfl) (.none rfl) rfl rfl ?_
       refine WL.val (v_loadN rfl rfl many_43 rfl allAt) (.none rfl) rfl rfl ?_
       refine WL.buildSlice rfl rfl Tryd.underlying75 sz_43 zero_43 rfl (by decide) rfl (.none rfl) rfl rfl ?_
       intro g70 hg70
       refine WL.as (L' := .row g70 m.cells :: (Kd ++ (.row g10 m.cells :: .row g9 (fltL 0 0 ⟨#[]⟩) :: (Em ++ (.row gr (RdL.cells ⟨rad, rcap, ws, cnt + (ms.length : Int), 0, 0, ⟨#[]⟩⟩) :: .row g5 (fltL 0 0 ⟨#[]⟩) :: (K ++ (E28 ++ (E ++ L)))))))) rfl ?_
       refine WL.to (L' := Em ++ (.row g70 m.cells :: (Kd ++ (.row g10 m.cells :: .row g9 (fltL 0 0 ⟨#[]⟩) :: .row gr (RdL.cells ⟨rad, rcap, ws, cnt + (ms.length : Int), 0, 0, ⟨#[]⟩⟩) :: .row g5 (fltL 0 0 ⟨#[]⟩) :: (K ++ (E28 ++ (E ++ L))))))) (fun w hS => by
         have := St.front (R := Em) (L := .row gr (RdL.cells ⟨rad, rcap, ws, cnt + (ms.length : Int), 0, 0, ⟨#[]⟩⟩) :: .row g5 (fltL 0 0 ⟨#[]⟩) :: (K ++ (E28 ++ (E ++ L)))) (.row g70 m.cells :: (Kd ++ [.row g10 m.cells, .row g9 (fltL 0 0 ⟨#[]⟩)])) (by simpa only [List.cons_append, List.append_assoc, List.nil_append] using hS)
         simpa only [List.cons_append, List.append_assoc, List.nil_append] using this) ?_
       refine WL.appendL rfl rfl rfl Tryd.underlying75 Tryd.underlying75 sz_43 by_43 zero_43 rfl rfl hVm (new := m.cells) (fun _ => ⟨g70, 0, rfl, fun w hS => allAt (g := g70) w hS⟩) rfl rfl (by omega) (.none rfl) rfl rfl ?_
       intro ad71 c71 E71 hV71 hr71
       rw [← msgsL_snoc] at hV71
       rw [show ms.length + 1 = (ms ++ [m]).length by rw [List.length_append]; rfl] at hV71 ⊢
       refine WL.val (v_assign rfl rfl) (.none rfl) rfl rfl ?_
       refine WL.nil ?_
       refine WE.then_n ?_
       refine WC.seq ?_
       refine WC.region ?_
       refine WL.val (v_move rfl rfl) (.none rfl) rfl rfl ?_
       refine WL.val (v_nilCheck rfl rfl) (.none rfl) rfl rfl ?_
       refine WL.val (v_fieldAddr0 rfl rfl fld_74_1) (.none rfl) rfl rfl ?_
       refine WL.val (v_load1 rfl rfl one_3 (cellAt (v := .int .i64 (cnt + (ms.length : Int))) rfl)) (.none rfl) rfl rfl ?_
       refine WL.val (v_add rfl rfl rfl (show _ = cnt + ((ms ++ [m]).length : Int) from (w_i64 (by omega) (by omega)).trans (by rw [List.length_append]; show cnt + (ms.length : Int) + 1 = cnt + ((ms.length + 1 : Nat) : Int); omega))) (.none rfl) rfl rfl ?_
       refine WL.val (v_nilCheck rfl rfl) (.none rfl) rfl rfl ?_
       refine WL.val (v_fieldAddr0 rfl rfl fld_74_1) (.none rfl) rfl rfl ?_
       refine WL.store1 rfl rfl rfl rfl one_3 (Nat.le_of_ble_eq_true rfl) (.none rfl) rfl ?_
       refine WL.as (L' := E71 ++ (.row g70 m.cells :: (Kd ++ (.row g10 m.cells :: .row g9 (fltL 0 0 ⟨#[]⟩) :: .row gr (RdL.cells ⟨rad, rcap, ws, cnt + ((ms ++ [m]).length : Int), 0, 0, ⟨#[]⟩⟩) :: .row g5 (fltL 0 0 ⟨#[]⟩) :: (K ++ (E28 ++ (E ++ L))))))) rfl ?_
       refine WL.to (L' := E71 ++ (.row gr (RdL.cells ⟨rad, rcap, ws, cnt + ((ms ++ [m]).length : Int), 0, 0, ⟨#[]⟩⟩) :: .row g5 (fltL 0 0 ⟨#[]⟩) :: ((Kd ++ K) ++ (E28 ++ (E ++ L))))) (fun w hS => by
         have h1 : St (fun _ => False) w0 w (E71 ++ (Kd ++ (.row gr (RdL.cells ⟨rad, rcap, ws, cnt + ((ms ++ [m]).length : Int), 0, 0, ⟨#[]⟩⟩) :: .row g5 (fltL 0 0 ⟨#[]⟩) :: (K ++ (E28 ++ (E ++ L)))))) := hS.sub (List.Sublist.append_left (.cons _ (List.Sublist.append_left (.cons _ (.cons _ (.refl _))) _)) _)
         refine h1.perm (List.Perm.append_left E71 ?_)
         have := List.perm_append_comm_assoc Kd [.row gr (RdL.cells ⟨rad, rcap, ws, cnt + ((ms ++ [m]).length : Int), 0, 0, ⟨#[]⟩⟩), .row g5 (fltL 0 0 ⟨#[]⟩)] (K ++ (E28 ++ (E ++ L)))
         simpa only [List.cons_append, List.append_assoc, List.nil_append] using this.symm) ?_
       refine WL.nil ?_
       refine WE.then_n ?_
       refine WC.region ?_
       refine WL.val (v_move rfl rfl) (.none rfl) rfl rfl ?_
       refine WL.val (v_move rfl rfl) (.none rfl) rfl rfl ?_
       refine WL.val ((v_slice_lo (lo := szL ys) rfl rfl rfl Tryd.underlying22 sz_5 rfl (by omega))) (.none rfl) rfl rfl ?_
       refine WL.val (v_assign rfl rfl) (.none rfl) rfl rfl ?_
       refine WL.nil ?_
       refine WE.block_n ?_
       exact WE.next ⟨ys.drop (szL ys), some ⟨b', sAddr o' (szL ys) c 1, none⟩, c - szL ys, ms ++ [m], ad71, c71, E71, Kd ++ K⟩ (by dsimp only; rw [List.length_drop]; omega) ⟨by dsimp only; rw [List.length_drop, List.length_append, List.length_cons, List.length_nil]; omega, hVy.drop _, by dsimp only; rw [hy, feedM_on h19' hz (by omega) hdm, List.map_append]; rfl, hV71, fun x hx => by
       rcases List.mem_append.1 hx with hx | hx
       · exact (hK x hx).mono fun e he => List.mem_append_right _ he
       · rcases List.mem_cons.1 hx with rfl | hx
         · exact hMd.mono fun e he => List.mem_append_left _ he
         · cases hx⟩ (.cons rfl (.cons rfl (.eq rfl (by dsimp only; rw [List.length_drop]) (.cons rfl .nil)))) (.refl _)
   ·
    refine WL.nil ?_
    refine WE.then_n ?_
    refine WC.cond_f rfl ?_
    refine WC.exit ?_
    refine WE.then_exit ?_
    refine WE.then_exit ?_
    refine WE.block_hit ?_
    exact WE.mid ⟨ys, aa, c, ms, ad, mc, Em, K⟩ ⟨by dsimp only; omega, hVy, by rw [hy]; exact feedM_few (by omega), hVm, hK⟩ (.cons rfl (.cons rfl (.cons rfl (.cons rfl .nil)))) (.refl _)
  ·
   rintro ⟨ys, aa, c, ms, ad, mc, Em, K⟩ ⟨hl, hVy, hy, hVm, hK⟩
   dsimp only at hl hVy hy hVm hK
   dsimp only
   refine WC.seq ?_
   refine WC.region ?_
   refine WL.val (v_move rfl rfl) (.none rfl) rfl rfl ?_
   refine WL.val (v_move rfl rfl) (.none rfl) rfl rfl ?_
   refine WL.call rfl rfl ck_57 (.none rfl) rfl rfl ?_
   intro w1 hS
   refine (CloneV_c w1 E28 aa c ys hVy (fun e he => hS.holds e (List.mem_append_right _ (.tail _ (.tail _ (List.mem_append_right _ (List.mem_append_left _ he)))))) (by omega)).mono ?_
   rintro e w' ⟨_, rfl, wad, wc, Ew, rfl, hVw2, hSw⟩
   refine ⟨_, _, rfl, hS.join hSw, ?_⟩
   refine WL.val (v_nilCheck rfl rfl) (.none rfl) rfl rfl ?_
   refine WL.val (v_fieldAddr0 rfl rfl fld_74_0) (.none rfl) rfl rfl ?_
   refine WL.store1 rfl rfl rfl rfl one_22 (Nat.le_of_ble_eq_true rfl) (.none rfl) rfl ?_
   refine WL.nil ?_
   refine WE.then_n ?_
   refine WC.seq ?_
   refine WC.region ?_
   refine WL.val (v_move rfl rfl) (.none rfl) rfl rfl ?_
   refine WL.val (v_build rfl rfl zero_25 plc_25 rfl) (.none rfl) rfl rfl ?_
   refine WL.val (v_assign rfl rfl) (.none rfl) rfl rfl ?_
   refine WL.storeW rfl rfl rfl rfl many_25 rfl rfl (.none rfl) rfl ?_
   refine WL.nil ?_
   refine WE.then_n ?_
   refine WC.ret ?_
   refine WE.ret2 (P := Tryd.prog) (.inl rfl) Tryd.results26 rfl (resRow rfl many_25 rfl) ?_
   refine fun w' h => ⟨ad, mc, ms, Em, K, wad, wc, ys, Ew, none, hy, rfl, hVm, hK, hVw2, hVy.bys, ?_⟩
   have h1 := h.sub (List.Sublist.append_left (List.Sublist.append_left (.cons_cons _ (.cons _ (List.Sublist.append_left (List.sublist_append_of_sublist_right (List.sublist_append_right _ _)) _))) _) _)
   have h2 := St.front (R := [_]) (L := K ++ L) (Ew ++ Em) (by simpa only [List.cons_append, List.append_assoc, List.nil_append] using h1)
   refine (show St _ _ _ (.row gr ((RdL.cells ⟨rad, rcap, ws, cnt + (ms.length : Int), 0, 0, ⟨#[]⟩⟩).set 0 (.slice wad ys.length wc)) :: (Ew ++ (Em ++ (K ++ L)))) from ?_)
   simpa only [List.cons_append, List.append_assoc, List.nil_append] using h2
end Go.Proofs.YtpjbofodllhjbaaDoor
/- stream: what a Reader tells; messages out of bytes; the document's example. -/
namespace Go.Proofs.YtpjbofodllhjbaaDoor
open Go.RowKit

theorem Count_c (w : World) (gr : Nat) (r : RdL) (hr : w.rangeAt gr 0 r.cells) : Calls Tryd.prog 27 #[.pointer (some ⟨gr, 0, none⟩)] w fun e w' => e = .returned (.int .i64 r.count) ∧ Frm (fun _ => False) w w' := by
  refine enter Tryd.func27 rfl Tryd.ntmps27 rfl (St.start (fun _ => False) w) ?_
  refine WC.seq ?_
  refine WC.region ?_
  refine WL.val (v_assign rfl rfl) (.none rfl) rfl rfl ?_
  refine WL.nil ?_
  refine WE.then_n ?_
  refine WC.seq ?_
  refine WC.seq ?_
  refine WC.region ?_
  refine WL.val (v_move rfl rfl) (.none rfl) rfl rfl ?_
  refine WL.val (v_eql_nil false rfl rfl Tryd.underlying72 rfl) (.none rfl) rfl rfl ?_
  refine WL.nil ?_
  refine WE.then_n ?_
  refine WC.cond_f rfl ?_
  refine WC.skip ?_
  refine WE.then_n ?_
  refine WC.seq ?_
  refine WC.region ?_
  refine WL.val (v_move rfl rfl) (.none rfl) rfl rfl ?_
  refine WL.val (v_nilCheck rfl rfl) (.none rfl) rfl rfl ?_
  refine WL.val (v_fieldAddr0 rfl rfl fld_74_1) (.none rfl) rfl rfl ?_
  refine WL.val (v_load1 rfl rfl one_3 (cellOld (v := .int .i64 r.count) (fun h => h) (hr 1 _ rfl))) (.none rfl) rfl rfl ?_
  refine WL.val (v_assign rfl rfl) (.none rfl) rfl rfl ?_
  refine WL.nil ?_
  refine WE.then_n ?_
  refine WC.ret ?_
  refine WE.ret1 (P := Tryd.prog) (.inl rfl) Tryd.results27 rfl ?_
  exact fun w' h => ⟨rfl, h.frm⟩
theorem Waits_c (w : World) (gr : Nat) (r : RdL) (hr : w.rangeAt gr 0 r.cells) : Calls Tryd.prog 28 #[.pointer (some ⟨gr, 0, none⟩)] w fun e w' => e = .returned (.int .i64 r.wait.length) ∧ Frm (fun _ => False) w w' := by
  refine enter Tryd.func28 rfl Tryd.ntmps28 rfl (St.start (fun _ => False) w) ?_
  refine WC.seq ?_
  refine WC.region ?_
  refine WL.val (v_assign rfl rfl) (.none rfl) rfl rfl ?_
  refine WL.nil ?_
  refine WE.then_n ?_
  refine WC.seq ?_
  refine WC.seq ?_
  refine WC.region ?_
  refine WL.val (v_move rfl rfl) (.none rfl) rfl rfl ?_
  refine WL.val (v_eql_nil false rfl rfl Tryd.underlying72 rfl) (.none rfl) rfl rfl ?_
  refine WL.nil ?_
  refine WE.then_n ?_
  refine WC.cond_f rfl ?_
  refine WC.skip ?_
  refine WE.then_n ?_
  refine WC.seq ?_
  refine WC.region ?_
  refine WL.val (v_move rfl rfl) (.none rfl) rfl rfl ?_
  refine WL.val (v_nilCheck rfl rfl) (.none rfl) rfl rfl ?_
  refine WL.val (v_fieldAddr0 rfl rfl fld_74_0) (.none rfl) rfl rfl ?_
  refine WL.val (v_load1 rfl rfl one_22 (cellOld (v := .slice r.ad r.wait.length r.cap) (fun h => h) (hr 0 _ rfl))) (.none rfl) rfl rfl ?_
  refine WL.val (v_len_slice rfl rfl Tryd.underlying22) (.none rfl) rfl rfl ?_
  refine WL.val (v_assign rfl rfl) (.none rfl) rfl rfl ?_
  refine WL.nil ?_
  refine WE.then_n ?_
  refine WC.ret ?_
  refine WE.ret1 (P := Tryd.prog) (.inl rfl) Tryd.results28 rfl ?_
  exact fun w' h => ⟨rfl, h.frm⟩
def RdL.flt (r : RdL) : List Value := fltL r.fc r.fs r.fd
theorem RdL.fltAt {w : World} {gr : Nat} {r : RdL} (hr : w.rangeAt gr 0 r.cells) : w.rangeAt gr 2 r.flt := fun j v hj => by
  have := hr (2 + j) v (by rw [← hj]; match j with | 0 | 1 | 2 => rfl | j + 3 => rw [show 2 + (j + 3) = j + 5 by omega]; rfl)
  rwa [Nat.zero_add] at this
theorem OverT_c (w : World) (gr : Nat) (r : RdL) (hr : w.rangeAt gr 0 r.cells) (hf : r.fc ≠ 0) : Calls Tryd.prog 30 #[.pointer (some ⟨gr, 0, none⟩)] w fun e w' => e = .returned (.tuple #[.agg r.flt.toArray, .bool true]) ∧ Frm (fun _ => False) w w' := by
  refine enter Tryd.func30 rfl Tryd.ntmps30 rfl (St.start (fun _ => False) w) ?_
  refine WC.seq ?_
  refine WC.region ?_
  refine WL.alloc rfl zero_25 (.none rfl) rfl rfl ?_
  intro g2 hg2
  refine WL.val (v_assign rfl rfl) (.none rfl) rfl rfl ?_
  refine WL.nil ?_
  refine WE.then_n ?_
  refine WC.seq ?_
  refine WC.seq ?_
  refine WC.region ?_
  refine WL.val (v_move rfl rfl) (.none rfl) rfl rfl ?_
  refine WL.val (v_eql_nil false rfl rfl Tryd.underlying72 rfl) (.none rfl) rfl rfl ?_
  refine WL.nil ?_
  refine WE.then_n ?_
  refine WC.cond_f rfl ?_
  refine WC.skip ?_
  refine WE.then_n ?_
  refine WC.seq ?_
  refine WC.orders mixed ?_
  refine WR.first (g := 5) [0, 1, 2, 4, 5, 6, 8] (by kernel_rfl) (by kernel_rfl) ?_
  refine WP.val (v_move rfl rfl) (.none rfl) rfl rfl ?_
  refine WP.val (v_nilCheck rfl rfl) (.none rfl) rfl rfl ?_
  refine WP.val (v_fieldAddr0 rfl rfl fld_74_2) (.none rfl) rfl rfl ?_
  refine WP.val (v_move rfl rfl) (.none rfl) rfl rfl ?_
  refine WP.val (v_nilCheck rfl rfl) (.none rfl) rfl rfl ?_
  refine WP.val (v_fieldAddr0 rfl rfl fld_74_2) (.none rfl) rfl rfl ?_
  refine WP.val (v_build rfl rfl zero_25 plc_25 rfl) (.none rfl) rfl rfl ?_
  refine WP.nil ?_
  refine WR.each (g := 4) [3, 7] (by kernel_rfl) (by decide) ?_
  refine ⟨?_, ?_⟩
  ·
   refine WL.val ((v_loadN (cs := r.flt) rfl rfl many_25 rfl (rgIn (fun h => h) (RdL.fltAt hr)))) (.none rfl) rfl rfl ?_
   refine WL.nilR ?_
   refine WR.each (g := 3) [7, 10] (by kernel_rfl) (by decide) ?_
   refine ⟨?_, ?_⟩
   ·
    refine WL.val ((v_loadN (cs := r.flt) rfl rfl many_25 rfl (rgIn (fun h => h) (RdL.fltAt hr)))) (.none rfl) rfl rfl ?_
    refine WL.nilR ?_
    refine WR.first (g := 2) [9] (by kernel_rfl) (by kernel_rfl) ?_
    refine WP.val (v_neq_aggT rfl rfl rfl eqk_25 eqg_25 rfl rfl (by exact fun h => by injection h with h1 _; injection h1 with _ h1; exact hf h1)) (.none rfl) rfl rfl ?_
    refine WP.nil ?_
    refine WR.ones (g := 1) [10] (by kernel_rfl) ?_
    refine WL.storeW rfl rfl rfl rfl many_25 rfl rfl (.none rfl) rfl ?_
    refine WL.nilR ?_
    refine WR.first (g := 0) [11] (by kernel_rfl) (by kernel_rfl) ?_
    refine WP.val (v_assign rfl rfl) (.none rfl) rfl rfl ?_
    refine WP.nil ?_
    refine WR.done (by kernel_rfl) ?_
    refine WE.then_n ?_
    refine WC.ret ?_
    refine WE.ret2 (P := Tryd.prog) (.inl rfl) Tryd.results30 (resRow rfl many_25 rfl) rfl ?_
    exact fun w' h => ⟨rfl, h.frm⟩
   ·
    refine WL.storeW rfl rfl rfl rfl many_25 rfl rfl (.none rfl) rfl ?_
    refine WL.nilR ?_
    refine WR.read (g := 0) [7, 9, 11] (by kernel_rfl) (by kernel_rfl) (by kernel_rfl) (by kernel_rfl) rfl ?_
    refine WQ.val ((v_loadN (cs := r.flt) rfl rfl many_25 rfl (rgIn (fun h => h) (RdL.fltAt hr)))) (.none rfl) rfl rfl ?_
    refine WQ.val (v_neq_aggT rfl rfl rfl eqk_25 eqg_25 rfl rfl (by exact fun h => by injection h with h1 _; injection h1 with _ h1; exact hf h1)) (.none rfl) rfl rfl ?_
    refine WQ.val (v_assign rfl rfl) (.none rfl) rfl rfl ?_
    refine WQ.nilR ?_
    refine WR.done (by kernel_rfl) ?_
    refine WE.then_n ?_
    refine WC.ret ?_
    refine WE.ret2 (P := Tryd.prog) (.inl rfl) Tryd.results30 (resRow rfl many_25 rfl) rfl ?_
    exact fun w' h => ⟨rfl, h.frm⟩
  ·
   refine WL.val ((v_loadN (cs := r.flt) rfl rfl many_25 rfl (rgIn (fun h => h) (RdL.fltAt hr)))) (.none rfl) rfl rfl ?_
   refine WL.nilR ?_
   refine WR.first (g := 3) [9] (by kernel_rfl) (by kernel_rfl) ?_
   refine WP.val (v_neq_aggT rfl rfl rfl eqk_25 eqg_25 rfl rfl (by exact fun h => by injection h with h1 _; injection h1 with _ h1; exact hf h1)) (.none rfl) rfl rfl ?_
   refine WP.nil ?_
   refine WR.read (g := 2) [3] (by kernel_rfl) (by kernel_rfl) (by kernel_rfl) (by kernel_rfl) rfl ?_
   refine WQ.val ((v_loadN (cs := r.flt) rfl rfl many_25 rfl (rgIn (fun h => h) (RdL.fltAt hr)))) (.none rfl) rfl rfl ?_
   refine WQ.nilR ?_
   refine WR.ones (g := 1) [10] (by kernel_rfl) ?_
   refine WL.storeW rfl rfl rfl rfl many_25 rfl rfl (.none rfl) rfl ?_
   refine WL.nilR ?_
   refine WR.first (g := 0) [11] (by kernel_rfl) (by kernel_rfl) ?_
   refine WP.val (v_assign rfl rfl) (.none rfl) rfl rfl ?_
   refine WP.nil ?_
   refine WR.done (by kernel_rfl) ?_
   refine WE.then_n ?_
   refine WC.ret ?_
   refine WE.ret2 (P := Tryd.prog) (.inl rfl) Tryd.results30 (resRow rfl many_25 rfl) rfl ?_
   exact fun w' h => ⟨rfl, h.frm⟩
theorem OverF_c (w : World) (gr : Nat) (r : RdL) (hr : w.rangeAt gr 0 r.cells) (hf : r.fc = 0 ∧ r.fs = 0 ∧ r.fd = ⟨#[]⟩) : Calls Tryd.prog 30 #[.pointer (some ⟨gr, 0, none⟩)] w fun e w' => e = .returned (.tuple #[.agg (fltL 0 0 ⟨#[]⟩).toArray, .bool false]) ∧ Frm (fun _ => False) w w' := by
  have hfl : r.flt = fltL 0 0 ⟨#[]⟩ := by unfold RdL.flt; rw [hf.1, hf.2.1, hf.2.2]
  have hr2 := RdL.fltAt hr
  rw [hfl] at hr2
  refine enter Tryd.func30 rfl Tryd.ntmps30 rfl (St.start (fun _ => False) w) ?_
  refine WC.seq ?_
  refine WC.region ?_
  refine WL.alloc rfl zero_25 (.none rfl) rfl rfl ?_
  intro g2 hg2
  refine WL.val (v_assign rfl rfl) (.none rfl) rfl rfl ?_
  refine WL.nil ?_
  refine WE.then_n ?_
  refine WC.seq ?_
  refine WC.seq ?_
  refine WC.region ?_
  refine WL.val (v_move rfl rfl) (.none rfl) rfl rfl ?_
  refine WL.val (v_eql_nil false rfl rfl Tryd.underlying72 rfl) (.none rfl) rfl rfl ?_
  refine WL.nil ?_
  refine WE.then_n ?_
  refine WC.cond_f rfl ?_
  refine WC.skip ?_
  refine WE.then_n ?_
  refine WC.seq ?_
  refine WC.orders mixed ?_
  refine WR.first (g := 5) [0, 1, 2, 4, 5, 6, 8] (by kernel_rfl) (by kernel_rfl) ?_
  refine WP.val (v_move rfl rfl) (.none rfl) rfl rfl ?_
  refine WP.val (v_nilCheck rfl rfl) (.none rfl) rfl rfl ?_
  refine WP.val (v_fieldAddr0 rfl rfl fld_74_2) (.none rfl) rfl rfl ?_
  refine WP.val (v_move rfl rfl) (.none rfl) rfl rfl ?_
  refine WP.val (v_nilCheck rfl rfl) (.none rfl) rfl rfl ?_
  refine WP.val (v_fieldAddr0 rfl rfl fld_74_2) (.none rfl) rfl rfl ?_
  refine WP.val (v_build rfl rfl zero_25 plc_25 rfl) (.none rfl) rfl rfl ?_
  refine WP.nil ?_
  refine WR.each (g := 4) [3, 7] (by kernel_rfl) (by decide) ?_
  refine ⟨?_, ?_⟩
  ·
   refine WL.val ((v_loadN (cs := fltL 0 0 ⟨#[]⟩) rfl rfl many_25 rfl (rgIn (fun h => h) hr2))) (.none rfl) rfl rfl ?_
   refine WL.nilR ?_
   refine WR.each (g := 3) [7, 10] (by kernel_rfl) (by decide) ?_
   refine ⟨?_, ?_⟩
   ·
    refine WL.val ((v_loadN (cs := fltL 0 0 ⟨#[]⟩) rfl rfl many_25 rfl (rgIn (fun h => h) hr2))) (.none rfl) rfl rfl ?_
    refine WL.nilR ?_
    refine WR.first (g := 2) [9] (by kernel_rfl) (by kernel_rfl) ?_
    refine WP.val (v_neq_aggF rfl rfl rfl eqk_25 eqg_25 rfl rfl (by rfl)) (.none rfl) rfl rfl ?_
    refine WP.nil ?_
    refine WR.ones (g := 1) [10] (by kernel_rfl) ?_
    refine WL.storeW rfl rfl rfl rfl many_25 rfl rfl (.none rfl) rfl ?_
    refine WL.nilR ?_
    refine WR.first (g := 0) [11] (by kernel_rfl) (by kernel_rfl) ?_
    refine WP.val (v_assign rfl rfl) (.none rfl) rfl rfl ?_
    refine WP.nil ?_
    refine WR.done (by kernel_rfl) ?_
    refine WE.then_n ?_
    refine WC.ret ?_
    refine WE.ret2 (P := Tryd.prog) (.inl rfl) Tryd.results30 (resRow rfl many_25 rfl) rfl ?_
    exact fun w' h => ⟨rfl, h.frm⟩
   ·
    refine WL.storeW rfl rfl rfl rfl many_25 rfl rfl (.none rfl) rfl ?_
    refine WL.nilR ?_
    refine WR.read (g := 0) [7, 9, 11] (by kernel_rfl) (by kernel_rfl) (by kernel_rfl) (by kernel_rfl) rfl ?_
    refine WQ.val ((v_loadN (cs := fltL 0 0 ⟨#[]⟩) rfl rfl many_25 rfl (rgIn (fun h => h) hr2))) (.none rfl) rfl rfl ?_
    refine WQ.val (v_neq_aggF rfl rfl rfl eqk_25 eqg_25 rfl rfl (by rfl)) (.none rfl) rfl rfl ?_
    refine WQ.val (v_assign rfl rfl) (.none rfl) rfl rfl ?_
    refine WQ.nilR ?_
    refine WR.done (by kernel_rfl) ?_
    refine WE.then_n ?_
    refine WC.ret ?_
    refine WE.ret2 (P := Tryd.prog) (.inl rfl) Tryd.results30 (resRow rfl many_25 rfl) rfl ?_
    exact fun w' h => ⟨rfl, h.frm⟩
  ·
   refine WL.val ((v_loadN (cs := fltL 0 0 ⟨#[]⟩) rfl rfl many_25 rfl (rgIn (fun h => h) hr2))) (.none rfl) rfl rfl ?_
   refine WL.nilR ?_
   refine WR.first (g := 3) [9] (by kernel_rfl) (by kernel_rfl) ?_
   refine WP.val (v_neq_aggF rfl rfl rfl eqk_25 eqg_25 rfl rfl (by rfl)) (.none rfl) rfl rfl ?_
   refine WP.nil ?_
   refine WR.read (g := 2) [3] (by kernel_rfl) (by kernel_rfl) (by kernel_rfl) (by kernel_rfl) rfl ?_
   refine WQ.val ((v_loadN (cs := fltL 0 0 ⟨#[]⟩) rfl rfl many_25 rfl (rgIn (fun h => h) hr2))) (.none rfl) rfl rfl ?_
   refine WQ.nilR ?_
   refine WR.ones (g := 1) [10] (by kernel_rfl) ?_
   refine WL.storeW rfl rfl rfl rfl many_25 rfl rfl (.none rfl) rfl ?_
   refine WL.nilR ?_
   refine WR.first (g := 0) [11] (by kernel_rfl) (by kernel_rfl) ?_
   refine WP.val (v_assign rfl rfl) (.none rfl) rfl rfl ?_
   refine WP.nil ?_
   refine WR.done (by kernel_rfl) ?_
   refine WE.then_n ?_
   refine WC.ret ?_
   refine WE.ret2 (P := Tryd.prog) (.inl rfl) Tryd.results30 (resRow rfl many_25 rfl) rfl ?_
   exact fun w' h => ⟨rfl, h.frm⟩
/-- Behind a fault nothing is read. -/
theorem FeedOver_c (w : World) (gr : Nat) (r : RdL) (v : Value) (hr : w.rangeAt gr 0 r.cells) (hf : r.fc ≠ 0) : Calls Tryd.prog 26 #[.pointer (some ⟨gr, 0, none⟩), v] w fun e w' => e = .returned (.tuple #[.slice none 0 0, .agg (fltL 0 0 ⟨#[]⟩).toArray]) ∧ Frm (fun _ => False) w w' := by
  refine enter Tryd.func26 rfl Tryd.ntmps26 rfl (St.start (fun _ => False) w) ?_
  refine WC.seq ?_
  refine WC.region ?_
  refine WL.val (v_assign rfl rfl) (.none rfl) rfl rfl ?_
  refine WL.alloc rfl zero_25 (.none rfl) rfl rfl ?_
  intro g5 hg5
  refine WL.nil ?_
  refine WE.then_n ?_
  refine WC.seq ?_
  refine WC.seq ?_
  refine WC.region ?_
  refine WL.val (v_move rfl rfl) (.none rfl) rfl rfl ?_
  refine WL.val (v_eql_nil false rfl rfl Tryd.underlying72 rfl) (.none rfl) rfl rfl ?_
  refine WL.val (v_move rfl rfl) (.none rfl) rfl rfl ?_
  refine WL.val (v_move rfl rfl) (.some rfl rfl rfl) rfl rfl ?_
  refine WL.val (v_nilCheck rfl rfl) (.some rfl rfl rfl) rfl rfl ?_
  refine WL.val (v_fieldAddr0 rfl rfl fld_74_2) (.some rfl rfl rfl) rfl rfl ?_
  refine WL.val ((v_loadN (cs := r.flt) rfl rfl many_25 rfl (rgIn (fun h => h) (RdL.fltAt hr)))) (.some rfl rfl rfl) rfl rfl ?_
  refine WL.val (v_build rfl rfl zero_25 plc_25 rfl) (.some rfl rfl rfl) rfl rfl ?_
  refine WL.val (v_neq_aggT rfl rfl rfl eqk_25 eqg_25 rfl rfl (by exact fun h => by injection h with h1 _; injection h1 with _ h1; exact hf h1)) (.some rfl rfl rfl) rfl rfl ?_
  refine WL.val (v_pick_f rfl rfl rfl) (.none rfl) rfl rfl ?_
  refine WL.nil ?_
  refine WE.then_n ?_
  refine WC.cond_t rfl ?_
  refine WC.seq ?_
  refine WC.region ?_
  refine WL.val (v_build rfl rfl zero_25 plc_25 rfl) (.none rfl) rfl rfl ?_
  refine WL.val (v_assign rfl rfl) (.none rfl) rfl rfl ?_
  refine WL.storeW rfl rfl rfl rfl many_25 rfl rfl (.none rfl) rfl ?_
  refine WL.nil ?_
  refine WE.then_n ?_
  refine WC.ret ?_
  refine WE.then_ret ?_
  refine WE.ret2 (P := Tryd.prog) (.inl rfl) Tryd.results26 rfl (resRow rfl many_25 rfl) ?_
  exact fun w' h => ⟨rfl, h.frm⟩
theorem szOf (k : Int) (body more : List Int) (hk : 1 ≤ k ∧ k ≤ 4) (hl : 19 + body.length ≤ 4096) (hle : leastI k ≤ 19 + body.length) (h4 : k = 4 → body = []) : sizeR (msgOf k body ++ more).length (fOf (msgOf k body ++ more)) = (((19 + body.length : Nat) : Int), 0, 0, ⟨#[]⟩) := by
  have hml := msgOf_len k body
  have hh := head_of (zs := msgOf k body ++ more) (L := 19 + body.length) (k := k) (fun i hi => by rw [List.getElem?_append_left (by omega)]; exact msgOf_head hi) (by omega)
  rw [sizeR_on (by rw [List.length_append]; omega) hh.1, hh.2.1, hh.2.2, if_neg (by omega), if_neg (fun h => leastI_zero.1 h hk), if_neg (by
      rintro (h | ⟨h, h'⟩)
      · omega
      · rw [h4 h] at h'; exact h' rfl)]
theorem feedM_msg {acc : List MsD} {k : Int} {body more : List Int} {m : MsD} (hk : 1 ≤ k ∧ k ≤ 4) (hl : 19 + body.length ≤ 4096) (hle : leastI k ≤ 19 + body.length) (h4 : k = 4 → body = []) (hb : bodyM k body = .inl m) : feedM acc (msgOf k body ++ more) = feedM (acc ++ [m]) more := by
  have hs := szOf k body more hk hl hle h4
  have hml := msgOf_len k body
  have hz : szL (msgOf k body ++ more) = (msgOf k body).length := by unfold szL; rw [hs, hml]; exact Int.toNat_natCast _
  rw [feedM_on (m := m) (by rw [List.length_append]; omega) (by rw [hs]) (by rw [hz, List.length_append]; omega) (by rw [hz, List.take_left, decM_of k body hk hl hle h4, hb]), hz, List.drop_left]
theorem feedM_f : ∀ (n : Nat) (acc : List MsD) (xs : List Int) (ms : List MsD) (f : Option (Int × Int × ByteArray)) (rest : List Int), xs.length ≤ n → feedM acc xs = (ms, f, rest) → (f = none ∨ ∃ C S d, f = some (C, S, d) ∧ C ≠ 0 ∧ rest = []) ∧ ms.length ≤ acc.length + xs.length ∧ rest.length ≤ xs.length
  | n, acc, xs, ms, f, rest, hn, h => by
    rw [feedM] at h
    split at h
    · cases h; exact ⟨.inl rfl, by omega, Nat.le_refl _⟩
    split at h
    · rename_i h1 h2
      cases h
      exact ⟨.inr ⟨_, _, _, rfl, h2, rfl⟩, by omega, Nat.zero_le _⟩
    split at h
    · cases h; exact ⟨.inl rfl, by omega, Nat.le_refl _⟩
    rename_i h1 h2 h3
    have hz : 19 ≤ szL xs := by
      rcases sizeR_cases xs.length (fOf xs) with ⟨C, S, d, e, hC⟩ | ⟨e, _, _, h, _⟩
      · rw [e] at h2; exact absurd hC h2
      · have : szL xs = (lenI (fOf xs)).toNat := by unfold szL; rw [e]
        omega
    split at h
    · rename_i f hd
      cases h
      obtain ⟨C, S, d⟩ := f
      exact ⟨.inr ⟨C, S, d, rfl, decM_code hd, rfl⟩, by omega, Nat.zero_le _⟩
    · match n with
      | 0 => omega
      | n + 1 =>
        have := feedM_f n _ _ _ _ _ (by rw [List.length_drop]; omega) h
        rw [List.length_drop, List.length_append, List.length_cons, List.length_nil] at this
        exact ⟨this.1, by omega, by omega⟩
def RdL.zero : RdL := ⟨none, 0, [], 0, 0, 0, ⟨#[]⟩⟩
end Go.Proofs.YtpjbofodllhjbaaDoor
/- bgp: any message that was written is read again; messages one behind the other, in whatever pieces. -/
namespace Go.Proofs.YtpjbofodllhjbaaDoor
open Go.RowKit

end Go.Proofs.YtpjbofodllhjbaaDoor
/- bgp: a message's bytes hang on what it says alone, not on where its parts lie. -/
namespace Go.Proofs.YtpjbofodllhjbaaDoor
open Go.RowKit

def segBD (p : Bool × List Int) : Bool := decide (1 ≤ p.2.length ∧ p.2.length ≤ 255) && p.2.all fun x => decide (1 ≤ x ∧ x ≤ 65535)
def goodBD (a : AtD) (k : Nat) : Bool :=
  if k = 1 then wiB a.origin 2 else if k = 2 then a.path.all segBD else if k = 3 then hopB a.hop else if k = 4 then wiB a.med 4294967295
  else if k = 5 then wiB a.loc 4294967295 else if k = 7 then wiB a.aas 65535 else if k = 8 then commsB a.comms else true
def zeroBD (a : AtD) (k : Nat) : Bool :=
  if k = 1 then decide (a.origin = 0) else if k = 2 then decide ((a.path.length : Int) = 0) else if k = 3 then decide (a.hop = 0) else if k = 4 then decide (a.med = 0)
  else if k = 5 then decide (a.loc = 0) else if k = 7 then decide (a.aas = 0 ∧ a.aid = 0) else if k = 8 then decide ((a.comms.length : Int) = 0) else true
def eachBD (a : AtD) (k : Nat) : Bool := if hasB a.has k then goodBD a k else zeroBD a k
/-- Numbers in range. -/
structure AtD.In (a : AtD) : Prop where
  nums : I64 a.has ∧ I64 a.origin ∧ U32 a.hop ∧ I64 a.med ∧ I64 a.loc ∧ I64 a.aas ∧ U32 a.aid
  segs : ∀ s ∈ a.path, s.2.length ≤ 9223372036854775807 ∧ ∀ x ∈ s.2, I64 x
  comms : ∀ x ∈ a.comms, I64 x
  oths : ∀ o ∈ a.others, I64 o.1 ∧ o.2.length ≤ 9223372036854775807 ∧ Bys o.2
  lens : a.path.length ≤ 9223372036854775807 ∧ a.comms.length ≤ 9223372036854775807 ∧ a.others.length ≤ 9223372036854775807
structure MsD.In (m : MsD) : Prop where
  nums : I64 m.kind ∧ I64 m.asn ∧ I64 m.hold ∧ U32 m.id ∧ I64 m.fc ∧ I64 m.fs
  caps : ∀ c ∈ m.caps, I64 c.1 ∧ c.2.length ≤ 9223372036854775807 ∧ Bys c.2
  gone : ∀ p ∈ m.gone, U32 p.addr ∧ I64 p.len
  nets : ∀ p ∈ m.nets, U32 p.addr ∧ I64 p.len
  at_ : m.atr.In
  lens : m.caps.length ≤ 9223372036854775807 ∧ m.gone.length ≤ 9223372036854775807 ∧ m.nets.length ≤ 9223372036854775807 ∧ m.fd.size ≤ 9223372036854775807
theorem flatMap_len {α : Type} {enc : α → List Value} {s : Nat} (hs : ∀ x, (enc x).length = s) : ∀ xs : List α, (xs.flatMap enc).length = xs.length * s
  | [] => by simp
  | x :: xs => by rw [List.flatMap_cons, List.length_append, hs, flatMap_len hs xs, List.length_cons, Nat.add_mul, Nat.one_mul]; omega
theorem flatMap_seg {α : Type} {enc : α → List Value} {s : Nat} (hs : ∀ x, (enc x).length = s) : ∀ (xs : List α) (i : Nat) (x : α), xs[i]? = some x → ((xs.flatMap enc).drop (i * s)).take s = enc x
  | [], _, _, h => by simp at h
  | y :: xs, 0, x, h => by
    simp only [List.getElem?_cons_zero, Option.some.injEq] at h
    subst h
    rw [List.flatMap_cons, Nat.zero_mul, List.drop_zero, List.take_left' (hs y)]
  | y :: xs, i + 1, x, h => by
    rw [List.getElem?_cons_succ] at h
    rw [List.flatMap_cons, Nat.add_mul, Nat.one_mul, Nat.add_comm, ← List.drop_drop, List.drop_left' (hs y)]
    exact flatMap_seg hs xs i x h
/-- Elements whose block is there. -/
theorem cells_of {s k c : Nat} {ad : Option Addr} {α : Type} {enc : α → List Value} {xs : List α} {w : World} {E : List Ent} (hV : Vec s ad k c (xs.flatMap enc) E) (hs : ∀ x, (enc x).length = s) (hs0 : 0 < s) (hw : ∀ e ∈ E, e.holds w) : RowsAt w ad s enc xs := fun i x hi => by
  have hl := flatMap_seg hs xs i x hi
  have h0 : 0 < (xs.flatMap enc).length := by
    have := (List.getElem?_eq_some_iff.1 hi).1
    rw [flatMap_len hs]
    exact Nat.mul_pos (by omega) hs0
  rcases hV with ⟨_, _, _, h, _⟩ | ⟨g, cs, rfl, rfl, hx, _, _⟩
  · rw [h] at h0; exact absurd h0 (Nat.lt_irrefl 0)
  · refine ⟨g, 0, rfl, fun j v hj => ?_⟩
    have hR : Row w g cs := hw (.row g cs) (List.mem_cons_self ..)
    have hjl := (List.getElem?_eq_some_iff.1 hj).1
    have h1 : (xs.flatMap enc)[i * s + j]? = some v := by
      rw [← hj, ← hl, List.getElem?_take, if_pos (by rw [hs] at hjl; exact hjl), List.getElem?_drop]
    rw [← hx, List.getElem?_take] at h1
    split at h1
    · rw [show (0 + i * s + j) = i * s + j by omega]; exact hR.cell h1
    · cases h1
end Go.Proofs.YtpjbofodllhjbaaDoor
/- stream: the document's example; StreamStops. -/
namespace Go.Proofs.YtpjbofodllhjbaaDoor
open Go.RowKit

def kaI : List Int := msgOf 4 []
theorem kaI_cells : u8s kaI = kaL := by kernel_rfl
theorem kaI_len : kaI.length = 19 := by decide
theorem kaI_bys : Bys kaI := msgOf_bys (by decide) Bys.nil
theorem bodyM_ka : bodyM 4 [] = .inl (MsL.zero 4).d := by unfold bodyM; rw [if_neg (by decide), if_neg (by decide), if_neg (by decide)]
theorem feedM_nil (acc : List MsD) : feedM acc [] = (acc, none, []) := feedM_few (by decide)
theorem feedM_ka : feedM [] kaI = ([(MsL.zero 4).d], none, []) := by
  have := feedM_msg (acc := []) (k := 4) (body := []) (more := []) (by decide) (by decide) (by decide) (fun _ => rfl) bodyM_ka
  rw [List.append_nil] at this
  exact this.trans (feedM_nil _)
theorem St.at0 {p : Nat → Prop} {w0 w : World} {L : List Ent} {g : Nat} {cs : List Value} (hS : St p w0 w L) (h : Ent.row g cs ∈ L) : w.rangeAt g 0 cs := fun j v hj => by
  rw [Nat.zero_add]
  have hR : Row w g cs := hS.holds _ h
  exact hR.cell hj
theorem Vec.src2 {s k c : Nat} {ad : Option Addr} {xs : List Value} {E : List Ent} (hV : Vec s ad k c xs E) (h0 : 0 < xs.length) : ∃ b o, ad = some ⟨b, o, none⟩ ∧ ∀ w, (∀ e ∈ E, e.holds w) → w.rangeAt b o xs := by
  rcases hV with ⟨_, _, _, rfl, _⟩ | ⟨g, cs, rfl, rfl, hx, _, _⟩
  · simp at h0
  · refine ⟨g, 0, rfl, fun w hw j v hj => ?_⟩
    have hR : Row w g cs := hw (.row g cs) (List.mem_cons_self ..)
    rw [← hx, List.getElem?_take] at hj
    split at hj
    · rw [Nat.zero_add]; exact hR.cell hj
    · cases hj
theorem map_nil' {α β : Type} {f : α → β} {l : List α} (h : l.map f = []) : l = [] := List.map_eq_nil_iff.1 h
set_option maxHeartbeats 4000000 in
theorem Head08_c (w0 : World) (hG : GF w0) (hZ : GZ w0) : Calls Tryd.prog 24 #[] w0 fun e w' => e = .returned (.bool true) ∧ Frm (fun _ => False) w0 w' := by
  refine enter Tryd.func24 rfl Tryd.ntmps24 rfl (St.start (fun _ => False) w0) ?_
  refine WC.seq ?_
  refine WC.region ?_
  refine WL.val (v_assign rfl rfl) (.none rfl) rfl rfl ?_
  refine WL.nil ?_
  refine WE.then_n ?_
  refine WC.seq ?_
  refine WC.region ?_
  refine WL.val (v_build rfl rfl zero_43 plc_43 rfl) (.none rfl) rfl rfl ?_
  refine WL.call rfl rfl ck_21 (.none rfl) rfl rfl ?_
  intro w1 hS
  refine (EncKa_c w1).mono ?_
  rintro e w' ⟨ad10, c10, E10, rfl, hV10, hS'⟩
  refine ⟨_, _, rfl, hS.join hS', ?_⟩
  rw [← kaI_cells] at hV10
  have hc10 := hV10.len.2
  obtain ⟨bb, ob, rfl, hrd⟩ := hV10.src (L := E10) (fun e h => h) (by decide)
  have hrd2 : ∀ (L : List Ent), (∀ e ∈ E10, e ∈ L) → ∀ w, St (fun _ => False) w0 w L → Win w bb ob c10 kaI := (fun L hm w hS => by
    obtain ⟨b2, o2, e, h⟩ := hV10.src (L := L) hm (by decide)
    cases e
    exact ⟨h _ _ _ hS, kaI_bys, hc10⟩)
  refine WL.val (v_move rfl rfl) (.none rfl) rfl rfl ?_
  refine WL.val (v_extract rfl rfl rfl) (.none rfl) rfl rfl ?_
  refine WL.val (v_extract rfl rfl rfl) (.none rfl) rfl rfl ?_
  refine WL.val (v_assign rfl rfl) (.none rfl) rfl rfl ?_
  refine WL.val (v_assign rfl rfl) (.none rfl) rfl rfl ?_
  refine WL.nil ?_
  refine WE.then_n ?_
  refine WC.seq ?_
  refine WC.seq ?_
  refine WC.region ?_
  refine WL.val (v_move rfl rfl) (.none rfl) rfl rfl ?_
  refine WL.val ((v_neq rfl rfl rfl).f (by decide)) (.none rfl) rfl rfl ?_
  refine WL.val (v_move rfl rfl) (.none rfl) rfl rfl ?_
  refine WL.val (v_move rfl rfl) (.some rfl rfl rfl) rfl rfl ?_
  refine WL.val (v_len_slice rfl rfl Tryd.underlying22) (.some rfl rfl rfl) rfl rfl ?_
  refine WL.val ((v_neq rfl rfl rfl).f (by decide)) (.some rfl rfl rfl) rfl rfl ?_
  refine WL.val (v_pick_f rfl rfl rfl) (.none rfl) rfl rfl ?_
  refine WL.nil ?_
  refine WE.then_n ?_
  refine WC.cond_f rfl ?_
  refine WC.skip ?_
  refine WE.then_n ?_
  refine WC.seq ?_
  refine WC.region ?_
  refine WL.val (v_build rfl rfl zero_74 plc_74 rfl) (.none rfl) rfl rfl ?_
  refine WL.box rfl rfl rfl (.none rfl) rfl rfl ?_
  intro g21 hg21
  refine WL.val (v_assign rfl rfl) (.none rfl) rfl rfl ?_
  refine WL.nil ?_
  refine WE.then_n ?_
  refine WC.seq ?_
  refine WC.region ?_
  refine WL.val (v_move rfl rfl) (.none rfl) rfl rfl ?_
  refine WL.val (v_move rfl rfl) (.none rfl) rfl rfl ?_
  refine WL.val ((v_slice_hi (hi := 10) rfl rfl rfl Tryd.underlying22 sz_5 rfl (by omega))) (.none rfl) rfl rfl ?_
  refine WL.call rfl rfl ck_26 (.none rfl) rfl rfl ?_
  intro w1 hS
  have ht : (kaI.take 10).length = 10 := (by decide)
  have hc := Feed_c w0 w1 g21 .zero (some ⟨bb, ob, none⟩) c10 (kaI.take 10) [] (E10 ++ []) hG hZ ⟨rfl, rfl, rfl⟩ (Vec.nil 1) (fun x hx => kaI_bys x (List.mem_of_mem_take hx)) (fun w hS _ => ⟨bb, ob, rfl, ((hrd2 _ (fun e he => .tail _ (List.mem_append_left _ he)) w hS).take 10).at_⟩) (by show (kaI.take 10).length ≤ 50000; decide) ⟨by show (0 : Int) ≤ 0; decide, by show (0 : Int) ≤ 4611686018427387904; decide⟩ (show St (fun _ => False) w0 w1 (.row g21 RdL.zero.cells :: ([] ++ (E10 ++ []))) from hS)
  rw [ht] at hc
  refine hc.mono ?_
  rintro e w' ⟨ad, mc, ms, Em, K, wad, wc, rest, Ew, f, hf, rfl, hVm, hK, hVw, hBr, hS'⟩
  have e0 : feedM [] (kaI.take 10) = ([], none, kaI.take 10) := feedM_few (by decide)
  have e1 := e0.symm.trans hf
  injection e1 with e1 e2
  injection e2 with e2 e3
  obtain rfl := map_nil' e1.symm
  subst e2 e3
  refine ⟨_, _, rfl, hS', ?_⟩
  refine WL.val (v_move rfl rfl) (.none rfl) rfl rfl ?_
  refine WL.val (v_extract rfl rfl rfl) (.none rfl) rfl rfl ?_
  refine WL.val (v_extract rfl rfl rfl) (.none rfl) rfl rfl ?_
  refine WL.alloc rfl zero_25 (.none rfl) rfl rfl ?_
  intro g5 hg5
  refine WL.val (v_assign rfl rfl) (.none rfl) rfl rfl ?_
  refine WL.storeW rfl rfl rfl rfl many_25 rfl rfl (.none rfl) rfl ?_
  refine WL.nil ?_
  refine WE.then_n ?_
  refine WC.seq ?_
  refine WC.region ?_
  refine WL.val (v_move rfl rfl) (.none rfl) rfl rfl ?_
  refine WL.val (v_move rfl rfl) (.none rfl) rfl rfl ?_
  refine WL.val ((v_slice_lo (lo := 10) rfl rfl rfl Tryd.underlying22 sz_5 rfl (by omega))) (.none rfl) rfl rfl ?_
  refine WL.call rfl rfl ck_26 (.none rfl) rfl rfl ?_
  intro w1 hS
  have ht : (kaI.drop 10).length = 19 - 10 := (by decide)
  have hc := Feed_c w0 w1 g21 ⟨wad, wc, kaI.take 10, 0, 0, 0, ⟨#[]⟩⟩ (some ⟨bb, sAddr ob 10 c10 1, none⟩) (c10 - 10) (kaI.drop 10) Ew (.row g5 (fltL 0 0 ⟨#[]⟩) :: (Em ++ (K ++ (E10 ++ [])))) hG hZ ⟨rfl, rfl, rfl⟩ hVw (by rw [List.take_append_drop]; exact kaI_bys) (fun w hS _ => ⟨bb, sAddr ob 10 c10 1, rfl, ((hrd2 _ (fun e he => .tail _ (List.mem_append_right _ (.tail _ (List.mem_append_right _ (List.mem_append_right _ (List.mem_append_left _ he)))))) w hS).drop 10).at_⟩) (by rw [List.take_append_drop, kaI_len]; decide) ⟨by show (0 : Int) ≤ 0; decide, by show (0 : Int) ≤ 4611686018427387904; decide⟩ (St.front (R := .row g21 _ :: Ew) (L := Em ++ (K ++ (E10 ++ []))) [.row g5 (fltL 0 0 ⟨#[]⟩)] hS)
  rw [ht] at hc
  refine hc.mono ?_
  rintro e w' ⟨ad2, mc2, ms2, Em2, K2, wad2, wc2, rest2, Ew2, f2, hf2, rfl, hVm2, hK2, hVw2, hBr2, hS2⟩
  have e1 := feedM_ka.symm.trans ((by rw [List.take_append_drop] : feedM [] kaI = feedM [] (kaI.take 10 ++ kaI.drop 10)).trans hf2)
  injection e1 with e1 e2
  injection e2 with e2 e3
  subst e2 e3
  obtain ⟨m, rfl⟩ : ∃ m, ms2 = [m] := (by
    have hl := congrArg List.length e1
    rw [List.length_map] at hl
    exact List.length_eq_one_iff.1 hl.symm)
  have hkd : m.kind = 4 := (by injection e1 with h _; exact (congrArg MsD.kind h).symm)
  obtain ⟨bm, om, rfl, hrm⟩ := hVm2.src2 (by rw [hVm2.len.1]; show 0 < 1 * 20; decide)
  refine ⟨_, _, rfl, hS2, ?_⟩
  refine WL.val (v_move rfl rfl) (.none rfl) rfl rfl ?_
  refine WL.val (v_extract rfl rfl rfl) (.none rfl) rfl rfl ?_
  refine WL.val (v_extract rfl rfl rfl) (.none rfl) rfl rfl ?_
  refine WL.alloc rfl zero_25 (.none rfl) rfl rfl ?_
  intro g7 hg7
  refine WL.val (v_assign rfl rfl) (.none rfl) rfl rfl ?_
  refine WL.storeW rfl rfl rfl rfl many_25 rfl rfl (.none rfl) rfl ?_
  refine WL.nil ?_
  refine WE.then_n ?_
  refine WC.seq ?_
  refine WC.region ?_
  refine WL.val (v_move rfl rfl) (.none rfl) rfl rfl ?_
  refine WL.val (v_len_slice rfl rfl Tryd.underlying75) (.none rfl) rfl rfl ?_
  refine WL.val ((v_eql rfl rfl rfl).t (rfl)) (.none rfl) rfl rfl ?_
  refine WL.val (v_move rfl rfl) (.none rfl) rfl rfl ?_
  refine WL.val (v_fieldAddr0 rfl rfl fld_25_0) (.some rfl rfl rfl) rfl rfl ?_
  refine WL.val (v_load1 rfl rfl one_3 (cellAt rfl)) (.some rfl rfl rfl) rfl rfl ?_
  refine WL.val ((v_eql rfl rfl rfl).t (rfl)) (.some rfl rfl rfl) rfl rfl ?_
  refine WL.val (v_pick_t rfl rfl rfl) (.none rfl) rfl rfl ?_
  refine WL.val (v_move rfl rfl) (.none rfl) rfl rfl ?_
  refine WL.val (v_move rfl rfl) (.some rfl rfl rfl) rfl rfl ?_
  refine WL.val (v_len_slice rfl rfl Tryd.underlying75) (.some rfl rfl rfl) rfl rfl ?_
  refine WL.val ((v_eql rfl rfl rfl).t (rfl)) (.some rfl rfl rfl) rfl rfl ?_
  refine WL.val (v_pick_t rfl rfl rfl) (.none rfl) rfl rfl ?_
  refine WL.val (v_move rfl rfl) (.none rfl) rfl rfl ?_
  refine WL.val (v_fieldAddr0 rfl rfl fld_25_0) (.some rfl rfl rfl) rfl rfl ?_
  refine WL.val (v_load1 rfl rfl one_3 (cellAt rfl)) (.some rfl rfl rfl) rfl rfl ?_
  refine WL.val ((v_eql rfl rfl rfl).t (rfl)) (.some rfl rfl rfl) rfl rfl ?_
  refine WL.val (v_pick_t rfl rfl rfl) (.none rfl) rfl rfl ?_
  refine WL.val (v_move rfl rfl) (.none rfl) rfl rfl ?_
  refine WL.val (v_move rfl rfl) (.some rfl rfl rfl) rfl rfl ?_
  refine WL.val ((v_indexAddr (b := bm) (off := om) (lo := 0) rfl rfl rfl Tryd.underlying75 sz_43 rfl (by show 0 < 1; omega))) (.some rfl rfl rfl) rfl rfl ?_
  refine WL.val (v_fieldAddr rfl rfl fld_43_0) (.some rfl rfl rfl) rfl rfl ?_
  refine WL.val (v_load1 rfl rfl one_3 (fun w hS => hrm w (fun e he => hS.holds e (.tail _ (.tail _ (List.mem_append_right _ (List.mem_append_left _ he))))) 0 (.int .i64 m.kind) rfl)) (.some rfl rfl rfl) rfl rfl ?_
  refine WL.val ((v_eql rfl rfl rfl).t (hkd)) (.some rfl rfl rfl) rfl rfl ?_
  refine WL.val (v_pick_t rfl rfl rfl) (.none rfl) rfl rfl ?_
  refine WL.val (v_move rfl rfl) (.none rfl) rfl rfl ?_
  refine WL.val (v_move rfl rfl) (.some rfl rfl rfl) rfl rfl ?_
  refine WL.call rfl rfl ck_27 (.some rfl rfl rfl) rfl rfl ?_
  intro w hS
  refine Calls.then (Count_c w g21 _ (hS.at0 (cs := RdL.cells ⟨wad2, wc2, [], 0 + (([m] : List MsL).length : Int), 0, 0, ⟨#[]⟩⟩) (.tail _ (.head _)))) hS ?_
  refine WL.val ((v_eql rfl rfl rfl).t (rfl)) (.some rfl rfl rfl) rfl rfl ?_
  refine WL.val (v_pick_t rfl rfl rfl) (.none rfl) rfl rfl ?_
  refine WL.val (v_move rfl rfl) (.none rfl) rfl rfl ?_
  refine WL.val (v_move rfl rfl) (.some rfl rfl rfl) rfl rfl ?_
  refine WL.call rfl rfl ck_28 (.some rfl rfl rfl) rfl rfl ?_
  intro w hS
  refine Calls.then (Waits_c w g21 _ (hS.at0 (cs := RdL.cells ⟨wad2, wc2, [], 0 + (([m] : List MsL).length : Int), 0, 0, ⟨#[]⟩⟩) (.tail _ (.head _)))) hS ?_
  refine WL.val ((v_eql rfl rfl rfl).t (rfl)) (.some rfl rfl rfl) rfl rfl ?_
  refine WL.val (v_pick_t rfl rfl rfl) (.none rfl) rfl rfl ?_
  refine WL.val (v_assign rfl rfl) (.none rfl) rfl rfl ?_
  refine WL.nil ?_
  refine WE.then_n ?_
  refine WC.ret ?_
  refine WE.ret1 (P := Tryd.prog) (.inl rfl) Tryd.results24 rfl ?_
  exact fun w' h => ⟨rfl, h.frm⟩
end Go.Proofs.YtpjbofodllhjbaaDoor
/- stream: slices of bytes that begin anywhere in their block, and grow; a Queue. -/
namespace Go.Proofs.YtpjbofodllhjbaaDoor
open Go.RowKit

/-- A slice of bytes of one's own, wherever it begins in its block. -/
def VecO (ad : Option Addr) (c : Nat) (xs : List Int) (E : List Ent) : Prop :=
  (ad = none ∧ c = 0 ∧ xs = [] ∧ E = []) ∨ ∃ g o cs, ad = some ⟨g, o, none⟩ ∧ E = [.row g cs] ∧ xs.length ≤ c ∧ o + c ≤ cs.length ∧ ∀ i v, (u8s xs)[i]? = some v → cs[o + i]? = some v
theorem VecO.nil : VecO none 0 [] [] := .inl ⟨rfl, rfl, rfl, rfl⟩
theorem VecO.of {ad : Option Addr} {c : Nat} {xs : List Int} {E : List Ent} (h : BV ad c xs E) : VecO ad c xs E := by
  rcases h with ⟨ha, hn, hc, _, hE⟩ | ⟨g, cs, ha, hE, hx, hl, hk⟩
  · exact .inl ⟨ha, hc, List.length_eq_zero_iff.1 hn, hE⟩
  · refine .inr ⟨g, 0, cs, ha, hE, hk, by omega, fun i v hi => ?_⟩
    rw [Nat.zero_add]
    rw [← hx, List.getElem?_take] at hi
    split at hi
    · exact hi
    · cases hi
theorem VecO.len {ad : Option Addr} {c : Nat} {xs : List Int} {E : List Ent} (h : VecO ad c xs E) : xs.length ≤ c := by
  rcases h with ⟨_, rfl, rfl, _⟩ | ⟨_, _, _, _, _, h, _⟩
  · exact Nat.le_refl _
  · exact h
theorem VecO.range {ad : Option Addr} {c : Nat} {xs : List Int} {E : List Ent} (h : VecO ad c xs E) {w : World} (hw : ∀ e ∈ E, e.holds w) : CellsAt w ad (u8s xs) := fun h0 => by
  rcases h with ⟨_, _, rfl, _⟩ | ⟨g, o, cs, rfl, rfl, _, _, hx⟩
  · exact absurd h0 (Nat.lt_irrefl 0)
  · refine ⟨g, o, rfl, fun j v hj => ?_⟩
    have hR : Row w g cs := hw (.row g cs) (List.mem_cons_self ..)
    exact hR.cell (hx j v hj)
theorem VecO.drop {g o c : Nat} {xs : List Int} {E : List Ent} (h : VecO (some ⟨g, o, none⟩) c xs E) (k : Nat) (hk : k ≤ xs.length) : VecO (some ⟨g, sAddr o k c 1, none⟩) (c - k) (xs.drop k) E := by
  rcases h with ⟨h, _⟩ | ⟨g', o', cs, e, rfl, hl, hb, hx⟩
  · cases h
  · cases e
    refine .inr ⟨g, sAddr o k c 1, cs, rfl, rfl, by rw [List.length_drop]; omega, by unfold sAddr; split <;> omega, fun i v hi => ?_⟩
    unfold sAddr
    split
    · rename_i hck
      rw [List.drop_eq_nil_of_le (by omega)] at hi
      simp [u8s] at hi
    · have := hx (k + i) v (by rw [← hi]; unfold u8s; rw [List.getElem?_map, List.getElem?_map, List.getElem?_drop])
      rw [Nat.mul_one, Nat.add_assoc]; exact this
theorem VecO.view {ad : Option Addr} {c : Nat} {xs : List Int} {E : List Ent} (h : VecO ad c xs E) (hb : Bys xs) : View E ad c xs := by
  refine ⟨h.len, hb, ?_⟩
  rcases h with ⟨h1, h2, h3, _⟩ | ⟨g, o, cs, rfl, rfl, hl, hc, hx⟩
  · exact .inl ⟨h1, h2, h3⟩
  · refine .inr ⟨g, o, rfl, fun w hw j v hj => ?_⟩
    have hR : Row w g cs := hw (.row g cs) (List.mem_cons_self ..)
    exact hR.cell (hx j v hj)
theorem VecO.ad {ad : Option Addr} {c : Nat} {xs : List Int} {E : List Ent} (h : VecO ad c xs E) : ad = none ∨ ∃ b o, ad = some ⟨b, o, none⟩ := by
  rcases h with ⟨h, _⟩ | ⟨g, o, _, h, _⟩
  · exact .inl h
  · exact .inr ⟨g, o, h⟩
theorem View.take {E : List Ent} {aa : Option Addr} {c : Nat} {ys : List Int} (h : View E aa c ys) (k : Nat) : View E aa c (ys.take k) := by
  refine ⟨by rw [List.length_take]; have := h.le; omega, fun x hx => h.bys x (List.mem_of_mem_take hx), ?_⟩
  rcases h.at_ with ⟨h1, h2, h3⟩ | ⟨b, o, rfl, hr⟩
  · exact .inl ⟨h1, h2, by rw [h3]; simp⟩
  · exact .inr ⟨b, o, rfl, fun w hw => ((h.win hw).take k).at_⟩
section
variable {P : Program} {ops : Array Oper} {Q : Exit → Act → World → Prop} {n : Nat} {p : Nat → Prop} {w0 : World} {o : Oper} {rest : List Oper} {l : Kn} {E L0 : List Ent}
def loAd (ad : Option Addr) (lo cap : Nat) : Option Addr := ad.map fun a => ⟨a.block, sAddr a.off lo cap 1, a.spot⟩
/-- x[lo:] of a slice of bytes, nil or not. -/
theorem v_slice_loA {C : World → Prop} {t e len cap lo : Nat} {k : IntKind} {A : Int} {ad : Option Addr} {x xl : Operand} (ho : o.op = .slice t x (some xl) none none) (hx : ev l x = some (.slice ad len cap)) (hl : ev l xl = some (.int k A)) (hu : P.underlying t = some (.slice e)) (hs : (P.info? e).map (·.size) = some 1) (hA : A = (lo : Int)) (hle : lo ≤ len)
    (had : ad = none ∨ ∃ b o, ad = some ⟨b, o, none⟩) : Val P C n l o (.slice (loAd ad lo cap) (len - lo) (cap - lo)) := by
  rcases had with rfl | ⟨b, off, rfl⟩
  · intro a w ha _
    have h1 := ha.ev hx; have h2 := ha.ev hl
    subst hA
    have hi : (0 : Int) ≤ lo ∧ (lo : Int) ≤ len := by omega
    unfold execOp
    simp [ho, h1, h2, Instr.sliceAt, run_underlying hu, Instr.slice, Instr.sliceBounds, Instr.sliceBound, asIntOf, hle, run_sizeOf hs, loAd]
  · exact v_slice_lo ho hx hl hu hs hA hle
end
theorem VecO.dropA {ad : Option Addr} {c : Nat} {xs : List Int} {E : List Ent} (h : VecO ad c xs E) (k : Nat) (hk : k ≤ xs.length) : VecO (loAd ad k c) (c - k) (xs.drop k) E := by
  rcases h with ⟨rfl, rfl, rfl, rfl⟩ | ⟨g, o, cs, rfl, h2, h3⟩
  · simp only [List.drop_nil, Nat.zero_sub]; exact VecO.nil
  · exact (show VecO (some ⟨g, o, none⟩) c xs E from .inr ⟨g, o, cs, rfl, h2, h3⟩).drop k hk
/-- A Queue. -/
structure QuL where
  ad : Option Addr
  cap : Nat
  wait : List Int
  most : Int
def QuL.cells (q : QuL) : List Value := [.slice q.ad q.wait.length q.cap, .int .i64 q.most]
end Go.Proofs.YtpjbofodllhjbaaDoor
/- stream: StreamQueues. -/
namespace Go.Proofs.YtpjbofodllhjbaaDoor
open Go.RowKit

structure OpL where
  k : Int
  ad : Option Addr
  cap : Nat
  val : List Int
  n : Int
def OpL.cells (o : OpL) : List Value := [.int .i64 o.k, .slice o.ad o.val.length o.cap, .int .i64 o.n]
theorem CellsAt.rdo {w : World} {a : Option Addr} {xs : List Int} (h : CellsAt w a (u8s xs)) : RdO w a xs.length (fOf xs) := fun h0 => by
  obtain ⟨b, o, e, hr⟩ := h (by rw [u8s_len]; exact h0)
  exact ⟨b, o, e, rd_u8s hr⟩
theorem View.rdo {E : List Ent} {aa : Option Addr} {c : Nat} {ys : List Int} (h : View E aa c ys) {w : World} (hw : ∀ e ∈ E, e.holds w) : RdO w aa ys.length (fOf ys) := fun h0 => by
  obtain ⟨b, o, rfl⟩ := h.some h0
  exact ⟨b, o, rfl, rd_u8s (h.win hw).at_⟩
structure QS where
  ws : List Int
  qa : Option Addr
  qc : Nat
  Eq : List Ent
  aa : Option Addr
  ac : Nat
  Ea : List Ent
/-- How the queue and the list stand to each other. -/
structure QI (y : QS) (most : Int) (k : Nat) : Prop where
  q : VecO y.qa y.qc y.ws y.Eq
  a : VecO y.aa y.ac y.ws y.Ea
  bys : Bys y.ws
  len : y.ws.length ≤ 300 * k
  fit : (y.ws.length : Int) ≤ most
theorem QI.mono {y : QS} {most : Int} {k k' : Nat} (h : QI y most k) (hk : k ≤ k') : QI y most k' := ⟨h.q, h.a, h.bys, by have := h.len; omega, h.fit⟩
theorem St.mid {p : Nat → Prop} {w0 w : World} {A R L : List Ent} {x : Ent} (h : St p w0 w (A ++ (R ++ (x :: L)))) : St p w0 w (R ++ (x :: (A ++ L))) := by
  have := St.front (R := R ++ [x]) (L := L) A (by simpa only [List.cons_append, List.append_assoc, List.nil_append] using h)
  simpa only [List.cons_append, List.append_assoc, List.nil_append] using this
end Go.Proofs.YtpjbofodllhjbaaDoor
/- stream: StreamSends. -/
namespace Go.Proofs.YtpjbofodllhjbaaDoor
open Go.RowKit

end Go.Proofs.YtpjbofodllhjbaaDoor
/- stream: StreamWrites. -/
namespace Go.Proofs.YtpjbofodllhjbaaDoor
open Go.RowKit

theorem AtAll.at_ {K : List Ent} {a : AtL} (h : AtAll K a) {w : World} (hw : ∀ e ∈ K, e.holds w) : a.At w := by
  obtain ⟨⟨⟨E1, v1, m1⟩, h2, ⟨E3, v3, m3⟩⟩, ⟨E4, v4, m4⟩, h5⟩ := h
  refine ⟨cells_of (enc := SegL.cells) v1 (fun _ => rfl) (by omega) fun e he => hw e (m1 e he), fun s hs => ?_, ?_, cells_of (enc := OthL.cells) v4 (fun _ => rfl) (by omega) fun e he => hw e (m4 e he), fun o ho => ?_⟩
  · obtain ⟨E, v, m⟩ := h2 s hs
    intro h0
    obtain ⟨b, o, e, hr⟩ := v.src2 h0
    exact ⟨b, o, e, hr w fun e he => hw e (m e he)⟩
  · intro h0
    obtain ⟨b, o, e, hr⟩ := v3.src2 h0
    exact ⟨b, o, e, hr w fun e he => hw e (m3 e he)⟩
  · obtain ⟨E, v, m⟩ := h5 o ho
    intro h0
    obtain ⟨b, o, e, hr⟩ := v.src2 h0
    exact ⟨b, o, e, hr w fun e he => hw e (m e he)⟩
theorem MsAll.at {K : List Ent} {m : MsL} (h : MsAll K m) {w : World} (hw : ∀ e ∈ K, e.holds w) : m.At w := by
  obtain ⟨⟨E1, v1, m1⟩, h2, ⟨E3, v3, m3⟩, ⟨E4, v4, m4⟩, h5⟩ := h
  refine ⟨cells_of (enc := CapL.cells) v1 (fun _ => rfl) (by omega) fun e he => hw e (m1 e he), fun s hs => ?_, cells_of (enc := PfL.cells) v3 (fun _ => rfl) (by omega) fun e he => hw e (m3 e he), cells_of (enc := PfL.cells) v4 (fun _ => rfl) (by omega) fun e he => hw e (m4 e he), h5.at_ hw⟩
  obtain ⟨E, v, m⟩ := h2 s hs
  intro h0
  obtain ⟨b, o, e, hr⟩ := v.src2 h0
  exact ⟨b, o, e, hr w fun e he => hw e (m e he)⟩
end Go.Proofs.YtpjbofodllhjbaaDoor
/- The engine: a region that draws its order: what reads only what nobody in the region writes is taken first, although calls come between (the kit's held orders). -/
namespace Go.Proofs.YtpjbofodllhjbaaDoor
open Go.RowKit

section
variable {P : Program} {ops : Array Oper} {Q : Exit → Act → World → Prop} {n : Nat} {p : Nat → Prop} {w0 : World} {o : Oper} {rest os : List Oper} {l : Kn} {L L0 : List Ent} {K : Act → World → Prop}
/-- What is left of the region, as what follows. -/
def RestH (P : Program) (os : List Oper) (Q : Exit → Act → World → Prop) (p : Nat → Prop) (w0 : World) (L0 : List Ent) (g : Nat) (listed : Array Bool) : Act → World → Prop := fun a w => wpAnyH P .any os.toArray (NP Q) (fun w => St p w0 w L0) g listed a w
/-- What is left of a region, of which these are done; the blocks L0 stay as they are. -/
def WRH (P : Program) (os : List Oper) (Q : Exit → Act → World → Prop) (n : Nat) (p : Nat → Prop) (w0 : World) (L0 : List Ent) (g : Nat) (listed : Array Bool) (l : Kn) (L : List Ent) : Prop :=
  ∀ a w, Has n a l → St p w0 w L → RestH P os Q p w0 L0 g listed a w
theorem WC.held {id : Nat} (L0 : List Ent) (hm : P.follows .mixedOrders = true) (h : WRH P os Q n p w0 L0 os.length (Array.replicate os.length false) l L) : WC P (.region id os.toArray true) Q n p w0 l L := fun a w ha hS =>
  Code.wp_mono NP.imp (wp_region_held (S := fun w => St p w0 w L0) hm (by have h1 := h a w.drew ha hS.drew; unfold RestH at h1; simpa using h1))
def wpHeld (P : Program) (ops : Array Oper) (S : World → Prop) (K : Act → Prop) : List Oper → Act → Prop
  | [], a => K a
  | o :: rest, a => ∃ v, YieldsIf P ops S o v a ∧ wpHeld P ops S K rest (a.put o.dst v)
def WH (P : Program) (ops : Array Oper) (K : Act → World → Prop) (n : Nat) (p : Nat → Prop) (w0 : World) (L0 : List Ent) (rest : List Oper) (l : Kn) (L : List Ent) : Prop :=
  ∀ a, Has n a l → wpHeld P ops (fun w => St p w0 w L0) (fun a' => ∀ w, St p w0 w L → K a' w) rest a
theorem anyH_of_held {K : Act → Prop} {S : World → Prop} {w : World} {g : Nat} (hsel : Region.noSelect os.toArray = true) (hw : S w) : ∀ (js : List Nat) (listed : Array Bool) (a : Act), takesB .any os.toArray js listed = true →
    wpHeld P os.toArray S K (js.map (at_ os)) a → (∀ a, K a → wpAnyH P .any os.toArray (NP Q) S g (marks listed js) a w) → wpAnyH P .any os.toArray (NP Q) S (js.length + g) listed a w
  | [], listed, a, _, h, hK => by simpa [marks] using hK a h
  | i :: is, listed, a, hB, h, hK => by
    simp only [takesB, Bool.and_eq_true] at hB
    obtain ⟨⟨hr, hf⟩, hB'⟩ := hB
    obtain ⟨v, hy, h'⟩ := h
    have hr' : i ∈ Region.ready .any os.toArray listed := by simpa using hr
    rw [List.length_cons, show is.length + 1 + g = (is.length + g) + 1 by omega]
    exact wpAnyH_take (at_some hr') hsel hf hr (fun c a w hh => hh) hy hw (anyH_of_held hsel hw is _ _ hB' h' hK)
theorem WRH.first {listed : Array Bool} {g : Nat} (js : List Nat) (hsel : Region.noSelect os.toArray = true) (hB : takesB .any os.toArray js listed = true) (keep : ∀ w, St p w0 w L → St p w0 w L0)
    (h : WH P os.toArray (RestH P os Q p w0 L0 g (marks listed js)) n p w0 L0 (js.map (at_ os)) l L) : WRH P os Q n p w0 L0 (js.length + g) listed l L := fun a w ha hS =>
  anyH_of_held (K := fun a' => ∀ w, St p w0 w L → RestH P os Q p w0 L0 g (marks listed js) a' w) hsel (keep w hS) js listed a hB (h a ha) (fun _ h => h w hS)
theorem WRH.each {g : Nat} {listed : Array Bool} (rs : List Nat) (hr : Region.ready .any os.toArray listed = rs) (hne : rs ≠ [])
    (h : AllOf (fun i => WL P os.toArray (RQ (fun a' w' => St p w0 w' L0 ∧ RestH P os Q p w0 L0 g (listed.setIfInBounds i true) a' w') (NP Q)) n p w0 [at_ os i] l L) rs) : WRH P os Q n p w0 L0 (g + 1) listed l L := fun a w ha hS => by
  refine wpAnyH_all hr hne fun i hi => ?_
  have ho := at_some (listed := listed) (i := i) (by rw [hr]; exact hi)
  have h' : wpList P os.toArray (RQ (fun a' w' => St p w0 w' L0 ∧ RestH P os Q p w0 L0 g (listed.setIfInBounds i true) a' w') (NP Q)) [at_ os i] a w := h.get i hi a w ha hS
  unfold wpOp
  simp only [ho]
  unfold wpList at h'
  split
  · rename_i hwd
    rw [if_pos hwd] at h'
    exact (h'.imp wpRQ (fun h => ⟨h.1, RQ.out h.2⟩)).imp (Oper.wp_mono fun a' w' h => h) id
  · rename_i hwd
    rw [if_neg hwd] at h'
    exact h'
theorem WRH.one {g : Nat} {listed : Array Bool} (i : Nat) (hr : Region.ready .any os.toArray listed = [i])
    (h : WL P os.toArray (RQ (fun a' w' => St p w0 w' L0 ∧ RestH P os Q p w0 L0 g (listed.setIfInBounds i true) a' w') (NP Q)) n p w0 [at_ os i] l L) : WRH P os Q n p w0 L0 (g + 1) listed l L :=
  WRH.each [i] hr (by simp) h
theorem WRH.done {listed : Array Bool} (hB : Region.ready .any os.toArray listed = []) (h : WE Q .normal n p w0 l L) : WRH P os Q n p w0 L0 0 listed l L := fun a w ha hS => ⟨hB, h a w ha hS⟩
theorem WH.nil {listed : Array Bool} {g : Nat} (h : WRH P os Q n p w0 L0 g listed l L) : WH P os.toArray (RestH P os Q p w0 L0 g listed) n p w0 L0 [] l L := fun a ha w hS => h a w ha hS
theorem WL.nilH {listed : Array Bool} {g : Nat} (keep : ∀ w, St p w0 w L → St p w0 w L0) (h : WRH P os Q n p w0 L0 g listed l L) : WL P os.toArray (RQ (fun a' w' => St p w0 w' L0 ∧ RestH P os Q p w0 L0 g listed a' w') (NP Q)) n p w0 [] l L := fun a w ha hS => ⟨keep w hS, h a w ha hS⟩
theorem WH.val {d : Nat} {v : Value} (hv : Val P (fun w => St p w0 w L0) n l o v) (hg : On ops o l) (hd : o.dst = some d) (hn : Nat.blt d n = true)
    (h : WH P ops K n p w0 L0 rest ((d, v) :: l) L) : WH P ops K n p w0 L0 (o :: rest) l L := fun a ha =>
  ⟨v, .inl ⟨hg.ok ha, fun w hw => hv a w ha hw⟩, h _ (ha.put_any hd hn v)⟩
theorem WH.skip {j dj d : Nat} {b : Bool} {v : Value} (hg : o.guard = some (j, b)) (hj : (ops[j]?).bind (·.dst) = some dj) (hl : look l dj = some v) (hv : isB v b = false) (hd : o.dst = some d) (hn : Nat.blt d n = true)
    (h : WH P ops K n p w0 L0 rest ((d, undef) :: l) L) : WH P ops K n p w0 L0 (o :: rest) l L := fun a ha =>
  ⟨undef, .inr ⟨by rw [wanted_not hg hj ha hl hv], rfl⟩, h _ (ha.put_any hd hn _)⟩
theorem WH.test {q : Prop} [Decidable q] {d : Nat} (hv : Val P (fun w => St p w0 w L0) n l o (.bool (decide q))) (hg : On ops o l) (hd : o.dst = some d) (hn : Nat.blt d n = true)
    (ht : q → WH P ops K n p w0 L0 rest ((d, .bool true) :: l) L) (hf : ¬ q → WH P ops K n p w0 L0 rest ((d, .bool false) :: l) L) : WH P ops K n p w0 L0 (o :: rest) l L := by
  by_cases hq : q
  · exact WH.val hv hg hd hn (by rw [decide_eq_true hq]; exact ht hq)
  · exact WH.val hv hg hd hn (by rw [decide_eq_false hq]; exact hf hq)
end
end Go.Proofs.YtpjbofodllhjbaaDoor
/- carrefourlaw07.Plain: a message as the reference has it. -/
namespace Go.Proofs.YtpjbofodllhjbaaDoor
open Go.RowKit

/-- Attributes, a message, as the reference has them. -/
def AtL.rcells (a : AtL) : List Value := [.int .i64 a.has, .int .i64 a.origin, .slice a.pad a.path.length a.pc, .int .i64 a.hop, .int .i64 a.med, .int .i64 a.loc, .int .i64 a.aas, .int .i64 a.aid, .slice a.cad a.comms.length a.cc, .slice a.oad a.others.length a.oc]
def MsL.rcells (m : MsL) : List Value := [.int .i64 m.kind, .int .i64 m.asn, .int .i64 m.hold, .int .u32 m.id, .slice m.kad m.caps.length m.kc, .slice m.gad m.gone.length m.gc, .int .i64 m.atr.has, .int .i64 m.atr.origin, .slice m.atr.pad m.atr.path.length m.atr.pc, .int .i64 m.atr.hop, .int .i64 m.atr.med, .int .i64 m.atr.loc, .int .i64 m.atr.aas, .int .i64 m.atr.aid, .slice m.atr.cad m.atr.comms.length m.atr.cc, .slice m.atr.oad m.atr.others.length m.atr.oc, .slice m.nad m.nets.length m.nc, .int .i64 m.fc, .int .i64 m.fs, .string m.fd]
end Go.Proofs.YtpjbofodllhjbaaDoor
/- The reference's small functions: num, in, hop. -/
namespace Go.Proofs.YtpjbofodllhjbaaDoor
open Go.RowKit

set_option maxHeartbeats 1000000 in
theorem RNum_c (w : World) (b o c : Nat) (ys : List Int) (hW : Win w b o c ys) (hn : ys.length ≤ 6) :
    Calls Tryd.prog 65 #[.slice (some ⟨b, o, none⟩) ys.length c] w fun e w' => e = .returned (.int .i64 (readI ys)) ∧ Frm (fun _ => False) w w' := by
  refine enter Tryd.func65 rfl Tryd.ntmps65 rfl (St.start (fun _ => False) w) ?_
  refine WC.seq ?_
  refine WC.region ?_
  refine WL.val (v_assign rfl rfl) (.none rfl) rfl rfl ?_
  refine WL.nil ?_
  refine WE.then_n ?_
  refine WC.seq ?_
  refine WC.region ?_
  refine WL.val (v_assign rfl rfl) (.none rfl) rfl rfl ?_
  refine WL.nil ?_
  refine WE.then_n ?_
  refine WC.seq ?_
  refine WC.seq ?_
  refine WC.region ?_
  refine WL.val (v_move rfl rfl) (.none rfl) rfl rfl ?_
  refine WL.val (v_len_slice rfl rfl Tryd.underlying22) (.none rfl) rfl rfl ?_
  refine WL.val (v_move rfl rfl) (.none rfl) rfl rfl ?_
  refine WL.nil ?_
  refine WE.then_n ?_
  refine WC.block ?_
  refine WC.loop (fun k : Nat => [(8, .int .i64 k), (7, .int .i64 ys.length), (6, .slice (some ⟨b, o, none⟩) ys.length c), (3, .int .i64 (readI (ys.take k)))]) (fun _ => []) (fun k => k ≤ ys.length) (fun k => ys.length - k) 0 (Nat.zero_le _) (.cons rfl (.cons rfl (.cons rfl (.cons rfl .nil)))) (.refl _) ?_
  intro k hk
  refine WC.seq ?_
  refine WC.region ?_
  refine WL.test (v_lss rfl rfl rfl) (.none rfl) rfl rfl (fun h9 => ?_) (fun h9 => ?_)
  ·
   refine WL.nil ?_
   refine WE.then_n ?_
   refine WC.seq ?_
   refine WC.cond_t rfl ?_
   refine WC.skip ?_
   refine WE.then_n ?_
   refine WC.seq ?_
   refine WC.block ?_
   refine WC.seq ?_
   refine WC.region ?_
   obtain ⟨x, hx⟩ : ∃ x, ys[k]? = some x := ⟨ys[k]'(by omega), List.getElem?_eq_getElem _⟩
   have hxb := hW.bys x (List.mem_of_getElem? hx)
   have htl : (ys.take k).length = k := (by rw [List.length_take]; exact Nat.min_eq_left (by omega))
   have hrb := readI_b k (ys.take k) htl (fun x hx => hW.bys x (List.mem_of_mem_take hx))
   have hp : (256 : Int) ^ k ≤ 256 ^ 5 := (by
     have : k = 0 ∨ k = 1 ∨ k = 2 ∨ k = 3 ∨ k = 4 ∨ k = 5 := by omega
     rcases this with rfl | rfl | rfl | rfl | rfl | rfl <;> decide)
   have hp5 : (256 : Int) ^ 5 = 1099511627776 := (by decide)
   refine WL.val (v_indexAddr (lo := k) rfl rfl rfl Tryd.underlying22 sz_5 (by omega) (by omega)) (.none rfl) rfl rfl ?_
   refine WL.val (v_load1 rfl rfl one_5 (cellOld (fun h => h) (hW.get hx))) (.none rfl) rfl rfl ?_
   refine WL.val (v_assign rfl rfl) (.none rfl) rfl rfl ?_
   refine WL.nil ?_
   refine WE.then_n ?_
   refine WC.region ?_
   refine WL.val (v_move rfl rfl) (.none rfl) rfl rfl ?_
   refine WL.val (v_mul rfl rfl rfl (w_i64 (by omega) (by omega))) (.none rfl) rfl rfl ?_
   refine WL.val (v_move rfl rfl) (.none rfl) rfl rfl ?_
   refine WL.val (v_conv rfl rfl Tryd.underlying3 Tryd.underlying5 (w_i64 (by omega) (by omega))) (.none rfl) rfl rfl ?_
   refine WL.val (v_add rfl rfl rfl (show _ = readI (ys.take (k + 1)) from (w_i64 (by omega) (by omega)).trans (by rw [take_succ_get hx, readI_snoc]))) (.none rfl) rfl rfl ?_
   refine WL.val (v_assign rfl rfl) (.none rfl) rfl rfl ?_
   refine WL.nil ?_
   refine WE.block_n ?_
   refine WE.then_n ?_
   refine WC.region ?_
   refine WL.val (v_add rfl rfl rfl (w_i64 (by omega) (by omega))) (.none rfl) rfl rfl ?_
   refine WL.val (v_move rfl rfl) (.none rfl) rfl rfl ?_
   refine WL.nil ?_
   exact WE.next (k + 1) (by omega) (by omega) (.int rfl (by omega) (.cons rfl (.cons rfl (.cons rfl .nil)))) (.refl _)
  ·
   refine WL.nil ?_
   refine WE.then_n ?_
   refine WC.seq ?_
   refine WC.cond_f rfl ?_
   refine WC.exit ?_
   refine WE.then_exit ?_
   refine WE.then_exit ?_
   refine WE.block_hit ?_
   refine WE.then_n ?_
   refine WC.seq ?_
   refine WC.region ?_
   refine WL.val (v_move rfl rfl) (.none rfl) rfl rfl ?_
   refine WL.val (v_assign rfl rfl) (.none rfl) rfl rfl ?_
   refine WL.nil ?_
   refine WE.then_n ?_
   refine WC.ret ?_
   refine WE.ret1 (P := Tryd.prog) (.inl rfl) Tryd.results65 rfl ?_
   obtain rfl : k = ys.length := (by omega)
   exact fun w' h => ⟨by rw [List.take_length], h.frm⟩
theorem RIn_c (w : World) (n lo hi : Int) : Calls Tryd.prog 66 #[.int .i64 n, .int .i64 lo, .int .i64 hi] w fun e w' => e = .returned (.bool (decide (lo ≤ n ∧ n ≤ hi))) ∧ Frm (fun _ => False) w w' := by
  refine enter Tryd.func66 rfl Tryd.ntmps66 rfl (St.start (fun _ => False) w) ?_
  refine WC.seq ?_
  refine WC.region ?_
  refine WL.val (v_assign rfl rfl) (.none rfl) rfl rfl ?_
  refine WL.nil ?_
  refine WE.then_n ?_
  refine WC.seq ?_
  refine WC.region ?_
  refine WL.val (v_move rfl rfl) (.none rfl) rfl rfl ?_
  refine WL.val (v_move rfl rfl) (.none rfl) rfl rfl ?_
  refine WL.test (v_geq rfl rfl rfl) (.none rfl) rfl rfl (fun h9 => ?_) (fun h9 => ?_)
  ·
   refine WL.val (v_move rfl rfl) (.none rfl) rfl rfl ?_
   refine WL.val (v_move rfl rfl) (.some rfl rfl rfl) rfl rfl ?_
   refine WL.val (v_move rfl rfl) (.some rfl rfl rfl) rfl rfl ?_
   refine WL.test (v_leq rfl rfl rfl) (.some rfl rfl rfl) rfl rfl (fun h13 => ?_) (fun h13 => ?_)
   ·
    refine WL.val (v_pick_t rfl rfl rfl) (.none rfl) rfl rfl ?_
    refine WL.val (v_assign rfl rfl) (.none rfl) rfl rfl ?_
    refine WL.nil ?_
    refine WE.then_n ?_
    refine WC.ret ?_
    refine WE.ret1 (P := Tryd.prog) (.inl rfl) Tryd.results66 rfl ?_
    exact fun w' h => ⟨by rw [decide_eq_true (by omega)], h.frm⟩
   ·
    refine WL.val (v_pick_t rfl rfl rfl) (.none rfl) rfl rfl ?_
    refine WL.val (v_assign rfl rfl) (.none rfl) rfl rfl ?_
    refine WL.nil ?_
    refine WE.then_n ?_
    refine WC.ret ?_
    refine WE.ret1 (P := Tryd.prog) (.inl rfl) Tryd.results66 rfl ?_
    exact fun w' h => ⟨by rw [decide_eq_false (by omega)], h.frm⟩
  ·
   refine WL.val (v_move rfl rfl) (.none rfl) rfl rfl ?_
   refine WL.skip rfl rfl rfl rfl rfl rfl ?_
   refine WL.skip rfl rfl rfl rfl rfl rfl ?_
   refine WL.skip rfl rfl rfl rfl rfl rfl ?_
   refine WL.val (v_pick_f rfl rfl rfl) (.none rfl) rfl rfl ?_
   refine WL.val (v_assign rfl rfl) (.none rfl) rfl rfl ?_
   refine WL.nil ?_
   refine WE.then_n ?_
   refine WC.ret ?_
   refine WE.ret1 (P := Tryd.prog) (.inl rfl) Tryd.results66 rfl ?_
   exact fun w' h => ⟨by rw [decide_eq_false (by omega)], h.frm⟩
theorem RHop_c (w : World) (a : Int) (ha : 0 ≤ a) (ha2 : a ≤ 4294967295) : Calls Tryd.prog 68 #[.int .i64 a] w fun e w' => e = .returned (.bool (hopB a)) ∧ Frm (fun _ => False) w w' := by
  refine enter Tryd.func68 rfl Tryd.ntmps68 rfl (St.start (fun _ => False) w) ?_
  refine WC.seq ?_
  refine WC.region ?_
  refine WL.val (v_assign rfl rfl) (.none rfl) rfl rfl ?_
  refine WL.nil ?_
  refine WE.then_n ?_
  refine WC.seq ?_
  refine WC.region ?_
  refine WL.val (v_move rfl rfl) (.none rfl) rfl rfl ?_
  refine WL.val (v_quoT rfl rfl rfl (by decide) (show _ = a / 16777216 from by rw [Int.tdiv_eq_ediv_of_nonneg ha]; exact w_i64 (by omega) (by omega))) (.none rfl) rfl rfl ?_
  refine WL.val (v_assign rfl rfl) (.none rfl) rfl rfl ?_
  refine WL.nil ?_
  refine WE.then_n ?_
  refine WC.seq ?_
  refine WC.region ?_
  refine WL.val (v_move rfl rfl) (.none rfl) rfl rfl ?_
  refine WL.test (v_neq rfl rfl rfl) (.none rfl) rfl rfl (fun h7 => ?_) (fun h7 => ?_)
  ·
   refine WL.val (v_move rfl rfl) (.none rfl) rfl rfl ?_
   refine WL.val (v_move rfl rfl) (.some rfl rfl rfl) rfl rfl ?_
   refine WL.test (v_neq rfl rfl rfl) (.some rfl rfl rfl) rfl rfl (fun h10 => ?_) (fun h10 => ?_)
   ·
    refine WL.val (v_pick_t rfl rfl rfl) (.none rfl) rfl rfl ?_
    refine WL.val (v_move rfl rfl) (.none rfl) rfl rfl ?_
    refine WL.val (v_move rfl rfl) (.some rfl rfl rfl) rfl rfl ?_
    refine WL.test (v_lss rfl rfl rfl) (.some rfl rfl rfl) rfl rfl (fun h14 => ?_) (fun h14 => ?_)
    ·
     refine WL.val (v_pick_t rfl rfl rfl) (.none rfl) rfl rfl ?_
     refine WL.val (v_assign rfl rfl) (.none rfl) rfl rfl ?_
     refine WL.nil ?_
     refine WE.then_n ?_
     refine WC.ret ?_
     refine WE.ret1 (P := Tryd.prog) (.inl rfl) Tryd.results68 rfl ?_
     exact fun w' h => ⟨by unfold hopB; rw [decide_eq_true (by omega)], h.frm⟩
    ·
     refine WL.val (v_pick_t rfl rfl rfl) (.none rfl) rfl rfl ?_
     refine WL.val (v_assign rfl rfl) (.none rfl) rfl rfl ?_
     refine WL.nil ?_
     refine WE.then_n ?_
     refine WC.ret ?_
     refine WE.ret1 (P := Tryd.prog) (.inl rfl) Tryd.results68 rfl ?_
     exact fun w' h => ⟨by unfold hopB; rw [decide_eq_false (by omega)], h.frm⟩
   ·
    refine WL.val (v_pick_t rfl rfl rfl) (.none rfl) rfl rfl ?_
    refine WL.val (v_move rfl rfl) (.none rfl) rfl rfl ?_
    refine WL.skip rfl rfl rfl rfl rfl rfl ?_
    refine WL.skip rfl rfl rfl rfl rfl rfl ?_
    refine WL.val (v_pick_f rfl rfl rfl) (.none rfl) rfl rfl ?_
    refine WL.val (v_assign rfl rfl) (.none rfl) rfl rfl ?_
    refine WL.nil ?_
    refine WE.then_n ?_
    refine WC.ret ?_
    refine WE.ret1 (P := Tryd.prog) (.inl rfl) Tryd.results68 rfl ?_
    exact fun w' h => ⟨by unfold hopB; rw [decide_eq_false (by omega)], h.frm⟩
  ·
   refine WL.val (v_move rfl rfl) (.none rfl) rfl rfl ?_
   refine WL.skip rfl rfl rfl rfl rfl rfl ?_
   refine WL.skip rfl rfl rfl rfl rfl rfl ?_
   refine WL.val (v_pick_f rfl rfl rfl) (.none rfl) rfl rfl ?_
   refine WL.val (v_move rfl rfl) (.none rfl) rfl rfl ?_
   refine WL.skip rfl rfl rfl rfl rfl rfl ?_
   refine WL.skip rfl rfl rfl rfl rfl rfl ?_
   refine WL.val (v_pick_f rfl rfl rfl) (.none rfl) rfl rfl ?_
   refine WL.val (v_assign rfl rfl) (.none rfl) rfl rfl ?_
   refine WL.nil ?_
   refine WE.then_n ?_
   refine WC.ret ?_
   refine WE.ret1 (P := Tryd.prog) (.inl rfl) Tryd.results68 rfl ?_
   exact fun w' h => ⟨by unfold hopB; rw [decide_eq_false (by omega)], h.frm⟩
end Go.Proofs.YtpjbofodllhjbaaDoor
/- bgp: BgpForm walked: bytes that are no message. -/
namespace Go.Proofs.YtpjbofodllhjbaaDoor
open Go.RowKit

section
variable {P : Program} {ops : Array Oper} {Q : Exit → Act → World → Prop} {n : Nat} {p : Nat → Prop} {w0 : World} {o : Oper} {rest : List Oper} {l : Kn} {L : List Ent} {t kt et : Nat} {x xi : Operand} {K : Value → Prop} {A : Value} {es : Array MapEntry} {m : Value → Option Value}
end
end Go.Proofs.YtpjbofodllhjbaaDoor
/- carrefourlaw07.attrs. -/
namespace Go.Proofs.YtpjbofodllhjbaaDoor
open Go.RowKit

def AtL.r0 (a : AtL) (ad : Option Addr) (c : Nat) (ss : List SegL) (bd : Option Addr) (bc : Nat) (os : List OthL) : AtL := { a with pad := ad, pc := c, path := ss, oad := bd, oc := bc, others := os }
/-- The reference's routes while they are made. -/
def AtL.rc (a : AtL) (ad : Option Addr) (c n : Nat) (bd : Option Addr) (bc m : Nat) : List Value := [.int .i64 a.has, .int .i64 a.origin, .slice ad n c, .int .i64 a.hop, .int .i64 a.med, .int .i64 a.loc, .int .i64 a.aas, .int .i64 a.aid, .slice a.cad a.comms.length a.cc, .slice bd m bc]
end Go.Proofs.YtpjbofodllhjbaaDoor
/- carrefourlaw07.Plain: walked. -/
namespace Go.Proofs.YtpjbofodllhjbaaDoor
open Go.RowKit

theorem St.permC {p : Nat → Prop} {w0 w : World} {L L' : List Ent} (hS : St p w0 w L) (h : ∀ c : Ent → List Ent → Nat, (∀ e a b l, c e (a :: b :: l) = c e (b :: l) + c e [a]) → (∀ e a l r, c e (a :: (l ++ r)) = c e (l ++ r) + c e [a]) → (∀ e l r, c e (l ++ r) = c e l + c e r) → ∀ e, c e L = c e L') : St p w0 w L' := hS.perm (by
  classical
  refine List.perm_iff_count.2 fun e => (h (fun e l => l.count e) ?_ ?_ ?_ e).symm
  · intro e a b l
    rw [List.count_cons, List.count_singleton]
  · intro e a l r
    rw [List.count_cons, List.count_singleton]
  · intro e l r
    exact List.count_append)
/-- The reference's message while it is made. -/
def MsL.rc (m : MsL) (kad : Option Addr) (kc kn : Nat) (gad : Option Addr) (gc : Nat) (pad : Option Addr) (pc : Nat) (oad : Option Addr) (oc : Nat) (nad : Option Addr) (nc : Nat) : List Value := [.int .i64 m.kind, .int .i64 m.asn, .int .i64 m.hold, .int .u32 m.id, .slice kad kn kc, .slice gad m.gone.length gc, .int .i64 m.atr.has, .int .i64 m.atr.origin, .slice pad m.atr.path.length pc, .int .i64 m.atr.hop, .int .i64 m.atr.med, .int .i64 m.atr.loc, .int .i64 m.atr.aas, .int .i64 m.atr.aid, .slice m.atr.cad m.atr.comms.length m.atr.cc, .slice oad m.atr.others.length oc, .slice nad m.nets.length nc, .int .i64 m.fc, .int .i64 m.fs, .string m.fd]
structure PlS where
  g3 : Nat
  gad : Option Addr
  gc : Nat
  EG : List Ent
  pad : Option Addr
  pc : Nat
  EP : List Ent
  oad : Option Addr
  oc : Nat
  EO : List Ent
  nad : Option Addr
  nc : Nat
  EN : List Ent
structure PlS.Good (x : PlS) (m : MsL) : Prop where
  gone : Vec 2 x.gad m.gone.length x.gc (pfsL m.gone) x.EG
  path : Vec 2 x.pad m.atr.path.length x.pc (segsL m.atr.path) x.EP
  oths : Vec 2 x.oad m.atr.others.length x.oc (othsL m.atr.others) x.EO
  nets : Vec 2 x.nad m.nets.length x.nc (pfsL m.nets) x.EN
def PlS.cells (x : PlS) (m : MsL) (kad : Option Addr) (kc kn : Nat) : List Value := m.rc kad kc kn x.gad x.gc x.pad x.pc x.oad x.oc x.nad x.nc
def PlS.K (x : PlS) : List Ent := x.EG ++ (x.EP ++ (x.EO ++ x.EN))
def PlS.m (x : PlS) (m : MsL) (kad : Option Addr) (kc : Nat) : MsL := { m with kad := kad, kc := kc, gad := x.gad, gc := x.gc, atr := m.atr.r0 x.pad x.pc m.atr.path x.oad x.oc m.atr.others, nad := x.nad, nc := x.nc }
theorem PlS.Good.at_ {x : PlS} {m : MsL} (h : x.Good m) {kad : Option Addr} {kc : Nat} {E : List Ent} (hV : Vec 2 kad m.caps.length kc (capsL m.caps) E) {w : World} (hm : m.At w) (hw : ∀ e ∈ E ++ x.K, e.holds w) : (x.m m kad kc).At w :=
  ⟨cells_of (enc := CapL.cells) hV (fun _ => rfl) (by omega) fun e he => hw e (List.mem_append_left _ he), hm.vals,
   cells_of (enc := PfL.cells) h.gone (fun _ => rfl) (by omega) fun e he => hw e (List.mem_append_right _ (List.mem_append_left _ he)),
   cells_of (enc := PfL.cells) h.nets (fun _ => rfl) (by omega) fun e he => hw e (List.mem_append_right _ (List.mem_append_right _ (List.mem_append_right _ (List.mem_append_right _ he)))),
   ⟨cells_of (enc := SegL.cells) h.path (fun _ => rfl) (by omega) fun e he => hw e (List.mem_append_right _ (List.mem_append_right _ (List.mem_append_left _ he))), hm.at_.segs, hm.at_.comms,
    cells_of (enc := OthL.cells) h.oths (fun _ => rfl) (by omega) fun e he => hw e (List.mem_append_right _ (List.mem_append_right _ (List.mem_append_right _ (List.mem_append_left _ he)))), hm.at_.vals⟩⟩
theorem WL.rowAs {P : Program} {ops : Array Oper} {Q : Exit → Act → World → Prop} {n : Nat} {p : Nat → Prop} {w0 : World} {rest : List Oper} {l : Kn} {L L' : List Ent} {g : Nat} {cs cs' : List Value} [ha : At L g cs] [hp : Put L g (.row g cs') L'] (e : cs = cs')
    (h : WL P ops Q n p w0 rest l L') : WL P ops Q n p w0 rest l L := fun a w hA hS => h a w hA (by
  have hm := ha.mem
  rw [e] at hm
  obtain ⟨A, B, e', h1, h2, h3⟩ := hp.ok rfl
  rw [h2]
  have hd : (A ++ Ent.row g cs' :: B).map Ent.at = L.map Ent.at := by
    rw [h1, List.map_append, List.map_append, List.map_cons, List.map_cons, h3]
    rfl
  have hin : ∀ x ∈ A ++ Ent.row g cs' :: B, x ∈ L := fun x hx => by
    rcases List.mem_append.1 hx with hx | hx
    · rw [h1]; exact List.mem_append_left _ hx
    · rcases List.mem_cons.1 hx with rfl | hx
      · exact hm
      · rw [h1]; exact List.mem_append_right _ (List.mem_cons_of_mem _ hx)
  exact ⟨hS.frm, fun x hx => hS.holds x (hin x hx), by rw [hd]; exact hS.dist, fun x hx => hS.mine x (hin x hx)⟩)
end Go.Proofs.YtpjbofodllhjbaaDoor
/- carrefourref06.list and Same, carrefourref07.same and Same: what says the same is the same. -/
namespace Go.Proofs.YtpjbofodllhjbaaDoor
open Go.RowKit

theorem rgOne {w : World} {b o k : Nat} {cs : List Value} {v : Value} (h : w.rangeAt b o cs) (hk : cs[k]? = some v) : w.cell? ⟨b, o + k * 1, none⟩ = some v := by rw [Nat.mul_one]; exact h k v hk
end Go.Proofs.YtpjbofodllhjbaaDoor
/- carrefourref06.Same, carrefourref07.Same: what says the same is the same. -/
namespace Go.Proofs.YtpjbofodllhjbaaDoor
open Go.RowKit

theorem map_get_eq {α β : Type} {f : α → β} {xs ys : List α} (h : xs.map f = ys.map f) {k : Nat} {x : α} (hx : xs[k]? = some x) : ∃ y, ys[k]? = some y ∧ f x = f y := by
  have e : (xs.map f)[k]? = (ys.map f)[k]? := by rw [h]
  rw [List.getElem?_map, List.getElem?_map, hx] at e
  cases hy : ys[k]? with
  | none => rw [hy] at e; cases e
  | some y => rw [hy] at e; exact ⟨y, rfl, Option.some.inj e⟩
theorem map_len_eq {α β : Type} {f : α → β} {xs ys : List α} (h : xs.map f = ys.map f) : xs.length = ys.length := by
  have e := congrArg List.length h
  rwa [List.length_map, List.length_map] at e
theorem rdVal {w w' : World} {L : List Ent} {ad : Option Addr} {xs : List Int} (h : CellsAt w ad (u8s xs)) (hS : St (fun _ => False) w w' L) : RdO w' ad xs.length (fOf xs) := fun hn => by
  obtain ⟨b, o, e, hr⟩ := h (by rw [u8s_len]; exact hn)
  exact ⟨b, o, e, rd_u8s (hS.rng (fun _ h => h) _ _ _ hr)⟩
end Go.Proofs.YtpjbofodllhjbaaDoor
/- carrefourref07.Same: what says the same is the same. -/
namespace Go.Proofs.YtpjbofodllhjbaaDoor
open Go.RowKit

end Go.Proofs.YtpjbofodllhjbaaDoor
/- bgp: BgpForm walked: bytes that are a message. -/
namespace Go.Proofs.YtpjbofodllhjbaaDoor
open Go.RowKit

end Go.Proofs.YtpjbofodllhjbaaDoor
/- attr: what was read is well formed. -/
namespace Go.Proofs.YtpjbofodllhjbaaDoor
open Go.RowKit

/-- Attributes as they are read: what is there is good, what is not is zero. -/
structure AtG (N : Nat) (d : AtD) : Prop where
  each : ∀ k, 1 ≤ k → k ≤ 8 → eachBD d k = true
  hop : U32 d.hop
  aid : U32 d.aid
  path : 4 * d.path.length ≤ N
  oths : ∀ o ∈ d.others, 9 ≤ o.1 ∧ o.1 ≤ 255 ∧ Bys o.2 ∧ o.2.length ≤ N
theorem each_keep {d d' : AtD} {k : Nat} (h1 : hasB d'.has k = hasB d.has k) (h2 : goodBD d' k = goodBD d k) (h3 : zeroBD d' k = zeroBD d k) (h : eachBD d k = true) : eachBD d' k = true := by
  unfold eachBD at h ⊢
  rw [h1, h2, h3]
  exact h
theorem each_new {d : AtD} {k : Nat} (h1 : hasB d.has k = true) (h2 : goodBD d k = true) : eachBD d k = true := by
  unfold eachBD
  rw [h1]
  exact h2
theorem hasB_same {h : Int} {t : Nat} (h1 : 1 ≤ t) (h8 : t ≤ 8) (hb : h / 2 ^ t % 2 = 0) : hasB (h + 2 ^ t) t = true := by
  refine (hasB_iff h1 h8).2 ?_
  have : t = 1 ∨ t = 2 ∨ t = 3 ∨ t = 4 ∨ t = 5 ∨ t = 6 ∨ t = 7 ∨ t = 8 := by omega
  rcases this with rfl | rfl | rfl | rfl | rfl | rfl | rfl | rfl <;> omega
theorem hasB_other {h : Int} {t k : Nat} (h0 : 0 ≤ h) (h1 : h ≤ 511) (ht : t ≤ 8) (hb : h / 2 ^ t % 2 = 0) (hk : k ≤ 8) (hne : k ≠ t) : hasB (h + 2 ^ t) k = hasB h k := by
  have := (bits_addI h0 h1 ht hb).2 k hk hne
  unfold hasB
  rw [this]
theorem readI2 {v : List Int} (h : Bys v) (hl : v.length = 2) : 0 ≤ readI v ∧ readI v ≤ 65535 := by
  match v, hl with
  | [a, b], _ => have := h a (by simp); have := h b (by simp); show 0 ≤ (0 * 256 + a) * 256 + b ∧ (0 * 256 + a) * 256 + b ≤ 65535; omega
theorem readI4 {v : List Int} (h : Bys v) (hl : v.length = 4) : 0 ≤ readI v ∧ readI v ≤ 4294967295 := by
  match v, hl with
  | [a, b, c, d], _ =>
    have := h a (by simp); have := h b (by simp); have := h c (by simp); have := h d (by simp)
    show 0 ≤ (((0 * 256 + a) * 256 + b) * 256 + c) * 256 + d ∧ (((0 * 256 + a) * 256 + b) * 256 + c) * 256 + d ≤ 4294967295; omega
theorem fours_b : ∀ {v : List Int}, Bys v → ∀ x ∈ fours v, 0 ≤ x ∧ x ≤ 4294967295
  | a :: b :: c :: d :: xs, h, x, hx => by
    rw [fours] at hx
    rcases List.mem_cons.1 hx with rfl | hx
    · exact readI4 (fun y hy => h y (by simp at hy ⊢; rcases hy with h | h | h | h <;> simp [h])) rfl
    · exact fours_b (fun y hy => h y (by simp [hy])) x hx
  | [], _, x, hx => by simp [fours] at hx
  | [_], _, x, hx => by simp [fours] at hx
  | [_, _], _, x, hx => by simp [fours] at hx
  | [_, _, _], _, x, hx => by simp [fours] at hx
theorem fours_l : ∀ (v : List Int), (fours v).length ≤ v.length / 4
  | a :: b :: c :: d :: xs => by have := fours_l xs; simp only [fours, List.length_cons]; omega
  | [] => by simp [fours]
  | [_] => by simp [fours]
  | [_, _] => by simp [fours]
  | [_, _, _] => by simp [fours]
theorem pathR_len : ∀ (v : List Int) {p : List (Bool × List Int)}, pathR v = some p → p.all segBD = true → 4 * p.length ≤ v.length
  | [], p, h, _ => by rw [pathR] at h; cases h; exact Nat.le_refl _
  | [_], p, h, _ => by rw [pathR] at h; cases h
  | x :: n :: xs, p, h, ha => by
    rw [pathR_cons] at h
    split at h
    · cases h
    · rename_i hn
      obtain ⟨q, hq, rfl⟩ := Option.map_eq_some_iff.1 h
      rw [List.all_cons, Bool.and_eq_true] at ha
      have ih := pathR_len (xs.drop (2 * n.toNat)) hq ha.2
      have h1 := ha.1
      unfold segBD at h1
      rw [Bool.and_eq_true] at h1
      have h2 := of_decide_eq_true h1.1
      rw [List.length_map, List.length_range] at h2
      rw [List.length_drop] at ih
      rw [List.length_cons, List.length_cons, List.length_cons]
      omega
termination_by v => v.length
decreasing_by simp only [List.length_drop, List.length_cons]; omega
theorem kcases {k : Nat} (h1 : 1 ≤ k) (h8 : k ≤ 8) : k = 1 ∨ k = 2 ∨ k = 3 ∨ k = 4 ∨ k = 5 ∨ k = 6 ∨ k = 7 ∨ k = 8 := by omega
theorem AtG.zero (N : Nat) : AtG N AtL.zero.d := ⟨fun k h1 h8 => by rcases kcases h1 h8 with rfl | rfl | rfl | rfl | rfl | rfl | rfl | rfl <;> decide, ⟨by decide, by decide⟩, ⟨by decide, by decide⟩, Nat.zero_le _, fun _ h => by cases h⟩
set_option maxHeartbeats 1000000 in
theorem AtG.take {N : Nat} {d d' : AtD} {all v : List Int} (hG : AtG N d) (hv : Bys v) (hvl : v.length ≤ N) (h18 : 1 ≤ fOf all 1 ∧ fOf all 1 ≤ 8) (h0 : 0 ≤ d.has) (h1 : d.has ≤ 511) (hb : d.has / 2 ^ (fOf all 1).toNat % 2 = 0) (hcom : fOf all 1 = 8 → d.comms = []) (h : takeD d all v = .inl d') : AtG N d' := by
  obtain ⟨t, ht⟩ := Int.eq_ofNat_of_zero_le (show 0 ≤ fOf all 1 by omega)
  unfold takeD at h
  rw [ht, Int.toNat_natCast] at h
  rw [ht, Int.toNat_natCast] at hb
  rw [ht] at hcom
  split at h
  · cases h
  split at h
  · cases h
  rename_i hsz
  split at h
  · cases h
  rename_i h256
  split at h
  · cases h
  rename_i d2 hs
  split at h
  · cases h
  rename_i g2
  split at h
  · cases h
  rename_i g1
  split at h
  · cases h
  rename_i g3
  cases h
  have t1 : 1 ≤ t := by omega
  have t8 : t ≤ 8 := by omega
  have hn := hasB_same t1 t8 hb
  have hk : ∀ k, k ≤ 8 → k ≠ t → hasB (d.has + 2 ^ t) k = hasB d.has k := fun k k8 e => hasB_other h0 h1 t8 hb k8 e
  rcases kcases t1 t8 with rfl | rfl | rfl | rfl | rfl | rfl | rfl | rfl
  · obtain rfl : { d with origin := readI v } = d2 := Option.some.inj hs
    refine ⟨fun k k1 k8 => ?_, hG.hop, hG.aid, hG.path, hG.oths⟩
    by_cases e : k = 1
    · subst e
      refine each_new hn ?_
      show wiB (readI v) 2 = true
      cases hw : wiB (readI v) 2
      · exact absurd ⟨rfl, hw⟩ g1
      · rfl
    · exact each_keep (hk k k8 e) (by rcases kcases k1 k8 with rfl | rfl | rfl | rfl | rfl | rfl | rfl | rfl <;> first | rfl | exact absurd rfl e) (by rcases kcases k1 k8 with rfl | rfl | rfl | rfl | rfl | rfl | rfl | rfl <;> first | rfl | exact absurd rfl e) (hG.each k k1 k8)
  · obtain ⟨p, hp, rfl⟩ := Option.map_eq_some_iff.1 (show (pathR v).map (fun p => { d with path := p }) = some d2 from hs)
    have hall : p.all segBD = true := by
      cases hw : p.all segBD
      · exact absurd ⟨rfl, hw⟩ g2
      · rfl
    have hpl := pathR_len v hp hall
    refine ⟨fun k k1 k8 => ?_, hG.hop, hG.aid, by show 4 * p.length ≤ N; omega, hG.oths⟩
    by_cases e : k = 2
    · subst e
      exact each_new hn hall
    · exact each_keep (hk k k8 e) (by rcases kcases k1 k8 with rfl | rfl | rfl | rfl | rfl | rfl | rfl | rfl <;> first | rfl | exact absurd rfl e) (by rcases kcases k1 k8 with rfl | rfl | rfl | rfl | rfl | rfl | rfl | rfl <;> first | rfl | exact absurd rfl e) (hG.each k k1 k8)
  · obtain rfl : { d with hop := readI v } = d2 := Option.some.inj hs
    have hl : v.length = 4 := by
      have : ¬ ((0 ≤ (4 : Int) ∧ (v.length : Int) ≠ 4) ∨ _) := hsz
      omega
    refine ⟨fun k k1 k8 => ?_, readI4 hv hl, hG.aid, hG.path, hG.oths⟩
    by_cases e : k = 3
    · subst e
      refine each_new hn ?_
      show hopB (readI v) = true
      cases hw : hopB (readI v)
      · exact absurd ⟨rfl, hw⟩ g3
      · rfl
    · exact each_keep (hk k k8 e) (by rcases kcases k1 k8 with rfl | rfl | rfl | rfl | rfl | rfl | rfl | rfl <;> first | rfl | exact absurd rfl e) (by rcases kcases k1 k8 with rfl | rfl | rfl | rfl | rfl | rfl | rfl | rfl <;> first | rfl | exact absurd rfl e) (hG.each k k1 k8)
  · obtain rfl : { d with med := readI v } = d2 := Option.some.inj hs
    have hl : v.length = 4 := by
      have : ¬ ((0 ≤ (4 : Int) ∧ (v.length : Int) ≠ 4) ∨ _) := hsz
      omega
    refine ⟨fun k k1 k8 => ?_, hG.hop, hG.aid, hG.path, hG.oths⟩
    by_cases e : k = 4
    · subst e
      exact each_new hn (decide_eq_true (readI4 hv hl))
    · exact each_keep (hk k k8 e) (by rcases kcases k1 k8 with rfl | rfl | rfl | rfl | rfl | rfl | rfl | rfl <;> first | rfl | exact absurd rfl e) (by rcases kcases k1 k8 with rfl | rfl | rfl | rfl | rfl | rfl | rfl | rfl <;> first | rfl | exact absurd rfl e) (hG.each k k1 k8)
  · obtain rfl : { d with loc := readI v } = d2 := Option.some.inj hs
    have hl : v.length = 4 := by
      have : ¬ ((0 ≤ (4 : Int) ∧ (v.length : Int) ≠ 4) ∨ _) := hsz
      omega
    refine ⟨fun k k1 k8 => ?_, hG.hop, hG.aid, hG.path, hG.oths⟩
    by_cases e : k = 5
    · subst e
      exact each_new hn (decide_eq_true (readI4 hv hl))
    · exact each_keep (hk k k8 e) (by rcases kcases k1 k8 with rfl | rfl | rfl | rfl | rfl | rfl | rfl | rfl <;> first | rfl | exact absurd rfl e) (by rcases kcases k1 k8 with rfl | rfl | rfl | rfl | rfl | rfl | rfl | rfl <;> first | rfl | exact absurd rfl e) (hG.each k k1 k8)
  · obtain rfl : d = d2 := Option.some.inj hs
    refine ⟨fun k k1 k8 => ?_, hG.hop, hG.aid, hG.path, hG.oths⟩
    by_cases e : k = 6
    · subst e
      exact each_new hn rfl
    · exact each_keep (hk k k8 e) (by rcases kcases k1 k8 with rfl | rfl | rfl | rfl | rfl | rfl | rfl | rfl <;> first | rfl | exact absurd rfl e) (by rcases kcases k1 k8 with rfl | rfl | rfl | rfl | rfl | rfl | rfl | rfl <;> first | rfl | exact absurd rfl e) (hG.each k k1 k8)
  · obtain rfl : { d with aas := readI (v.take 2), aid := readI (v.drop 2) } = d2 := Option.some.inj hs
    have hl : v.length = 6 := by
      have : ¬ ((0 ≤ (6 : Int) ∧ (v.length : Int) ≠ 6) ∨ _) := hsz
      omega
    refine ⟨fun k k1 k8 => ?_, hG.hop, readI4 (fun x hx => hv x (List.mem_of_mem_drop hx)) (by rw [List.length_drop]; omega), hG.path, hG.oths⟩
    by_cases e : k = 7
    · subst e
      exact each_new hn (decide_eq_true (readI2 (fun x hx => hv x (List.mem_of_mem_take hx)) (by rw [List.length_take]; omega)))
    · exact each_keep (hk k k8 e) (by rcases kcases k1 k8 with rfl | rfl | rfl | rfl | rfl | rfl | rfl | rfl <;> first | rfl | exact absurd rfl e) (by rcases kcases k1 k8 with rfl | rfl | rfl | rfl | rfl | rfl | rfl | rfl <;> first | rfl | exact absurd rfl e) (hG.each k k1 k8)
  · obtain rfl : { d with comms := d.comms ++ fours v } = d2 := Option.some.inj hs
    have hl : ¬ 256 < v.length / 4 := fun hh => h256 ⟨rfl, hh⟩
    refine ⟨fun k k1 k8 => ?_, hG.hop, hG.aid, hG.path, hG.oths⟩
    by_cases e : k = 8
    · subst e
      refine each_new hn ?_
      show commsB (d.comms ++ fours v) = true
      rw [hcom rfl, List.nil_append]
      unfold commsB
      have := fours_l v
      rw [decide_eq_true (show (fours v).length ≤ 256 by omega), Bool.and_true]
      exact List.all_eq_true.2 fun x hx => decide_eq_true (fours_b hv x hx)
    · exact each_keep (hk k k8 e) (by rcases kcases k1 k8 with rfl | rfl | rfl | rfl | rfl | rfl | rfl | rfl <;> first | rfl | exact absurd rfl e) (by rcases kcases k1 k8 with rfl | rfl | rfl | rfl | rfl | rfl | rfl | rfl <;> first | rfl | exact absurd rfl e) (hG.each k k1 k8)
end Go.Proofs.YtpjbofodllhjbaaDoor
/- attr: what was read is well formed: whole; prefixes. -/
namespace Go.Proofs.YtpjbofodllhjbaaDoor
open Go.RowKit

theorem AtG.other {N : Nat} {d d' : AtD} {all v : List Int} (hG : AtG N d) (hB : Bys all) (hv : Bys v) (hvl : v.length ≤ N) (h18 : ¬ (1 ≤ fOf all 1 ∧ fOf all 1 ≤ 8)) (h : otherD d all v = .inl d') : AtG N d' := by
  have hb := fOf_b hB 1
  unfold otherD at h
  split at h
  · cases h
  split at h
  · rename_i hc
    cases h
    refine ⟨hG.each, hG.hop, hG.aid, hG.path, fun o ho => ?_⟩
    rcases List.mem_append.1 ho with ho | ho
    · exact hG.oths o ho
    · obtain rfl : o = (fOf all 1, v) := by simpa using ho
      exact ⟨by show 9 ≤ fOf all 1; omega, hb.2, hv, hvl⟩
  · cases h; exact hG
theorem AtG.step {N : Nat} {d d' : AtD} {seen all v : List Int} (hG : AtG N d) (hS : SeenI d seen) (hB : Bys all) (hv : Bys v) (hvl : v.length ≤ N) (hn : fOf all 1 ∉ seen) (h : stepD d all v = .inl d') : AtG N d' := by
  have hb := fOf_b hB 1
  unfold stepD at h
  split at h
  · rename_i h18
    refine hG.take hv hvl h18 hS.h0 hS.h1 ?_ (fun e => hS.com (by rw [← e]; exact hn)) h
    obtain ⟨t, ht⟩ := Int.eq_ofNat_of_zero_le hb.1
    rw [ht, Int.toNat_natCast]
    exact hS.bit t (by omega) (.inr (by rw [← ht]; exact hn))
  · rename_i h18
    exact hG.other hB hv hvl h18 h
theorem decD_good (N : Nat) : ∀ (n : Nat) (d : AtD) (seen xs : List Int) {d' : AtD}, xs.length ≤ n → xs.length ≤ N → Bys xs → SeenI d seen → AtG N d → decD d seen xs = .inl d' → AtG N d' ∧ ∃ seen', SeenI d' seen'
  | _, d, seen, [], d', _, _, _, hS, hG, h => by
    rw [decD_nil] at h
    cases h
    exact ⟨hG, seen, hS⟩
  | 0, d, seen, x :: xs, d', hn, _, _, _, _, _ => by simp at hn
  | n + 1, d, seen, x :: xs, d', hn, hN, hB, hS, hG, h => by
    by_cases hc : (x :: xs).length < fromN (x :: xs) ∨ (x :: xs).length < toN (x :: xs) ∨ fOf (x :: xs) 1 ∈ seen
    · rw [decD_bad (by simp) hc] at h; cases h
    · rw [decD_step (by simp) hc] at h
      have hf := fromN_b (x :: xs)
      have ht := toN_ge (x :: xs)
      have e1 : fOf ((x :: xs).take (toN (x :: xs))) 1 = fOf (x :: xs) 1 := by
        unfold fOf
        rw [List.getD_eq_getElem?_getD, List.getD_eq_getElem?_getD, List.getElem?_take, if_pos (by omega)]
      have hBt : Bys ((x :: xs).take (toN (x :: xs))) := fun y hy => hB y (List.mem_of_mem_take hy)
      have hBv : Bys (((x :: xs).take (toN (x :: xs))).drop (fromN (x :: xs))) := fun y hy => hBt y (List.mem_of_mem_drop hy)
      have hvl : (((x :: xs).take (toN (x :: xs))).drop (fromN (x :: xs))).length ≤ N := by rw [List.length_drop, List.length_take]; omega
      have hns : fOf ((x :: xs).take (toN (x :: xs))) 1 ∉ seen := by rw [e1]; exact fun hh => hc (.inr (.inr hh))
      cases hs : stepD d ((x :: xs).take (toN (x :: xs))) (((x :: xs).take (toN (x :: xs))).drop (fromN (x :: xs))) with
      | inr f => rw [hs] at h; cases h
      | inl d2 =>
        rw [hs] at h
        have hS2 := hS.step hBt hns hs
        rw [e1] at hS2
        exact decD_good N n d2 _ _ (by rw [List.length_drop]; omega) (by rw [List.length_drop]; omega) (fun y hy => hB y (List.mem_of_mem_drop hy)) hS2 (hG.step hS hBt hBv hvl hns hs) h
theorem SeenI.zero : SeenI AtL.zero.d [] := ⟨by decide, by decide, fun t _ _ => by show (0 : Int) / 2 ^ t % 2 = 0; rw [Int.zero_ediv]; rfl, fun _ => rfl, List.nodup_nil, fun t h => by cases h⟩
end Go.Proofs.YtpjbofodllhjbaaDoor
/- The reference's paths: parts. -/
namespace Go.Proofs.YtpjbofodllhjbaaDoor
open Go.RowKit

/-- The parts of a path, as the reference reads them. -/
def partsR (v : List Int) : Option (List (Bool × List Int)) := (pathR v).bind fun p => if p.all segBD then some p else none
def asL (zs : List Int) (n : Nat) : List Int := (List.range n).map fun i => readI ((zs.drop (2 * i)).take 2)
theorem partsR_nil : partsR [] = some [] := by unfold partsR; rw [pathR]; rfl
theorem partsR_one (y : Int) : partsR [y] = none := by unfold partsR; rw [pathR]; rfl
theorem partsR_bad {x n : Int} {zs : List Int} (h : x ≠ 1 ∧ x ≠ 2 ∨ zs.length < 2 * n.toNat) : partsR (x :: n :: zs) = none := by unfold partsR; rw [pathR_cons, if_pos h]; rfl
theorem partsR_no {x n : Int} {zs : List Int} (h : segBD (decide (x = 1), asL zs n.toNat) = false) : partsR (x :: n :: zs) = none := by
  unfold partsR
  rw [pathR_cons]
  split
  · rfl
  · cases hq : pathR (zs.drop (2 * n.toNat)) with
    | none => rfl
    | some q =>
      show (if List.all ((decide (x = 1), asL zs n.toNat) :: q) segBD then _ else _) = _
      rw [List.all_cons, h]
      rfl
theorem partsR_ok {x n : Int} {zs : List Int} (h : ¬ (x ≠ 1 ∧ x ≠ 2 ∨ zs.length < 2 * n.toNat)) (hs : segBD (decide (x = 1), asL zs n.toNat) = true) : partsR (x :: n :: zs) = (partsR (zs.drop (2 * n.toNat))).map ((decide (x = 1), asL zs n.toNat) :: ·) := by
  unfold partsR
  rw [pathR_cons, if_neg h]
  cases hq : pathR (zs.drop (2 * n.toNat)) with
  | none => rfl
  | some q =>
    show (if List.all ((decide (x = 1), asL zs n.toNat) :: q) segBD then _ else _) = Option.map _ (if q.all segBD then some q else none)
    rw [List.all_cons, hs, Bool.true_and]
    cases q.all segBD <;> rfl
theorem asL_len (zs : List Int) (n : Nat) : (asL zs n).length = n := by unfold asL; rw [List.length_map, List.length_range]
theorem asL_snoc (zs : List Int) (n : Nat) : asL zs (n + 1) = asL zs n ++ [readI ((zs.drop (2 * n)).take 2)] := by unfold asL; rw [List.range_succ, List.map_append]; rfl
theorem asL_b {zs : List Int} (hB : Bys zs) {n : Nat} (hn : 2 * n ≤ zs.length) : ∀ x ∈ asL zs n, 0 ≤ x ∧ x ≤ 65535 := fun x hx => by
  unfold asL at hx
  obtain ⟨i, hi, rfl⟩ := List.mem_map.1 hx
  have := List.mem_range.1 hi
  exact readI2 (fun y hy => hB y (List.mem_of_mem_drop (List.mem_of_mem_take hy))) (by rw [List.length_take, List.length_drop]; omega)
theorem segBD_of {b : Bool} {al : List Int} (h1 : 1 ≤ al.length) (h2 : al.length ≤ 255) (h : ∀ x ∈ al, x ≠ 0 ∧ 0 ≤ x ∧ x ≤ 65535) : segBD (b, al) = true := by
  unfold segBD
  rw [decide_eq_true (show 1 ≤ al.length ∧ al.length ≤ 255 from ⟨h1, h2⟩), Bool.true_and]
  exact List.all_eq_true.2 fun x hx => decide_eq_true (by have := h x hx; omega)
theorem segBD_zero {b : Bool} {al : List Int} (h : al.length = 0 ∨ 0 ∈ al) : segBD (b, al) = false := by
  cases hs : segBD (b, al)
  · rfl
  · unfold segBD at hs
    rw [Bool.and_eq_true] at hs
    have h1 := of_decide_eq_true hs.1
    rcases h with h | h
    · have h2 : 1 ≤ al.length := h1.1; omega
    · have := of_decide_eq_true (List.all_eq_true.1 hs.2 0 h)
      omega
theorem Win.numd {w : World} {b o c : Nat} {xs : List Int} (h : Win w b o c xs) (lo : Nat) (hk : lo + 2 ≤ xs.length) : Calls Tryd.prog 65 #[.slice (some ⟨b, sAddr o lo c 1, none⟩) (lo + 2 - lo) (c - lo)] w fun e w' => e = .returned (.int .i64 (readI ((xs.drop lo).take 2))) ∧ Frm (fun _ => False) w w' := by
  have hl : ((xs.take (lo + 2)).drop lo).length = lo + 2 - lo := by rw [List.length_drop, List.length_take]; omega
  have e := RNum_c w b (sAddr o lo c 1) (c - lo) ((xs.take (lo + 2)).drop lo) ((h.take (lo + 2)).drop lo) (by omega)
  rw [hl, List.drop_take, Nat.add_sub_cancel_left] at e
  rw [Nat.add_sub_cancel_left]
  exact e
structure PaS where
  k : Nat
  ss : List SegL
  ad : Option Addr
  c : Nat
  E : List Ent
  KO : List Ent
def PartsP (w w' : World) (v : List Int) (e : Ending) : Prop :=
  match partsR v with
  | none => e = .returned (.tuple #[.slice none 0 0, .bool false]) ∧ Frm (fun _ => False) w w'
  | some ps => ∃ ss ad c E K, e = .returned (.tuple #[.slice ad ss.length c, .bool true]) ∧ ss.map segD = ps ∧ Vec 2 ad ss.length c (segsL ss) E ∧ (∀ s ∈ ss, SegOwn K s) ∧ St (fun _ => False) w w' (E ++ K)
theorem PartsP.no {w w' : World} {v : List Int} {L : List Ent} (h : partsR v = none) (hS : St (fun _ => False) w w' L) : PartsP w w' v (.returned (.tuple #[.slice none 0 0, .bool false])) := by
  unfold PartsP
  rw [h]
  exact ⟨rfl, hS.frm⟩
set_option maxHeartbeats 8000000 in
theorem RParts_c (w : World) (b o cv : Nat) (v : List Int) (hW : Win w b o cv v) (hn : v.length ≤ 100000) :
    Calls Tryd.prog 67 #[.slice (some ⟨b, o, none⟩) v.length cv] w fun e w' => PartsP w w' v e := by
  have hle := hW.le
  refine enter Tryd.func67 rfl Tryd.ntmps67 rfl (St.start (fun _ => False) w) ?_
  refine WC.seq ?_
  refine WC.region ?_
  refine WL.val (v_assign rfl rfl) (.none rfl) rfl rfl ?_
  refine WL.val (v_assign rfl rfl) (.none rfl) rfl rfl ?_
  refine WL.nil ?_
  refine WE.then_n ?_
  refine WC.seq ?_
  refine WC.region ?_
  refine WL.buildSlice rfl rfl Tryd.underlying48 sz_140 zero_140 rfl (by decide) rfl (.none rfl) rfl rfl ?_
  intro g9 hg9
  refine WL.val (v_assign rfl rfl) (.none rfl) rfl rfl ?_
  refine WL.nil ?_
  refine WE.then_n ?_
  refine WC.seq ?_
  refine WC.region ?_
  refine WL.val (v_assign rfl rfl) (.none rfl) rfl rfl ?_
  refine WL.nil ?_
  refine WE.then_n ?_
  refine WC.seq ?_
  refine WC.block ?_
  refine WC.loop (fun x : PaS => [(5, .int .i64 x.k), (4, .slice x.ad x.ss.length x.c), (0, .slice (some ⟨b, o, none⟩) v.length cv)]) (fun x => x.E ++ x.KO) (fun x => x.k ≤ v.length ∧ partsR v = (partsR (v.drop x.k)).map (x.ss.map segD ++ ·) ∧ Vec 2 x.ad x.ss.length x.c (segsL x.ss) x.E ∧ x.ss.length ≤ x.k ∧ ∀ s ∈ x.ss, SegOwn x.KO s) (fun x => v.length - x.k) ⟨0, [], some ⟨g9, 0, none⟩, 0, [.row g9 []], []⟩ ⟨Nat.zero_le _, by dsimp only; rw [List.drop_zero]; cases partsR v <;> rfl, Vec.row (k := 0) rfl rfl (Nat.le_refl _), Nat.zero_le _, fun s h => by cases h⟩ (.cons rfl (.cons rfl (.cons rfl .nil))) (.refl _) ?_
  rintro ⟨k, ss, ad, c, E, KO⟩ ⟨hk, hp, hV, hsl, hO⟩
  dsimp only at hk hp hV hsl hO
  dsimp only
  refine WC.seq ?_
  refine WC.seq ?_
  refine WC.region ?_
  refine WL.val (v_move rfl rfl) (.none rfl) rfl rfl ?_
  refine WL.val (v_move rfl rfl) (.none rfl) rfl rfl ?_
  refine WL.val (v_len_slice rfl rfl Tryd.underlying22) (.none rfl) rfl rfl ?_
  refine WL.test (v_lss rfl rfl rfl) (.none rfl) rfl rfl (fun h13 => ?_) (fun h13 => ?_)
  ·
   refine WL.nil ?_
   refine WE.then_n ?_
   refine WC.cond_t rfl ?_
   refine WC.skip ?_
   refine WE.then_n ?_
   refine WC.block ?_
   refine WC.seq ?_
   refine WC.seq ?_
   refine WC.region ?_
   refine WL.val (v_move rfl rfl) (.none rfl) rfl rfl ?_
   refine WL.val (v_add rfl rfl rfl (w_i64 (by omega) (by omega))) (.none rfl) rfl rfl ?_
   refine WL.val (v_move rfl rfl) (.none rfl) rfl rfl ?_
   refine WL.val (v_len_slice rfl rfl Tryd.underlying22) (.none rfl) rfl rfl ?_
   refine WL.test (v_gtr rfl rfl rfl) (.none rfl) rfl rfl (fun h18 => ?_) (fun h18 => ?_)
   ·
    refine WL.val (v_move rfl rfl) (.none rfl) rfl rfl ?_
    refine WL.skip rfl rfl rfl rfl rfl rfl ?_
    refine WL.skip rfl rfl rfl rfl rfl rfl ?_
    refine WL.skip rfl rfl rfl rfl rfl rfl ?_
    refine WL.skip rfl rfl rfl rfl rfl rfl ?_
    refine WL.skip rfl rfl rfl rfl rfl rfl ?_
    refine WL.skip rfl rfl rfl rfl rfl rfl ?_
    refine WL.skip rfl rfl rfl rfl rfl rfl ?_
    refine WL.val (v_pick_t rfl rfl rfl) (.none rfl) rfl rfl ?_
    refine WL.val (v_move rfl rfl) (.none rfl) rfl rfl ?_
    refine WL.skip rfl rfl rfl rfl rfl rfl ?_
    refine WL.skip rfl rfl rfl rfl rfl rfl ?_
    refine WL.skip rfl rfl rfl rfl rfl rfl ?_
    refine WL.skip rfl rfl rfl rfl rfl rfl ?_
    refine WL.skip rfl rfl rfl rfl rfl rfl ?_
    refine WL.skip rfl rfl rfl rfl rfl rfl ?_
    refine WL.val (v_pick_t rfl rfl rfl) (.none rfl) rfl rfl ?_
    refine WL.val (v_move rfl rfl) (.none rfl) rfl rfl ?_
    refine WL.skip rfl rfl rfl rfl rfl rfl ?_
    refine WL.skip rfl rfl rfl rfl rfl rfl ?_
    refine WL.skip rfl rfl rfl rfl rfl rfl ?_
    refine WL.skip rfl rfl rfl rfl rfl rfl ?_
    refine WL.skip rfl rfl rfl rfl rfl rfl ?_
    refine WL.skip rfl rfl rfl rfl rfl rfl ?_
    refine WL.skip rfl rfl rfl rfl rfl rfl ?_
    refine WL.skip rfl rfl rfl rfl rfl rfl ?_
    refine WL.skip rfl rfl rfl rfl rfl rfl ?_
    refine WL.skip rfl rfl rfl rfl rfl rfl ?_
    refine WL.skip rfl rfl rfl rfl rfl rfl ?_
    refine WL.skip rfl rfl rfl rfl rfl rfl ?_
    refine WL.skip rfl rfl rfl rfl rfl rfl ?_
    refine WL.val (v_pick_t rfl rfl rfl) (.none rfl) rfl rfl ?_
    refine WL.nil ?_
    refine WE.then_n ?_
    refine WC.cond_t rfl ?_
    refine WC.seq ?_
    refine WC.region ?_
    refine WL.val (v_assign rfl rfl) (.none rfl) rfl rfl ?_
    refine WL.val (v_assign rfl rfl) (.none rfl) rfl rfl ?_
    refine WL.nil ?_
    refine WE.then_n ?_
    refine WC.ret ?_
    refine WE.then_ret ?_
    refine WE.block_ret ?_
    refine WE.then_ret ?_
    refine WE.block_ret ?_
    refine WE.then_ret ?_
    refine WE.ret2 (P := Tryd.prog) (.inl rfl) Tryd.results67 rfl rfl ?_
    have e0 : partsR v = none := (by
      rw [hp]
      have hl : (v.drop k).length = 1 := (by rw [List.length_drop]; omega)
      obtain ⟨y, hy⟩ : ∃ y, v.drop k = [y] := List.length_eq_one_iff.1 hl
      rw [hy, partsR_one]; rfl)
    exact fun w' h => PartsP.no e0 h
   ·
    refine WL.val (v_move rfl rfl) (.none rfl) rfl rfl ?_
    obtain ⟨x, hx⟩ : ∃ x, v[k]? = some x := ⟨v[k]'(by omega), List.getElem?_eq_getElem _⟩
    obtain ⟨n, hnx⟩ : ∃ n, v[k + 1]? = some n := ⟨v[k + 1]'(by omega), List.getElem?_eq_getElem _⟩
    have hbx := hW.bys x (List.mem_of_getElem? hx)
    have hbn := hW.bys n (List.mem_of_getElem? hnx)
    have hdr : v.drop k = x :: n :: v.drop (k + 2) := (by rw [drop_cons' hx, drop_cons' hnx])
    rw [hdr] at hp
    obtain ⟨m, rfl⟩ := Int.eq_ofNat_of_zero_le hbn.1
    refine WL.val (v_move rfl rfl) (.some rfl rfl rfl) rfl rfl ?_
    refine WL.val (v_move rfl rfl) (.some rfl rfl rfl) rfl rfl ?_
    refine WL.val (v_indexAddr (lo := k) rfl rfl rfl Tryd.underlying22 sz_5 (by omega) (by omega)) (.some rfl rfl rfl) rfl rfl ?_
    refine WL.val (v_load1 rfl rfl one_5 (cellOld (fun h => h) (hW.get hx))) (.some rfl rfl rfl) rfl rfl ?_
    refine WL.val (v_conv rfl rfl Tryd.underlying3 Tryd.underlying5 (w_i64 (by omega) (by omega))) (.some rfl rfl rfl) rfl rfl ?_
    refine WL.call rfl rfl ck_66 (.some rfl rfl rfl) rfl rfl ?_
    intro w hS
    refine Calls.then (RIn_c _ x 1 2) hS ?_
    generalize hq : decide (1 ≤ x ∧ x ≤ 2) = b25
    cases b25
    ·
     refine WL.val (v_not rfl rfl rfl) (.some rfl rfl rfl) rfl rfl ?_
     refine WL.val (v_pick_f rfl rfl rfl) (.none rfl) rfl rfl ?_
     refine WL.val (v_move rfl rfl) (.none rfl) rfl rfl ?_
     refine WL.skip rfl rfl rfl rfl rfl rfl ?_
     refine WL.skip rfl rfl rfl rfl rfl rfl ?_
     refine WL.skip rfl rfl rfl rfl rfl rfl ?_
     refine WL.skip rfl rfl rfl rfl rfl rfl ?_
     refine WL.skip rfl rfl rfl rfl rfl rfl ?_
     refine WL.skip rfl rfl rfl rfl rfl rfl ?_
     refine WL.val (v_pick_t rfl rfl rfl) (.none rfl) rfl rfl ?_
     refine WL.val (v_move rfl rfl) (.none rfl) rfl rfl ?_
     refine WL.skip rfl rfl rfl rfl rfl rfl ?_
     refine WL.skip rfl rfl rfl rfl rfl rfl ?_
     refine WL.skip rfl rfl rfl rfl rfl rfl ?_
     refine WL.skip rfl rfl rfl rfl rfl rfl ?_
     refine WL.skip rfl rfl rfl rfl rfl rfl ?_
     refine WL.skip rfl rfl rfl rfl rfl rfl ?_
     refine WL.skip rfl rfl rfl rfl rfl rfl ?_
     refine WL.skip rfl rfl rfl rfl rfl rfl ?_
     refine WL.skip rfl rfl rfl rfl rfl rfl ?_
     refine WL.skip rfl rfl rfl rfl rfl rfl ?_
     refine WL.skip rfl rfl rfl rfl rfl rfl ?_
     refine WL.skip rfl rfl rfl rfl rfl rfl ?_
     refine WL.skip rfl rfl rfl rfl rfl rfl ?_
     refine WL.val (v_pick_t rfl rfl rfl) (.none rfl) rfl rfl ?_
     refine WL.nil ?_
     refine WE.then_n ?_
     refine WC.cond_t rfl ?_
     refine WC.seq ?_
     refine WC.region ?_
     refine WL.val (v_assign rfl rfl) (.none rfl) rfl rfl ?_
     refine WL.val (v_assign rfl rfl) (.none rfl) rfl rfl ?_
     refine WL.nil ?_
     refine WE.then_n ?_
     refine WC.ret ?_
     refine WE.then_ret ?_
     refine WE.block_ret ?_
     refine WE.then_ret ?_
     refine WE.block_ret ?_
     refine WE.then_ret ?_
     refine WE.ret2 (P := Tryd.prog) (.inl rfl) Tryd.results67 rfl rfl ?_
     have e0 : partsR v = none := (by
       rw [hp, partsR_bad (.inl (by have := of_decide_eq_false hq; omega))]; rfl)
     exact fun w' h => PartsP.no e0 h
    ·
     refine WL.val (v_not rfl rfl rfl) (.some rfl rfl rfl) rfl rfl ?_
     refine WL.val (v_pick_f rfl rfl rfl) (.none rfl) rfl rfl ?_
     refine WL.val (v_move rfl rfl) (.none rfl) rfl rfl ?_
     refine WL.val (v_move rfl rfl) (.some rfl rfl rfl) rfl rfl ?_
     refine WL.val (v_move rfl rfl) (.some rfl rfl rfl) rfl rfl ?_
     refine WL.val (v_add rfl rfl rfl (w_i64 (by omega) (by omega))) (.some rfl rfl rfl) rfl rfl ?_
     refine WL.val (v_indexAddr (lo := k + 1) rfl rfl rfl Tryd.underlying22 sz_5 (by omega) (by omega)) (.some rfl rfl rfl) rfl rfl ?_
     refine WL.val (v_load1 rfl rfl one_5 (cellOld (fun h => h) (hW.get hnx))) (.some rfl rfl rfl) rfl rfl ?_
     refine WL.test (v_eql rfl rfl rfl) (.some rfl rfl rfl) rfl rfl (fun h34 => ?_) (fun h34 => ?_)
     ·
      refine WL.val (v_pick_f rfl rfl rfl) (.none rfl) rfl rfl ?_
      refine WL.val (v_move rfl rfl) (.none rfl) rfl rfl ?_
      refine WL.skip rfl rfl rfl rfl rfl rfl ?_
      refine WL.skip rfl rfl rfl rfl rfl rfl ?_
      refine WL.skip rfl rfl rfl rfl rfl rfl ?_
      refine WL.skip rfl rfl rfl rfl rfl rfl ?_
      refine WL.skip rfl rfl rfl rfl rfl rfl ?_
      refine WL.skip rfl rfl rfl rfl rfl rfl ?_
      refine WL.skip rfl rfl rfl rfl rfl rfl ?_
      refine WL.skip rfl rfl rfl rfl rfl rfl ?_
      refine WL.skip rfl rfl rfl rfl rfl rfl ?_
      refine WL.skip rfl rfl rfl rfl rfl rfl ?_
      refine WL.skip rfl rfl rfl rfl rfl rfl ?_
      refine WL.skip rfl rfl rfl rfl rfl rfl ?_
      refine WL.skip rfl rfl rfl rfl rfl rfl ?_
      refine WL.val (v_pick_t rfl rfl rfl) (.none rfl) rfl rfl ?_
      refine WL.nil ?_
      refine WE.then_n ?_
      refine WC.cond_t rfl ?_
      refine WC.seq ?_
      refine WC.region ?_
      refine WL.val (v_assign rfl rfl) (.none rfl) rfl rfl ?_
      refine WL.val (v_assign rfl rfl) (.none rfl) rfl rfl ?_
      refine WL.nil ?_
      refine WE.then_n ?_
      refine WC.ret ?_
      refine WE.then_ret ?_
      refine WE.block_ret ?_
      refine WE.then_ret ?_
      refine WE.block_ret ?_
      refine WE.then_ret ?_
      refine WE.ret2 (P := Tryd.prog) (.inl rfl) Tryd.results67 rfl rfl ?_
      have e0 : partsR v = none := (by
        rw [hp, partsR_no (segBD_zero (.inl (by rw [asL_len]; omega)))]; rfl)
      exact fun w' h => PartsP.no e0 h
     ·
      refine WL.val (v_pick_f rfl rfl rfl) (.none rfl) rfl rfl ?_
      refine WL.val (v_move rfl rfl) (.none rfl) rfl rfl ?_
      refine WL.val (v_move rfl rfl) (.some rfl rfl rfl) rfl rfl ?_
      refine WL.val (v_add rfl rfl rfl (w_i64 (by omega) (by omega))) (.some rfl rfl rfl) rfl rfl ?_
      refine WL.val (v_move rfl rfl) (.some rfl rfl rfl) rfl rfl ?_
      refine WL.val (v_move rfl rfl) (.some rfl rfl rfl) rfl rfl ?_
      refine WL.val (v_add rfl rfl rfl (w_i64 (by omega) (by omega))) (.some rfl rfl rfl) rfl rfl ?_
      refine WL.val (v_indexAddr (lo := k + 1) rfl rfl rfl Tryd.underlying22 sz_5 (by omega) (by omega)) (.some rfl rfl rfl) rfl rfl ?_
      refine WL.val (v_load1 rfl rfl one_5 (cellOld (fun h => h) (hW.get hnx))) (.some rfl rfl rfl) rfl rfl ?_
      refine WL.val (v_conv rfl rfl Tryd.underlying3 Tryd.underlying5 (w_i64 (by omega) (by omega))) (.some rfl rfl rfl) rfl rfl ?_
      refine WL.val (v_mul rfl rfl rfl (w_i64 (by omega) (by omega))) (.some rfl rfl rfl) rfl rfl ?_
      refine WL.val (v_add rfl rfl rfl (w_i64 (by omega) (by omega))) (.some rfl rfl rfl) rfl rfl ?_
      refine WL.val (v_move rfl rfl) (.some rfl rfl rfl) rfl rfl ?_
      refine WL.val (v_len_slice rfl rfl Tryd.underlying22) (.some rfl rfl rfl) rfl rfl ?_
      refine WL.test (v_gtr rfl rfl rfl) (.some rfl rfl rfl) rfl rfl (fun h49 => ?_) (fun h49 => ?_)
      ·
       refine WL.val (v_pick_f rfl rfl rfl) (.none rfl) rfl rfl ?_
       refine WL.nil ?_
       refine WE.then_n ?_
       refine WC.cond_t rfl ?_
       refine WC.seq ?_
       refine WC.region ?_
       refine WL.val (v_assign rfl rfl) (.none rfl) rfl rfl ?_
       refine WL.val (v_assign rfl rfl) (.none rfl) rfl rfl ?_
       refine WL.nil ?_
       refine WE.then_n ?_
       refine WC.ret ?_
       refine WE.then_ret ?_
       refine WE.block_ret ?_
       refine WE.then_ret ?_
       refine WE.block_ret ?_
       refine WE.then_ret ?_
       refine WE.ret2 (P := Tryd.prog) (.inl rfl) Tryd.results67 rfl rfl ?_
       have e0 : partsR v = none := (by
         rw [hp, partsR_bad (.inr (by rw [List.length_drop]; omega))]; rfl)
       exact fun w' h => PartsP.no e0 h
      ·
       refine WL.val (v_pick_f rfl rfl rfl) (.none rfl) rfl rfl ?_
       refine WL.nil ?_
       refine WE.then_n ?_
       refine WC.cond_f rfl ?_
       refine WC.skip ?_
       refine WE.then_n ?_
       refine WC.seq ?_
       refine WC.region ?_
       refine WL.val (v_move rfl rfl) (.none rfl) rfl rfl ?_
       refine WL.val (v_move rfl rfl) (.none rfl) rfl rfl ?_
       refine WL.val (v_indexAddr (lo := k) rfl rfl rfl Tryd.underlying22 sz_5 (by omega) (by omega)) (.none rfl) rfl rfl ?_
       refine WL.val (v_load1 rfl rfl one_5 (cellOld (fun h => h) (hW.get hx))) (.none rfl) rfl rfl ?_
       refine WL.val (v_eql rfl rfl rfl) (.none rfl) rfl rfl ?_
       refine WL.val (v_build rfl rfl zero_140 plc_140 rfl) (.none rfl) rfl rfl ?_
       refine WL.alloc rfl zero_140 (.none rfl) rfl rfl ?_
       intro g6 hg6
       refine WL.storeW rfl rfl rfl rfl many_140 rfl rfl (.none rfl) rfl ?_
       refine WL.as (L' := .row g6 [.bool (decide (x = 1)), .slice none 0 0] :: (E ++ KO)) rfl ?_
       refine WL.nil ?_
       refine WE.then_n ?_
       refine WC.seq ?_
       refine WC.seq ?_
       refine WC.region ?_
       refine WL.val (v_assign rfl rfl) (.none rfl) rfl rfl ?_
       refine WL.nil ?_
       refine WE.then_n ?_
       refine WC.block ?_
       refine WC.loop (fun y : Nat × Option Addr × Nat × List Ent => [(7, .int .i64 y.1), (6, .pointer (some ⟨g6, 0, none⟩)), (5, .int .i64 k), (4, .slice ad ss.length c), (0, .slice (some ⟨b, o, none⟩) v.length cv)]) (fun y => y.2.2.2 ++ (.row g6 [.bool (decide (x = 1)), .slice y.2.1 y.1 y.2.2.1] :: (E ++ KO))) (fun y => y.1 ≤ m ∧ Vec 1 y.2.1 y.1 y.2.2.1 (i64s (asL (v.drop (k + 2)) y.1)) y.2.2.2 ∧ ∀ z ∈ asL (v.drop (k + 2)) y.1, z ≠ 0) (fun y => m - y.1) (0, none, 0, []) ⟨Nat.zero_le _, Vec.nil 1, fun z hz => by cases hz⟩ (.cons rfl (.cons rfl (.cons rfl (.cons rfl (.cons rfl .nil))))) (.refl _) ?_
       rintro ⟨i, fd, fc, F⟩ ⟨hi, hF, hnz⟩
       dsimp only at hi hF hnz
       dsimp only
       refine WC.seq ?_
       refine WC.seq ?_
       refine WC.region ?_
       refine WL.val (v_move rfl rfl) (.none rfl) rfl rfl ?_
       refine WL.val (v_move rfl rfl) (.none rfl) rfl rfl ?_
       refine WL.val (v_move rfl rfl) (.none rfl) rfl rfl ?_
       refine WL.val (v_add rfl rfl rfl (w_i64 (by omega) (by omega))) (.none rfl) rfl rfl ?_
       refine WL.val (v_indexAddr (lo := k + 1) rfl rfl rfl Tryd.underlying22 sz_5 (by omega) (by omega)) (.none rfl) rfl rfl ?_
       refine WL.val (v_load1 rfl rfl one_5 (cellOld (fun h => h) (hW.get hnx))) (.none rfl) rfl rfl ?_
       refine WL.val (v_conv rfl rfl Tryd.underlying3 Tryd.underlying5 (w_i64 (by omega) (by omega))) (.none rfl) rfl rfl ?_
       refine WL.test (v_lss rfl rfl rfl) (.none rfl) rfl rfl (fun h64 => ?_) (fun h64 => ?_)
       ·
        refine WL.nil ?_
        refine WE.then_n ?_
        refine WC.cond_t rfl ?_
        refine WC.skip ?_
        refine WE.then_n ?_
        refine WC.seq ?_
        refine WC.block ?_
        refine WC.seq ?_
        refine WC.region ?_
        have hln : 2 * (i + 1) ≤ (v.drop (k + 2)).length := (by rw [List.length_drop]; omega)
        refine WL.val (v_move rfl rfl) (.none rfl) rfl rfl ?_
        refine WL.val (v_move rfl rfl) (.none rfl) rfl rfl ?_
        refine WL.val (v_add rfl rfl rfl (w_i64 (by omega) (by omega))) (.none rfl) rfl rfl ?_
        refine WL.val (v_move rfl rfl) (.none rfl) rfl rfl ?_
        refine WL.val (v_mul rfl rfl rfl (w_i64 (by omega) (by omega))) (.none rfl) rfl rfl ?_
        refine WL.val (v_add rfl rfl rfl (show _ = ((k + 2 + 2 * i : Nat) : Int) from (w_i64 (by omega) (by omega)).trans (by omega))) (.none rfl) rfl rfl ?_
        refine WL.val (v_move rfl rfl) (.none rfl) rfl rfl ?_
        refine WL.val (v_add rfl rfl rfl (w_i64 (by omega) (by omega))) (.none rfl) rfl rfl ?_
        refine WL.val (v_move rfl rfl) (.none rfl) rfl rfl ?_
        refine WL.val (v_mul rfl rfl rfl (w_i64 (by omega) (by omega))) (.none rfl) rfl rfl ?_
        refine WL.val (v_add rfl rfl rfl (show _ = ((k + 2 + 2 * i + 2 : Nat) : Int) from (w_i64 (by omega) (by omega)).trans (by omega))) (.none rfl) rfl rfl ?_
        refine WL.val ((v_slice_lh (lo := k + 2 + 2 * i) (hi := k + 2 + 2 * i + 2) rfl rfl rfl rfl Tryd.underlying22 sz_5 rfl rfl (by omega) (by omega))) (.none rfl) rfl rfl ?_
        refine WL.call rfl rfl ck_65 (.none rfl) rfl rfl ?_
        intro w hS
        refine Calls.then ((hW.st hS).numd (k + 2 + 2 * i) (by omega)) hS ?_
        refine WL.val (v_assign rfl rfl) (.none rfl) rfl rfl ?_
        refine WL.nil ?_
        refine WE.then_n ?_
        refine WC.seq ?_
        refine WC.seq ?_
        refine WC.region ?_
        refine WL.val (v_move rfl rfl) (.none rfl) rfl rfl ?_
        have hel : readI ((v.drop (k + 2 + 2 * i)).take 2) = readI (((v.drop (k + 2)).drop (2 * i)).take 2) := (by rw [List.drop_drop])
        refine WL.test (v_eql rfl rfl rfl) (.none rfl) rfl rfl (fun h81 => ?_) (fun h81 => ?_)
        ·
         refine WL.nil ?_
         refine WE.then_n ?_
         refine WC.cond_t rfl ?_
         refine WC.seq ?_
         refine WC.region ?_
         refine WL.val (v_assign rfl rfl) (.none rfl) rfl rfl ?_
         refine WL.val (v_assign rfl rfl) (.none rfl) rfl rfl ?_
         refine WL.nil ?_
         refine WE.then_n ?_
         refine WC.ret ?_
         refine WE.then_ret ?_
         refine WE.block_ret ?_
         refine WE.then_ret ?_
         refine WE.then_ret ?_
         refine WE.block_ret ?_
         refine WE.then_ret ?_
         refine WE.block_ret ?_
         refine WE.then_ret ?_
         refine WE.block_ret ?_
         refine WE.then_ret ?_
         refine WE.ret2 (P := Tryd.prog) (.inl rfl) Tryd.results67 rfl rfl ?_
         have e0 : partsR v = none := (by
           rw [hp, partsR_no (segBD_zero (.inr (by unfold asL; exact List.mem_map.2 ⟨i, List.mem_range.2 (by omega), by rw [← hel]; exact h81⟩)))]; rfl)
         exact fun w' h => PartsP.no e0 h
        ·
         refine WL.nil ?_
         refine WE.then_n ?_
         refine WC.cond_f rfl ?_
         refine WC.skip ?_
         refine WE.then_n ?_
         refine WC.region ?_
         refine WL.val (v_fieldAddr0 rfl rfl fld_140_1) (.none rfl) rfl rfl ?_
         refine WL.val (v_load1 rfl rfl one_38 (cellAt rfl)) (.none rfl) rfl rfl ?_
         refine WL.val (v_move rfl rfl) (.none rfl) rfl rfl ?_
         refine WL.buildSlice rfl rfl Tryd.underlying38 sz_3 zero_3 rfl (by decide) rfl (.none rfl) rfl rfl ?_
         intro g85 hg85
         refine WL.to (L' := F ++ (.row g85 [.int .i64 (readI ((v.drop (k + 2 + 2 * i)).take 2))] :: .row g6 [.bool (decide (x = 1)), .slice fd i fc] :: (E ++ KO))) (fun w hS => by simpa using St.front (R := F) (L := .row g6 [.bool (decide (x = 1)), .slice fd i fc] :: (E ++ KO)) [.row g85 [.int .i64 (readI ((v.drop (k + 2 + 2 * i)).take 2))]] hS) ?_
         refine WL.appendL rfl rfl rfl Tryd.underlying38 Tryd.underlying38 sz_3 by_3 zero_3 rfl rfl hF (new := [.int .i64 (readI ((v.drop (k + 2 + 2 * i)).take 2))]) (fun _ => ⟨g85, 0, rfl, fun w hS => allAt (g := g85) w hS⟩) rfl rfl (by omega) (.none rfl) rfl rfl ?_
         intro ad86 c86 E86 hV86 hr86
         rw [show i64s (asL (v.drop (k + 2)) i) ++ [.int .i64 (readI ((v.drop (k + 2 + 2 * i)).take 2))] = i64s (asL (v.drop (k + 2)) (i + 1)) by rw [asL_snoc, i64s_app, hel]; rfl] at hV86
         refine WL.val (v_fieldAddr0 rfl rfl fld_140_1) (.none rfl) rfl rfl ?_
         refine WL.store1 rfl rfl rfl rfl one_38 (Nat.le_of_ble_eq_true rfl) (.none rfl) rfl ?_
         refine WL.as (L' := E86 ++ (.row g85 [.int .i64 (readI ((v.drop (k + 2 + 2 * i)).take 2))] :: .row g6 [.bool (decide (x = 1)), .slice ad86 (i + 1) c86] :: (E ++ KO))) rfl ?_
         refine WL.nil ?_
         refine WE.block_n ?_
         refine WE.then_n ?_
         refine WC.region ?_
         refine WL.val (v_move rfl rfl) (.none rfl) rfl rfl ?_
         refine WL.val (v_add rfl rfl rfl (w_i64 (by omega) (by omega))) (.none rfl) rfl rfl ?_
         refine WL.val (v_assign rfl rfl) (.none rfl) rfl rfl ?_
         refine WL.nil ?_
         exact WE.next (i + 1, ad86, c86, E86) (by dsimp only; omega) ⟨by dsimp only; omega, hV86, fun z hz => by
         dsimp only at hz
         rw [asL_snoc] at hz
         rcases List.mem_append.1 hz with hz | hz
         · exact hnz z hz
         · rw [← hel] at hz
           rw [List.mem_singleton.1 hz]; exact h81⟩ (.int rfl (by dsimp only; omega) (.cons rfl (.cons rfl (.cons rfl (.cons rfl .nil))))) (List.Sublist.append_left (.cons _ (.refl _)) _)
       ·
        refine WL.nil ?_
        refine WE.then_n ?_
        refine WC.cond_f rfl ?_
        refine WC.exit ?_
        refine WE.then_exit ?_
        refine WE.then_exit ?_
        refine WE.block_hit ?_
        refine WE.then_n ?_
        refine WC.seq ?_
        refine WC.region ?_
        have him : i = m := (by omega)
        rw [him] at hF hnz
        rw [him]
        have hlm : 2 * m ≤ (v.drop (k + 2)).length := (by rw [List.length_drop]; omega)
        have hab := asL_b (zs := v.drop (k + 2)) (fun y hy => hW.bys y (List.mem_of_mem_drop hy)) hlm
        have hsb : segBD (decide (x = 1), asL (v.drop (k + 2)) m) = true := segBD_of (by rw [asL_len]; omega) (by rw [asL_len]; omega) fun z hz => ⟨hnz z hz, hab z hz⟩
        have hpo := partsR_ok (x := x) (n := (m : Int)) (zs := v.drop (k + 2)) (by
          rintro (h | h)
          · have := of_decide_eq_true hq; omega
          · omega) hsb
        obtain ⟨s, hs⟩ : ∃ s : SegL, s = ⟨decide (x = 1), fd, fc, asL (v.drop (k + 2)) m⟩ := ⟨_, rfl⟩
        have hsc : [Value.bool (decide (x = 1)), .slice fd m fc] = s.cells := (by rw [hs]; unfold SegL.cells; dsimp only; rw [asL_len])
        have hsd : segD s = (decide (x = 1), asL (v.drop (k + 2)) m) := (by rw [hs]; rfl)
        have hso : Vec 1 s.ad s.asl.length s.cap (i64s s.asl) F := (by rw [hs]; dsimp only; rw [asL_len]; exact hF)
        refine WL.val (v_move rfl rfl) (.none rfl) rfl rfl ?_
        refine WL.val (v_loadN rfl rfl many_140 rfl allAt) (.none rfl) rfl rfl ?_
        refine WL.buildSlice rfl rfl Tryd.underlying48 sz_140 zero_140 rfl (by decide) rfl (.none rfl) rfl rfl ?_
        intro g90 hg90
        refine WL.rowAs (g := g90) (cs' := s.cells) hsc ?_
        refine WL.to (L' := E ++ (.row g90 s.cells :: .row g6 [.bool (decide (x = 1)), .slice fd m fc] :: (F ++ KO))) (fun w hS => hS.permC (by intro c h1 h2 h3 e; simp only [h1, h2, h3]; omega)) ?_
        refine WL.appendL rfl rfl rfl Tryd.underlying48 Tryd.underlying48 sz_140 by_140 zero_140 rfl rfl hV (new := s.cells) (fun _ => ⟨g90, 0, rfl, fun w hS => allAt (g := g90) w hS⟩) rfl rfl (by omega) (.none rfl) rfl rfl ?_
        intro ad91 c91 E91 hV91 hr91
        rw [← segsL_snoc, show ss.length + 1 = (ss ++ [s]).length by rw [List.length_append]; rfl] at hV91
        rw [show ss.length + 1 = (ss ++ [s]).length by rw [List.length_append]; rfl]
        refine WL.val (v_assign rfl rfl) (.none rfl) rfl rfl ?_
        refine WL.nil ?_
        refine WE.then_n ?_
        refine WC.region ?_
        refine WL.val (v_move rfl rfl) (.none rfl) rfl rfl ?_
        refine WL.val (v_fieldAddr0 rfl rfl fld_140_1) (.none rfl) rfl rfl ?_
        refine WL.val (v_load1 rfl rfl one_38 (cellAt rfl)) (.none rfl) rfl rfl ?_
        refine WL.val (v_len_slice rfl rfl Tryd.underlying38) (.none rfl) rfl rfl ?_
        refine WL.val (v_mul rfl rfl rfl (w_i64 (by omega) (by omega))) (.none rfl) rfl rfl ?_
        refine WL.val (v_add rfl rfl rfl (w_i64 (by omega) (by omega))) (.none rfl) rfl rfl ?_
        refine WL.val (v_add rfl rfl rfl (show _ = ((k + 2 + 2 * m : Nat) : Int) from (w_i64 (by omega) (by omega)).trans (by omega))) (.none rfl) rfl rfl ?_
        refine WL.val (v_assign rfl rfl) (.none rfl) rfl rfl ?_
        refine WL.nil ?_
        refine WE.block_n ?_
        exact WE.next ⟨k + 2 + 2 * m, ss ++ [s], ad91, c91, E91, F ++ KO⟩ (by dsimp only; omega) ⟨by dsimp only; omega, by
        dsimp only
        rw [hp, hpo, Int.toNat_natCast, List.drop_drop, List.map_append]
        cases partsR (v.drop (k + 2 + 2 * m)) with
        | none => rfl
        | some q =>
          show some (_ ++ _ :: q) = some ((_ ++ [segD s]) ++ q)
          rw [hsd, List.append_assoc]; rfl, hV91, by dsimp only; rw [List.length_append]; show ss.length + 1 ≤ _; omega, fun t ht => by
        dsimp only at ht
        rcases List.mem_append.1 ht with ht | ht
        · obtain ⟨E', r1, r2⟩ := hO t ht
          exact ⟨E', r1, fun e he => List.mem_append_right _ (r2 e he)⟩
        · rw [List.mem_singleton.1 ht]
          exact ⟨F, hso, fun e he => List.mem_append_left _ he⟩⟩ (.cons rfl (.cons rfl (.cons rfl .nil))) (List.Sublist.append_left (.cons _ (.cons _ (.refl _))) _)
  ·
   refine WL.nil ?_
   refine WE.then_n ?_
   refine WC.cond_f rfl ?_
   refine WC.exit ?_
   refine WE.then_exit ?_
   refine WE.then_exit ?_
   refine WE.block_hit ?_
   refine WE.then_n ?_
   refine WC.seq ?_
   refine WC.region ?_
   refine WL.val (v_move rfl rfl) (.none rfl) rfl rfl ?_
   refine WL.val (v_assign rfl rfl) (.none rfl) rfl rfl ?_
   refine WL.val (v_assign rfl rfl) (.none rfl) rfl rfl ?_
   refine WL.nil ?_
   refine WE.then_n ?_
   refine WC.ret ?_
   refine WE.ret2 (P := Tryd.prog) (.inl rfl) Tryd.results67 rfl rfl ?_
   have e0 : partsR v = some (ss.map segD) := (by
     rw [hp, List.drop_eq_nil_of_le (by omega), partsR_nil]
     show some (_ ++ []) = _
     rw [List.append_nil])
   exact fun w' h => by
     unfold PartsP
     rw [e0]
     exact ⟨ss, ad, c, E, KO, rfl, rfl, hV, hO, h⟩
end Go.Proofs.YtpjbofodllhjbaaDoor
/- The reference's bits: carrefourref01.Num. -/
namespace Go.Proofs.YtpjbofodllhjbaaDoor
open Go.RowKit

/-- The number of bits. -/
def bitsN (bs : List Int) : Int := bs.foldl (fun n b => 2 * n + b) 0
def Bits (bs : List Int) : Prop := ∀ b ∈ bs, b = 0 ∨ b = 1
theorem bitsN_snoc (bs : List Int) (b : Int) : bitsN (bs ++ [b]) = 2 * bitsN bs + b := by unfold bitsN; rw [List.foldl_append]; rfl
theorem bitsN_app (xs : List Int) : ∀ ys : List Int, bitsN (xs ++ ys) = bitsN xs * 2 ^ ys.length + bitsN ys := by
  intro ys
  suffices h : ∀ (k : Nat) (ys : List Int), ys.length = k → bitsN (xs ++ ys) = bitsN xs * 2 ^ ys.length + bitsN ys from h _ ys rfl
  intro k
  induction k with
  | zero =>
    intro ys h
    rw [List.length_eq_zero_iff.1 h, List.append_nil]
    show _ = bitsN xs * 1 + 0
    omega
  | succ k ih =>
    intro ys h
    have hne : ys ≠ [] := fun e => by rw [e] at h; cases h
    obtain ⟨zs, z, rfl⟩ : ∃ zs z, ys = zs ++ [z] := ⟨ys.dropLast, ys.getLast hne, (List.dropLast_concat_getLast hne).symm⟩
    rw [List.length_append, List.length_cons, List.length_nil] at h
    have e := ih zs (by omega)
    have e2 : bitsN xs * (2 ^ zs.length * 2) = 2 * (bitsN xs * 2 ^ zs.length) := by rw [← Int.mul_assoc, Int.mul_comm]
    rw [← List.append_assoc, bitsN_snoc, bitsN_snoc, e, List.length_append, List.length_singleton, Int.pow_succ, e2]
    omega
theorem bitsN_b {bs : List Int} (h : Bits bs) : 0 ≤ bitsN bs ∧ bitsN bs < 2 ^ bs.length := by
  suffices hh : ∀ (k : Nat) (bs : List Int), bs.length = k → Bits bs → 0 ≤ bitsN bs ∧ bitsN bs < (2 : Int) ^ k from hh _ bs rfl h
  intro k
  induction k with
  | zero => intro ys h _; rw [List.length_eq_zero_iff.1 h]; decide
  | succ k ih =>
    intro ys h hB
    have hne : ys ≠ [] := fun e => by rw [e] at h; cases h
    obtain ⟨zs, z, rfl⟩ : ∃ zs z, ys = zs ++ [z] := ⟨ys.dropLast, ys.getLast hne, (List.dropLast_concat_getLast hne).symm⟩
    rw [List.length_append, List.length_cons, List.length_nil] at h
    have h1 := ih zs (by omega) (fun x hx => hB x (List.mem_append_left _ hx))
    have h2 := hB z (List.mem_append_right _ (List.mem_cons_self ..))
    rw [bitsN_snoc, Int.pow_succ]
    omega
set_option maxHeartbeats 1000000 in
theorem RNum01_c (w : World) (b o c : Nat) (bs : List Int) (hr : w.rangeAt b o (i64s bs)) (hB : Bits bs) (hn : bs.length ≤ 32) :
    Calls Tryd.prog 64 #[.slice (some ⟨b, o, none⟩) bs.length c] w fun e w' => e = .returned (.int .u32 (bitsN bs)) ∧ Frm (fun _ => False) w w' := by
  refine enter Tryd.func64 rfl Tryd.ntmps64 rfl (St.start (fun _ => False) w) ?_
  refine WC.seq ?_
  refine WC.region ?_
  refine WL.val (v_assign rfl rfl) (.none rfl) rfl rfl ?_
  refine WL.nil ?_
  refine WE.then_n ?_
  refine WC.seq ?_
  refine WC.region ?_
  refine WL.val (v_assign rfl rfl) (.none rfl) rfl rfl ?_
  refine WL.nil ?_
  refine WE.then_n ?_
  refine WC.seq ?_
  refine WC.seq ?_
  refine WC.region ?_
  refine WL.val (v_move rfl rfl) (.none rfl) rfl rfl ?_
  refine WL.val (v_len_slice rfl rfl Tryd.underlying38) (.none rfl) rfl rfl ?_
  refine WL.val (v_move rfl rfl) (.none rfl) rfl rfl ?_
  refine WL.nil ?_
  refine WE.then_n ?_
  refine WC.block ?_
  refine WC.loop (fun k : Nat => [(8, .int .i64 k), (7, .int .i64 bs.length), (6, .slice (some ⟨b, o, none⟩) bs.length c), (3, .int .u32 (bitsN (bs.take k)))]) (fun _ => []) (fun k => k ≤ bs.length) (fun k => bs.length - k) 0 (Nat.zero_le _) (.cons rfl (.cons rfl (.cons rfl (.cons rfl .nil)))) (.refl _) ?_
  intro k hk
  refine WC.seq ?_
  refine WC.region ?_
  refine WL.test (v_lss rfl rfl rfl) (.none rfl) rfl rfl (fun h9 => ?_) (fun h9 => ?_)
  ·
   refine WL.nil ?_
   refine WE.then_n ?_
   refine WC.seq ?_
   refine WC.cond_t rfl ?_
   refine WC.skip ?_
   refine WE.then_n ?_
   refine WC.seq ?_
   refine WC.block ?_
   refine WC.seq ?_
   refine WC.region ?_
   obtain ⟨x, hx⟩ : ∃ x, bs[k]? = some x := ⟨bs[k]'(by omega), List.getElem?_eq_getElem _⟩
   have hxb := hB x (List.mem_of_getElem? hx)
   have htl : (bs.take k).length = k := (by rw [List.length_take]; exact Nat.min_eq_left (by omega))
   have hrb := bitsN_b (bs := bs.take k) (fun x hx => hB x (List.mem_of_mem_take hx))
   rw [htl] at hrb
   have hp : (2 : Int) ^ k ≤ 2 ^ 31 := (by
     have h := Nat.pow_le_pow_right (n := 2) (by decide) (show k ≤ 31 by omega)
     exact_mod_cast h)
   have hp5 : (2 : Int) ^ 31 = 2147483648 := (by decide)
   have hsn : bitsN (bs.take (k + 1)) = 2 * bitsN (bs.take k) + x := (by rw [take_succ_get hx, bitsN_snoc])
   refine WL.val (v_indexAddr (lo := k) rfl rfl rfl Tryd.underlying38 sz_3 (by omega) (by omega)) (.none rfl) rfl rfl ?_
   refine WL.val (v_load1 rfl rfl one_3 (cellOld (fun h => h) (rgOne hr (i64s_get hx)))) (.none rfl) rfl rfl ?_
   refine WL.val (v_assign rfl rfl) (.none rfl) rfl rfl ?_
   refine WL.nil ?_
   refine WE.then_n ?_
   refine WC.region ?_
   refine WL.val (v_move rfl rfl) (.none rfl) rfl rfl ?_
   refine WL.val (v_mul rfl rfl rfl (w_u32 (by omega) (by omega))) (.none rfl) rfl rfl ?_
   refine WL.val (v_move rfl rfl) (.none rfl) rfl rfl ?_
   refine WL.val (v_conv rfl rfl Tryd.underlying33 Tryd.underlying3 (by first | exact w_u32 (by omega) (by omega) | exact w_u32m _)) (.none rfl) rfl rfl ?_
   refine WL.val (v_add rfl rfl rfl (show _ = bitsN (bs.take (k + 1)) from by rw [hsn]; exact (w_u32 (by omega) (by omega)).trans (by omega))) (.none rfl) rfl rfl ?_
   refine WL.val (v_assign rfl rfl) (.none rfl) rfl rfl ?_
   refine WL.nil ?_
   refine WE.block_n ?_
   refine WE.then_n ?_
   refine WC.region ?_
   refine WL.val (v_add rfl rfl rfl (w_i64 (by omega) (by omega))) (.none rfl) rfl rfl ?_
   refine WL.val (v_move rfl rfl) (.none rfl) rfl rfl ?_
   refine WL.nil ?_
   exact WE.next (k + 1) (by omega) (by omega) (.int rfl (by omega) (.cons rfl (.cons rfl (.cons rfl .nil)))) (.refl _)
  ·
   refine WL.nil ?_
   refine WE.then_n ?_
   refine WC.seq ?_
   refine WC.cond_f rfl ?_
   refine WC.exit ?_
   refine WE.then_exit ?_
   refine WE.then_exit ?_
   refine WE.block_hit ?_
   refine WE.then_n ?_
   refine WC.seq ?_
   refine WC.region ?_
   refine WL.val (v_move rfl rfl) (.none rfl) rfl rfl ?_
   refine WL.val (v_assign rfl rfl) (.none rfl) rfl rfl ?_
   refine WL.nil ?_
   refine WE.then_n ?_
   refine WC.ret ?_
   refine WE.ret1 (P := Tryd.prog) (.inl rfl) Tryd.results64 rfl ?_
   obtain rfl : k = bs.length := (by omega)
   exact fun w' h => ⟨by rw [List.take_length], h.frm⟩
end Go.Proofs.YtpjbofodllhjbaaDoor
/- The reference's prefixes: what its bits say, plainly. -/
namespace Go.Proofs.YtpjbofodllhjbaaDoor
open Go.RowKit

/-- The last bits of a number. -/
def lowB (x : Int) : Nat → List Int
  | 0 => []
  | i + 1 => (x / 2 ^ i % 2) :: lowB x i
theorem lowB_len (x : Int) : ∀ i, (lowB x i).length = i
  | 0 => rfl
  | i + 1 => by rw [lowB, List.length_cons, lowB_len x i]
theorem lowB_bits (x : Int) : ∀ i, Bits (lowB x i)
  | 0 => fun b h => by cases h
  | i + 1 => fun b h => by
    rw [lowB] at h
    rcases List.mem_cons.1 h with rfl | h
    · omega
    · exact lowB_bits x i b h
theorem bitsN_low {x : Int} (h : 0 ≤ x ∧ x ≤ 255) : bitsN (lowB x 8) = x := by
  show 2 * (2 * (2 * (2 * (2 * (2 * (2 * (2 * 0 + x / 2 ^ 7 % 2) + x / 2 ^ 6 % 2) + x / 2 ^ 5 % 2) + x / 2 ^ 4 % 2) + x / 2 ^ 3 % 2) + x / 2 ^ 2 % 2) + x / 2 ^ 1 % 2) + x / 2 ^ 0 % 2 = x
  omega
def bytesB (zs : List Int) : List Int := zs.flatMap fun x => lowB x 8
theorem bytesB_len (zs : List Int) : (bytesB zs).length = 8 * zs.length := by
  induction zs with
  | nil => rfl
  | cons z zs ih => unfold bytesB at ih ⊢; rw [List.flatMap_cons, List.length_append, ih, lowB_len, List.length_cons]; omega
theorem bytesB_bits (zs : List Int) : Bits (bytesB zs) := fun b h => by
  obtain ⟨z, _, hz⟩ := List.mem_flatMap.1 h
  exact lowB_bits z 8 b hz
theorem Bits.app {xs ys : List Int} (h1 : Bits xs) (h2 : Bits ys) : Bits (xs ++ ys) := fun b h => (List.mem_append.1 h).elim (h1 b) (h2 b)
theorem Bits.zeros (n : Nat) : Bits (List.replicate n 0) := fun _ h => .inl (List.eq_of_mem_replicate h)
theorem bitsN_zeros : ∀ n : Nat, bitsN (List.replicate n 0) = 0
  | 0 => rfl
  | n + 1 => by rw [List.replicate_succ', bitsN_snoc, bitsN_zeros n]; rfl
/-- 32 bits of at most four bytes. -/
def b32 (zs : List Int) : List Int := bytesB zs ++ List.replicate (32 - 8 * zs.length) 0
theorem b32_len {zs : List Int} (h : zs.length ≤ 4) : (b32 zs).length = 32 := by unfold b32; rw [List.length_append, bytesB_len, List.length_replicate]; omega
theorem b32_bits (zs : List Int) : Bits (b32 zs) := (bytesB_bits zs).app (Bits.zeros _)
theorem b32_num {zs : List Int} (hB : Bys zs) (h : zs.length ≤ 4) : bitsN (b32 zs) = addrI zs := by
  unfold b32
  rw [bitsN_app, bitsN_zeros, List.length_replicate, Int.add_zero]
  match zs, h with
  | [], _ => rfl
  | [a], _ =>
    have ha := bitsN_low (hB a (by simp))
    rw [show bytesB [a] = lowB a 8 from List.append_nil _, ha]
    show a * 2 ^ 24 = a * 16777216 + 0 * 65536 + 0 * 256 + 0
    omega
  | [a, b], _ =>
    have ha := bitsN_low (hB a (by simp))
    have hb := bitsN_low (hB b (by simp))
    rw [show bytesB [a, b] = lowB a 8 ++ lowB b 8 by unfold bytesB; simp, bitsN_app, ha, hb, lowB_len]
    show (a * 2 ^ 8 + b) * 2 ^ 16 = a * 16777216 + b * 65536 + 0 * 256 + 0
    omega
  | [a, b, c], _ =>
    have ha := bitsN_low (hB a (by simp))
    have hb := bitsN_low (hB b (by simp))
    have hc := bitsN_low (hB c (by simp))
    rw [show bytesB [a, b, c] = lowB a 8 ++ lowB b 8 ++ lowB c 8 by unfold bytesB; simp, bitsN_app, bitsN_app, ha, hb, hc, lowB_len, lowB_len]
    show ((a * 2 ^ 8 + b) * 2 ^ 8 + c) * 2 ^ 8 = a * 16777216 + b * 65536 + c * 256 + 0
    omega
  | [a, b, c, d], _ =>
    have ha := bitsN_low (hB a (by simp))
    have hb := bitsN_low (hB b (by simp))
    have hc := bitsN_low (hB c (by simp))
    have hd := bitsN_low (hB d (by simp))
    rw [show bytesB [a, b, c, d] = lowB a 8 ++ lowB b 8 ++ lowB c 8 ++ lowB d 8 by unfold bytesB; simp, bitsN_app, bitsN_app, bitsN_app, ha, hb, hc, hd, lowB_len, lowB_len, lowB_len]
    show (((a * 2 ^ 8 + b) * 2 ^ 8 + c) * 2 ^ 8 + d) * 2 ^ 0 = a * 16777216 + b * 65536 + c * 256 + d
    omega
/-- The bits behind the length are zero: the address is cut. -/
theorem cut_bits {zs : List Int} (hB : Bys zs) (h : zs.length ≤ 4) (n : Nat) (hn : n ≤ 32) : bitsN ((b32 zs).take n ++ List.replicate (32 - n) 0) = cutI (addrI zs) n := by
  rw [← b32_num hB h]
  have hl := b32_len h
  have e := bitsN_app ((b32 zs).take n) ((b32 zs).drop n)
  rw [List.take_append_drop, List.length_drop, hl] at e
  have hb := bitsN_b (bs := (b32 zs).drop n) fun b hb => b32_bits zs b (List.mem_of_mem_drop hb)
  rw [List.length_drop, hl] at hb
  rw [bitsN_app, bitsN_zeros, List.length_replicate, Int.add_zero]
  unfold cutI
  have hi : inI (n : Int) = n := by unfold inI; omega
  rw [hi, show (32 - (n : Int)).toNat = 32 - n by omega, show (((2 ^ (32 - n) : Nat)) : Int) = (2 : Int) ^ (32 - n) by simp]
  rw [e]
  generalize (2 : Int) ^ (32 - n) = M at *
  generalize bitsN ((b32 zs).take n) = A at *
  generalize bitsN ((b32 zs).drop n) = B at *
  rw [Int.add_comm (A * M) B, Int.add_mul_emod_self_right, Int.emod_eq_of_lt hb.1 hb.2]
  omega
end Go.Proofs.YtpjbofodllhjbaaDoor
