/- Texts joined: engine, contracts and laws, in the order in which they build. -/
import Derived.Test.YtcmpamnhegndnaaGreatDoorRows
import Derived.Lib.LaidTab
import Derived.Test.YtcmpamnhegndnaaGreatDoorBcPeerMeets
namespace Go.Proofs.YtcmpamnhegndnaaGreatDoor
open Go.RowKit

def countR (xs : List Int) : Option (List Int × List Int) :=
  if xs.length < 2 ∨ (xs.length : Int) < 2 + (fOf xs 0 * 256 + fOf xs 1) then none else some ((xs.drop 2).take (fOf xs 0 * 256 + fOf xs 1).toNat, xs.drop (2 + (fOf xs 0 * 256 + fOf xs 1).toNat))
theorem netsR_len : ∀ (n : Nat) {xs : List Int} {ps : List PfL}, xs.length ≤ n → netsR xs = some ps → ps.length ≤ xs.length
  | _, [], ps, _, h => by rw [netsR] at h; cases h; exact Nat.le_refl _
  | 0, x :: xs, ps, hn, h => by simp at hn
  | n + 1, x :: xs, ps, hn, h => by
    rw [netsR_cons] at h
    split at h
    · cases h
    · obtain ⟨q, hq, rfl⟩ := Option.map_eq_some_iff.1 h
      rw [List.length_cons] at hn
      have := netsR_len n (by rw [List.length_drop]; omega) hq
      rw [List.length_drop] at this
      simp only [List.length_cons]; omega
theorem counted_u (w : World) (b o c : Nat) (xs : List Int) (hW : Win w b o c xs) (hn : xs.length ≤ 1000000) :
    Calls Tryz.prog 127 #[.slice (some ⟨b, o, none⟩) xs.length c] w fun e w' => ∃ (u r : Value) (ok : Bool), e = .returned (.tuple #[u, r, .bool ok]) ∧ Frm (fun _ => False) w w' ∧ (ok = false → countR xs = none) ∧
      (ok = true → ∃ (y z : List Int) (o1 c1 o2 c2 : Nat), countR xs = some (y, z) ∧ y.length ≤ xs.length ∧ z.length ≤ xs.length ∧ u = .slice (some ⟨b, o1, none⟩) y.length c1 ∧ r = .slice (some ⟨b, o2, none⟩) z.length c2 ∧ ∀ w0, Win w0 b o c xs → Win w0 b o1 c1 y ∧ Win w0 b o2 c2 z) := by
  by_cases h : xs.length < 2 ∨ (xs.length : Int) < 2 + (fOf xs 0 * 256 + fOf xs 1)
  · exact (counted_no w b o c xs hW hn h).mono fun e w' ⟨he, hF⟩ => ⟨_, _, false, he, hF, fun _ => by unfold countR; rw [if_pos h], fun e => by cases e⟩
  · have b0 := fOf_b hW.bys 0
    have b1 := fOf_b hW.bys 1
    obtain ⟨k, ek⟩ := Int.eq_ofNat_of_zero_le (show 0 ≤ fOf xs 0 * 256 + fOf xs 1 by omega)
    refine (counted_ok w b o c xs hW hn (by omega) k ek.symm (by omega)).mono fun e w' ⟨he, hF⟩ => ⟨_, _, true, he, hF, fun e => (by cases e), fun _ => ?_⟩
    have hl : ((xs.drop 2).take k).length = k := by rw [List.length_take, List.length_drop]; omega
    refine ⟨(xs.drop 2).take k, xs.drop (2 + k), sAddr o 2 c 1, c - 2, sAddr o (2 + k) c 1, c - (2 + k), by unfold countR; rw [if_neg h, ek, Int.toNat_natCast], by omega, by rw [List.length_drop]; omega, ?_, ?_, fun w0 hW0 => ⟨(hW0.drop 2).take k, hW0.drop (2 + k)⟩⟩
    · unfold winV; rw [hl, Nat.add_sub_cancel_left]
    · unfold winV; rw [List.length_drop]
theorem getNets_u (w0 : World) (b o c : Nat) (xs : List Int) (hW : Win w0 b o c xs) (hn : xs.length ≤ 100000) :
    Calls Tryz.prog 128 #[.slice (some ⟨b, o, none⟩) xs.length c] w0 fun e w' => ∃ (ps : List PfL) (ad : Option Addr) (c' : Nat) (E : List Ent) (ok : Bool), e = .returned (.tuple #[.slice ad ps.length c', .bool ok]) ∧ Vec 2 ad ps.length c' (pfsL ps) E ∧ St (fun _ => False) w0 w' E ∧ (ok = false → netsR xs = none) ∧ (ok = true → netsR xs = some ps) :=
  (getNets_c w0 b o c xs hW hn).mono fun e w' h => by
    unfold NetsP at h
    cases hp : netsR xs with
    | none =>
      rw [hp] at h
      exact ⟨[], none, 0, [], false, h.1, Vec.nil 2, (St.start _ _).ext h.2, fun _ => rfl, fun e => by cases e⟩
    | some ps =>
      rw [hp] at h
      obtain ⟨ad, c', E, he, hV, hS⟩ := h
      exact ⟨ps, ad, c', E, true, he, hV, hS, (fun e => by cases e), fun _ => rfl⟩
theorem AtDecode_u (w0 : World) (b o c : Nat) (xs : List Int) (hG : GF w0) (hZ : GZ w0) (hW : Win w0 b o c xs) (hn : xs.length ≤ 90000) :
    Calls Tryz.prog 129 #[.slice (some ⟨b, o, none⟩) xs.length c] w0 fun e w' => ∃ (ok : Bool) (s : Int) (d : ByteArray) (a : AtL) (K : List Ent), e = .returned (.tuple #[.agg a.cells.toArray, .agg (fltL (if ok then 0 else 3) s d).toArray]) ∧ AtAll K a ∧ St (fun _ => False) w0 w' K ∧
      (ok = false → decD AtL.zero.d [] xs = .inr (s, d)) ∧ (ok = true → s = 0 ∧ d = ⟨#[]⟩ ∧ ∃ dd, decD AtL.zero.d [] xs = .inl dd ∧ a.d = { dd with others := sortO dd.others }) :=
  (AtDecode_c w0 b o c xs hG hZ hW hn).mono fun e w' h => by
    unfold AtDecP at h
    cases hp : decD AtL.zero.d [] xs with
    | inr x =>
      obtain ⟨s, d⟩ := x
      rw [hp] at h
      exact ⟨false, s, d, .zero, [], h.1, ⟨AtOwn.zero, ⟨[], Vec.nil 2, fun _ h => by cases h⟩, fun _ h => by cases h⟩, (St.start _ _).ext h.2, fun _ => rfl, fun e => by cases e⟩
    | inl dd =>
      rw [hp] at h
      obtain ⟨a, K, he, ha, hA, hS⟩ := h
      exact ⟨true, 0, ⟨#[]⟩, a, K, he, hA, hS, (fun e => by cases e), fun _ => ⟨rfl, rfl, dd, rfl, ha⟩⟩
theorem AtAll.mono {K K' : List Ent} {a : AtL} (h : AtAll K a) (hm : ∀ e ∈ K, e ∈ K') : AtAll K' a := by
  obtain ⟨h1, ⟨E, r1, r2⟩, h3⟩ := h
  exact ⟨h1.mono hm, ⟨E, r1, fun e he => hm e (r2 e he)⟩, fun o ho => by obtain ⟨E, q1, q2⟩ := h3 o ho; exact ⟨E, q1, fun e he => hm e (q2 e he)⟩⟩
structure MsAll (K : List Ent) (m : MsL) : Prop where
  caps : ∃ E, Vec 2 m.kad m.caps.length m.kc (capsL m.caps) E ∧ ∀ e ∈ E, e ∈ K
  vals : ∀ c ∈ m.caps, CapOwn K c
  gone : ∃ E, Vec 2 m.gad m.gone.length m.gc (pfsL m.gone) E ∧ ∀ e ∈ E, e ∈ K
  nets : ∃ E, Vec 2 m.nad m.nets.length m.nc (pfsL m.nets) E ∧ ∀ e ∈ E, e ∈ K
  at_ : AtAll K m.atr
theorem AtAll.zero : AtAll [] .zero := ⟨AtOwn.zero, ⟨[], Vec.nil 2, fun _ h => by cases h⟩, fun _ h => by cases h⟩
theorem MsAll.zero (k : Int) : MsAll [] (.zero k) := ⟨⟨[], Vec.nil 2, fun _ h => by cases h⟩, (fun _ h => by cases h), ⟨[], Vec.nil 2, fun _ h => by cases h⟩, ⟨[], Vec.nil 2, fun _ h => by cases h⟩, AtAll.zero⟩
def oneS (x : Int) : ByteArray := str (fun _ => x) 1
def updR (xs : List Int) : (List PfL × AtD × List PfL) ⊕ (Int × Int × ByteArray) :=
  match countR xs with
  | none => .inr (3, 1, ⟨#[]⟩)
  | some (g, r) => match countR r with
    | none => .inr (3, 1, ⟨#[]⟩)
    | some (s, n) => match netsR g with
      | none => .inr (3, 1, ⟨#[]⟩)
      | some gs => match decD AtL.zero.d [] s with
        | .inr (s, d) => .inr (3, s, d)
        | .inl a => match netsR n with
          | none => .inr (3, 10, ⟨#[]⟩)
          | some ns => if 200 < gs.length ∨ 200 < ns.length then .inr (6, 1, ⟨#[]⟩) else if missI a.has ≠ 0 ∧ 0 < ns.length then .inr (3, 3, oneS (missI a.has)) else .inl (gs, { a with others := sortO a.others }, ns)
theorem missI_b (h : Int) : 0 ≤ missI h ∧ missI h ≤ 3 := by unfold missI; split <;> (try split) <;> (try split) <;> omega
def MsL.upd (k : Int) (gad : Option Addr) (gc : Nat) (gone : List PfL) (atr : AtL) (nad : Option Addr) (nc : Nat) (nets : List PfL) : MsL := { MsL.zero k with gad := gad, gc := gc, gone := gone, atr := atr, nad := nad, nc := nc, nets := nets }
def UpdP (w0 w' : World) (gm : Nat) (k : Int) (xs : List Int) (L : List Ent) (e : Ending) : Prop :=
  ∃ (ok : Bool) (c s : Int) (d : ByteArray) (gad : Option Addr) (gc : Nat) (gs : List PfL) (a : AtL) (nad : Option Addr) (nc : Nat) (ns : List PfL) (K : List Ent), e = .returned (.agg (fltL c s d).toArray) ∧ St (fun _ => False) w0 w' (.row gm (MsL.upd k gad gc gs a nad nc ns).cells :: (K ++ L)) ∧ MsAll K (MsL.upd k gad gc gs a nad nc ns) ∧
    (ok = false → c ≠ 0 ∧ updR xs = .inr (c, s, d)) ∧ (ok = true → c = 0 ∧ s = 0 ∧ d = ⟨#[]⟩ ∧ updR xs = .inl (gs, a.d, ns))
set_option maxHeartbeats 4000000 in
theorem readUpdate_c (w0 w1 : World) (gm b o c : Nat) (k : Int) (xs : List Int) (L : List Ent) (hG : GF w0) (hZ : GZ w0) (hW : Win w0 b o c xs) (hn : xs.length ≤ 90000) (hS0 : St (fun _ => False) w0 w1 (.row gm (MsL.zero k).cells :: L)) :
    Calls Tryz.prog 114 #[.pointer (some ⟨gm, 0, none⟩), .slice (some ⟨b, o, none⟩) xs.length c] w1 fun e w' => UpdP w0 w' gm k xs L e := by
  refine enter Tryz.func114 rfl Tryz.ntmps114 rfl hS0 ?_
  refine cR <| WL.alloc rfl zero_37 (.none rfl) rfl rfl <| ?_
  intro g4 hg4
  refine zR <| zM rfl <| zK ck_127 rfl <| ?_
  intro w1 hS
  refine (counted_u w1 b o c xs (hW.st hS) (by omega)).mono ?_
  rintro e w' ⟨u1, r1, ok1, rfl, hF, hbad1, hok1⟩
  refine ⟨_, _, rfl, hS.ext hF, ?_⟩
  refine zM rfl <| zX rfl <| zX rfl <| zX rfl <| zA rfl <| zA rfl <| zA rfl <| zN <| cS <| cR <| zM rfl <| ?_
  skip
  cases ok1
  refine zV (v_not rfl rfl rfl) rfl <| zN <| cT rfl <| cR <| zV (v_build rfl rfl zero_37 plc_37 rfl) rfl <| zW many_37 rfl rfl <| zN <| cE <| eR <| tR Tryz.results114 (resRow rfl many_37 rfl) <| ?_
  have e0 : updR xs = .inr (3, 1, ⟨#[]⟩) := (by unfold updR; rw [hbad1 rfl])
  exact fun w' h => ⟨false, 3, 1, _, none, 0, [], .zero, none, 0, [], [], rfl, h.sub (.cons _ (.refl _)), MsAll.zero k, fun _ => ⟨by decide, e0⟩, fun e => by cases e⟩
  refine zV (v_not rfl rfl rfl) rfl <| zN <| cF rfl <| cK <| eN <| cR <| ?_
  obtain ⟨xg, xr, o1, c1, o2, c2, ec1, lg, lr, rfl, rfl, hWW⟩ := hok1 rfl
  obtain ⟨hWg, hWr⟩ := hWW w0 hW
  refine zM rfl <| zK ck_127 rfl <| ?_
  intro w1 hS
  refine (counted_u w1 b o2 c2 xr (hWr.st hS) (by omega)).mono ?_
  rintro e w' ⟨u2, r2, ok2, rfl, hF2, hbad2, hok2⟩
  refine ⟨_, _, rfl, hS.ext hF2, ?_⟩
  refine zM rfl <| zX rfl <| zX rfl <| zX rfl <| zA rfl <| zA rfl <| zA rfl <| zN <| cS <| cR <| zM rfl <| ?_
  skip
  cases ok2
  refine zV (v_not rfl rfl rfl) rfl <| zN <| cT rfl <| cR <| zV (v_build rfl rfl zero_37 plc_37 rfl) rfl <| zW many_37 rfl rfl <| zN <| cE <| eR <| tR Tryz.results114 (resRow rfl many_37 rfl) <| ?_
  have e0 : updR xs = .inr (3, 1, ⟨#[]⟩) := (by unfold updR; rw [ec1]; dsimp only; rw [hbad2 rfl])
  exact fun w' h => ⟨false, 3, 1, _, none, 0, [], .zero, none, 0, [], [], rfl, h.sub (.cons _ (.refl _)), MsAll.zero k, fun _ => ⟨by decide, e0⟩, fun e => by cases e⟩
  refine zV (v_not rfl rfl rfl) rfl <| zN <| cF rfl <| cK <| eN <| cS <| cR <| ?_
  obtain ⟨xs2, xn, o3, c3, o4, c4, ec2, ls, ln, rfl, rfl, hWW2⟩ := hok2 rfl
  obtain ⟨hWs, hWn⟩ := hWW2 w0 hWr
  refine zM rfl <| zM rfl <| zK ck_128 rfl <| ?_
  intro w1 hS
  refine (getNets_u w1 b o1 c1 xg (hWg.st hS) (by omega)).mono ?_
  rintro e w' ⟨gs, gad, gc, Eg, ok3, rfl, hVg, hSg, hbad3, hok3⟩
  refine ⟨_, _, rfl, hS.join hSg, ?_⟩
  refine zM rfl <| zX rfl <| zX rfl <| zC rfl <| zF rfl fld_39_5 <| zO one_30 rfl rfl <| WL.as (L' := Eg ++ (.row g4 (fltL 0 0 ⟨#[]⟩) :: .row gm (MsL.upd k gad gc gs .zero none 0 []).cells :: L)) rfl <| zA rfl <| zR <| zM rfl <| ?_
  skip
  cases ok3
  refine zV (v_not rfl rfl rfl) rfl <| zN <| cT rfl <| cR <| zV (v_build rfl rfl zero_37 plc_37 rfl) rfl <| zW many_37 rfl rfl <| zN <| cE <| eR <| tR Tryz.results114 (resRow rfl many_37 rfl) <| ?_
  have e0 : updR xs = .inr (3, 1, ⟨#[]⟩) := (by unfold updR; rw [ec1]; dsimp only; rw [ec2]; dsimp only; rw [hbad3 rfl])
  exact fun w' h => ⟨false, 3, 1, _, gad, gc, gs, .zero, none, 0, [], Eg, rfl, St.front (R := [.row gm (MsL.upd k gad gc gs .zero none 0 []).cells]) (L := L) Eg (h.sub (List.Sublist.append_left (.cons _ (.refl _)) _)), ⟨⟨[], Vec.nil 2, fun _ h => by cases h⟩, (fun _ h => by cases h), ⟨Eg, hVg, fun _ h => h⟩, ⟨[], Vec.nil 2, fun _ h => by cases h⟩, AtAll.zero.mono fun _ h => by cases h⟩, fun _ => ⟨by decide, e0⟩, fun e => by cases e⟩
  refine zV (v_not rfl rfl rfl) rfl <| zN <| cF rfl <| cK <| eN <| cR <| zM rfl <| zK ck_129 rfl <| ?_
  intro w1 hS
  refine (AtDecode_u w1 b o3 c3 xs2 (hG.keep (fun h => h) hS) (hZ.keep (fun h => h) hS) (hWs.st hS) (by omega)).mono ?_
  rintro e w' ⟨ok4, s4, d4, a, Ka, rfl, hAa, hSa, hbad4, hok4⟩
  refine ⟨_, _, rfl, hS.join hSa, ?_⟩
  refine zM rfl <| zX rfl <| zX rfl <| WL.alloc rfl zero_35 (.none rfl) rfl rfl <| ?_
  intro g9 hg9
  refine WL.alloc rfl zero_37 (.none rfl) rfl rfl ?_
  intro g10 hg10
  refine zW many_35 rfl rfl <| zW many_37 rfl rfl <| WL.as (L' := .row g10 (fltL (if ok4 then 0 else 3) s4 d4) :: .row g9 a.cells :: (Ka ++ (Eg ++ (.row g4 (fltL 0 0 ⟨#[]⟩) :: .row gm (MsL.upd k gad gc gs .zero none 0 []).cells :: L)))) rfl <| zN <| cS <| cR <| zV (v_loadN rfl rfl many_37 rfl allAt) rfl <| ?_
  skip
  cases ok4
  refine zV (v_build rfl rfl zero_37 plc_37 rfl) rfl ?_
  refine zV (v_neq_aggT rfl rfl rfl eqk_37 eqg_37 rfl rfl (by (intro h; simp [fltL] at h))) rfl ?_
  refine zN <| cT rfl <| cR <| zV (v_loadN rfl rfl many_37 rfl allAt) rfl <| zW many_37 rfl rfl <| zN <| cE <| eR <| tR Tryz.results114 (resRow rfl many_37 rfl) <| ?_
  have e0 : updR xs = .inr (3, s4, d4) := (by unfold updR; rw [ec1]; dsimp only; rw [ec2]; dsimp only; rw [hok3 rfl]; dsimp only; rw [hbad4 rfl])
  exact fun w' h => ⟨false, 3, s4, d4, gad, gc, gs, .zero, none, 0, [], Eg, rfl, St.front (R := [.row gm (MsL.upd k gad gc gs .zero none 0 []).cells]) (L := L) Eg (h.sub (.cons _ (.cons _ (List.sublist_append_of_sublist_right (List.Sublist.append_left (.cons _ (.refl _)) _))))), ⟨⟨[], Vec.nil 2, fun _ h => by cases h⟩, (fun _ h => by cases h), ⟨Eg, hVg, fun _ h => h⟩, ⟨[], Vec.nil 2, fun _ h => by cases h⟩, AtAll.zero.mono fun _ h => by cases h⟩, fun _ => ⟨by decide, e0⟩, fun e => by cases e⟩
  obtain ⟨rfl, rfl, dd, ed, ea⟩ := hok4 rfl
  refine zV (v_build rfl rfl zero_37 plc_37 rfl) rfl ?_
  refine zV (v_neq_aggF rfl rfl rfl eqk_37 eqg_37 rfl rfl (by rfl)) rfl ?_
  refine zN <| cF rfl <| cK <| eN <| cR <| zM rfl <| zV (v_loadN rfl rfl many_35 rfl allAt) rfl <| zC rfl <| zF rfl fld_39_6 <| ?_
  refine WL.storeN rfl rfl rfl rfl many_35 rfl (by first | exact Nat.le_of_ble_eq_true rfl | simp) (.none rfl) rfl ?_
  refine WL.as (L' := .row g10 (fltL 0 0 ⟨#[]⟩) :: .row g9 a.cells :: (Ka ++ (Eg ++ (.row g4 (fltL 0 0 ⟨#[]⟩) :: .row gm (MsL.upd k gad gc gs a none 0 []).cells :: L)))) rfl <| zN <| cS <| cR <| zM rfl <| zM rfl <| zK ck_128 rfl <| ?_
  intro w1 hS
  refine (getNets_u w1 b o4 c4 xn (hWn.st hS) (by omega)).mono ?_
  rintro e w' ⟨ns, nad, nc, En, ok5, rfl, hVn, hSn, hbad5, hok5⟩
  refine ⟨_, _, rfl, hS.join hSn, ?_⟩
  refine zM rfl <| zX rfl <| zX rfl <| zC rfl <| zF rfl fld_39_7 <| zO one_30 rfl rfl <| WL.as (L' := En ++ (.row g10 (fltL 0 0 ⟨#[]⟩) :: .row g9 a.cells :: (Ka ++ (Eg ++ (.row g4 (fltL 0 0 ⟨#[]⟩) :: .row gm (MsL.upd k gad gc gs a nad nc ns).cells :: L))))) rfl <| ?_
  refine WL.to (L' := .row g4 (fltL 0 0 ⟨#[]⟩) :: .row gm (MsL.upd k gad gc gs a nad nc ns).cells :: ((En ++ (.row g9 a.cells :: (Ka ++ Eg))) ++ L)) (fun w hS => by
    have := St.front (R := [.row g4 (fltL 0 0 ⟨#[]⟩), .row gm (MsL.upd k gad gc gs a nad nc ns).cells]) (L := L) (En ++ (.row g9 a.cells :: (Ka ++ Eg))) (by
      have h1 := hS.sub (List.Sublist.append_left (List.sublist_cons_self _ _) En)
      simpa only [List.cons_append, List.append_assoc, List.nil_append] using h1)
    exact this) ?_
  refine WL.as (L' := .row g4 (fltL 0 0 ⟨#[]⟩) :: .row gm (MsL.upd k gad gc gs a nad nc ns).cells :: (En ++ (.row g9 a.cells :: (Ka ++ (Eg ++ L))))) (by simp only [List.cons_append, List.append_assoc]) ?_
  refine zA rfl <| zR <| ?_
  skip
  have hAll : MsAll (En ++ (.row g9 a.cells :: (Ka ++ Eg))) (MsL.upd k gad gc gs a nad nc ns) := ⟨⟨[], Vec.nil 2, fun _ h => by cases h⟩, (fun _ h => by cases h), ⟨Eg, hVg, fun e he => List.mem_append_right _ (List.mem_cons_of_mem _ (List.mem_append_right _ he))⟩, ⟨En, hVn, fun e he => List.mem_append_left _ he⟩, hAa.mono fun e he => List.mem_append_right _ (List.mem_cons_of_mem _ (List.mem_append_left _ he))⟩
  have hfin : ∀ w', St (fun _ => False) w0 w' (.row gm (MsL.upd k gad gc gs a nad nc ns).cells :: (En ++ (.row g9 a.cells :: (Ka ++ (Eg ++ L))))) → St (fun _ => False) w0 w' (.row gm (MsL.upd k gad gc gs a nad nc ns).cells :: ((En ++ (.row g9 a.cells :: (Ka ++ Eg))) ++ L)) := (fun w' h => by simpa only [List.cons_append, List.append_assoc, List.nil_append] using h)
  have e1 : updR xs = match netsR xn with
      | none => .inr (3, 10, ⟨#[]⟩)
      | some ns => if 200 < gs.length ∨ 200 < ns.length then .inr (6, 1, ⟨#[]⟩) else if missI dd.has ≠ 0 ∧ 0 < ns.length then .inr (3, 3, oneS (missI dd.has)) else .inl (gs, { dd with others := sortO dd.others }, ns) := (by
    unfold updR; rw [ec1]; dsimp only; rw [ec2]; dsimp only; rw [hok3 rfl]; dsimp only; rw [ed])
  have hah : dd.has = a.has := (by have := congrArg AtD.has ea; exact this.symm)
  rw [← ea, hah] at e1
  have hmi := missI_b a.has
  have hgl := netsR_len _ (Nat.le_refl _) (hok3 rfl)
  refine zM rfl ?_
  skip
  cases ok5
  refine zV (v_not rfl rfl rfl) rfl <| zN <| cT rfl <| cR <| zV (v_build rfl rfl zero_37 plc_37 rfl) rfl <| zW many_37 rfl rfl <| zN <| cE <| eR <| tR Tryz.results114 (resRow rfl many_37 rfl) <| ?_
  rw [hbad5 rfl] at e1
  exact fun w' h => ⟨false, 3, 10, _, gad, gc, gs, a, nad, nc, ns, _, rfl, hfin _ (h.sub (.cons _ (.refl _))), hAll, fun _ => ⟨by decide, e1⟩, fun e => by cases e⟩
  refine zV (v_not rfl rfl rfl) rfl <| zN <| cF rfl <| cK <| eN <| cS <| cR <| ?_
  have hnl := netsR_len _ (Nat.le_refl _) (hok5 rfl)
  rw [hok5 rfl] at e1
  dsimp only at e1
  refine zM rfl <| zC rfl <| zF rfl fld_39_5 <| zV (v_load1 rfl rfl one_30 (cellAt (v := .slice gad gs.length gc) rfl)) rfl <| zV (v_len_slice rfl rfl Tryz.underlying30) rfl <| ?_
  refine zT (v_gtr rfl rfl rfl) rfl (fun h70 => ?_) (fun h70 => ?_)
  refine zM rfl ?_
  iterate 6 refine WL.sk rfl ?_
  refine zP rfl <| zN <| cT rfl <| cR <| zV (v_build rfl rfl zero_37 plc_37 rfl) rfl <| zW many_37 rfl rfl <| zN <| cE <| eR <| tR Tryz.results114 (resRow rfl many_37 rfl) <| ?_
  rw [if_pos (.inl (by omega))] at e1
  exact fun w' h => ⟨false, 6, 1, _, gad, gc, gs, a, nad, nc, ns, _, rfl, hfin _ (h.sub (.cons _ (.refl _))), hAll, fun _ => ⟨by decide, e1⟩, fun e => by cases e⟩
  refine zM rfl <| zS (v_move rfl rfl) rfl <| zS (v_nilCheck rfl rfl) rfl <| zS (v_fieldAddr0 rfl rfl fld_39_7) rfl <| zS (v_load1 rfl rfl one_30 (cellAt (v := .slice nad ns.length nc) rfl)) rfl <| zS (v_len_slice rfl rfl Tryz.underlying30) rfl <| ?_
  refine WL.test (v_gtr rfl rfl rfl) (.some rfl rfl rfl) rfl rfl (fun h77 => ?_) (fun h77 => ?_)
  refine zQ rfl <| zN <| cT rfl <| cR <| zV (v_build rfl rfl zero_37 plc_37 rfl) rfl <| zW many_37 rfl rfl <| zN <| cE <| eR <| tR Tryz.results114 (resRow rfl many_37 rfl) <| ?_
  rw [if_pos (.inr (by omega))] at e1
  exact fun w' h => ⟨false, 6, 1, _, gad, gc, gs, a, nad, nc, ns, _, rfl, hfin _ (h.sub (.cons _ (.refl _))), hAll, fun _ => ⟨by decide, e1⟩, fun e => by cases e⟩
  refine zQ rfl <| zN <| cF rfl <| cK <| eN <| cS <| cR <| ?_
  rw [if_neg (by omega)] at e1
  refine zV (v_loadN rfl rfl many_35 rfl allAt) rfl <| zK ck_76 rfl <| ?_
  intro w hS
  refine Calls.then (Missing_c w a) hS ?_
  refine zA rfl <| zR <| zM rfl <| ?_
  refine zT (v_neq rfl rfl rfl) rfl (fun h83 => ?_) (fun h83 => ?_)
  refine zM rfl <| zS (v_move rfl rfl) rfl <| zS (v_nilCheck rfl rfl) rfl <| zS (v_fieldAddr0 rfl rfl fld_39_7) rfl <| zS (v_load1 rfl rfl one_30 (cellAt (v := .slice nad ns.length nc) rfl)) rfl <| zS (v_len_slice rfl rfl Tryz.underlying30) rfl <| ?_
  refine WL.test (v_gtr rfl rfl rfl) (.some rfl rfl rfl) rfl rfl (fun h90 => ?_) (fun h90 => ?_)
  refine zP rfl <| zN <| cT rfl <| cR <| zM rfl <| ?_
  refine zV (v_conv rfl rfl Tryz.underlying5 Tryz.underlying3 (by first | exact w_u8 (by omega) (by omega) | exact w_u8m _)) rfl ?_
  refine zB Tryz.underlying25 sz_5 zero_5 rfl rfl ?_
  intro g94 hg94
  refine WL.val (v_convBS ((fun _ => missI a.has)) rfl rfl Tryz.underlying25 Tryz.underlying5 Tryz.underlying9 (fun w' hS' _ => ⟨g94, 0, rfl, fun i hi => by
  obtain rfl : i = 0 := (by omega)
  exact hS'.cell (g := g94) rfl⟩)) (.none rfl) rfl rfl ?_
  refine zV (v_build rfl rfl zero_37 plc_37 rfl) rfl <| zW many_37 rfl rfl <| zN <| cE <| eR <| tR Tryz.results114 (resRow rfl many_37 rfl) <| ?_
  rw [if_pos ⟨h83, by omega⟩] at e1
  exact fun w' h => ⟨false, 3, 3, _, gad, gc, gs, a, nad, nc, ns, _, rfl, hfin _ (h.sub (.cons _ (.cons _ (.refl _)))), hAll, fun _ => ⟨by decide, e1⟩, fun e => by cases e⟩
  refine zP rfl <| zN <| cF rfl <| cK <| eN <| cR <| zV (v_build rfl rfl zero_37 plc_37 rfl) rfl <| zW many_37 rfl rfl <| zN <| cE <| tR Tryz.results114 (resRow rfl many_37 rfl) <| ?_
  rw [if_neg (fun h => h90 (by omega))] at e1
  exact fun w' h => ⟨true, 0, 0, _, gad, gc, gs, a, nad, nc, ns, _, rfl, hfin _ (h.sub (.cons _ (.refl _))), hAll, fun e => (by cases e), fun _ => ⟨rfl, rfl, rfl, e1⟩⟩
  refine zM rfl ?_
  iterate 6 refine WL.sk rfl ?_
  refine zQ rfl <| zN <| cF rfl <| cK <| eN <| cR <| zV (v_build rfl rfl zero_37 plc_37 rfl) rfl <| zW many_37 rfl rfl <| zN <| cE <| tR Tryz.results114 (resRow rfl many_37 rfl) <| ?_
  rw [if_neg (fun h => h.1 (by omega))] at e1
  exact fun w' h => ⟨true, 0, 0, _, gad, gc, gs, a, nad, nc, ns, _, rfl, hfin _ (h.sub (.cons _ (.refl _))), hAll, fun e => (by cases e), fun _ => ⟨rfl, rfl, rfl, e1⟩⟩

structure MsD where
  kind : Int
  asn : Int
  hold : Int
  id : Int
  caps : List (Int × List Int)
  gone : List PfL
  atr : AtD
  nets : List PfL
  fc : Int
  fs : Int
  fd : ByteArray
def MsL.d (m : MsL) : MsD := ⟨m.kind, m.asn, m.hold, m.id, m.caps.map capD, m.gone, m.atr.d, m.nets, m.fc, m.fs, m.fd⟩
def strD (xs : List Int) : ByteArray := str (fun i => fOf xs (2 + i)) (xs.length - 2)
def bodyM (k : Int) (xs : List Int) : MsD ⊕ (Int × Int × ByteArray) :=
  if k = 1 then match openR xs with
    | .inl cs => .inl { (MsL.zero k).d with asn := asnB xs, hold := holdB xs, id := idB xs, caps := cs }
    | .inr (s, d) => .inr (2, s, d)
  else if k = 2 then match updR xs with
    | .inl (g, a, n) => .inl { (MsL.zero k).d with gone := g, atr := a, nets := n }
    | .inr f => .inr f
  else if k = 3 then .inl { (MsL.zero k).d with fc := fOf xs 0, fs := fOf xs 1, fd := strD xs }
  else .inl (MsL.zero k).d
def decM (xs : List Int) : MsD ⊕ (Int × Int × ByteArray) :=
  if (sizeR xs.length (fOf xs)).2.1 ≠ 0 then .inr (sizeR xs.length (fOf xs)).2
  else if (sizeR xs.length (fOf xs)).1 ≠ xs.length then .inr (1, 2, str (fun i => fOf xs (16 + i)) 2)
  else bodyM (fOf xs 18) (xs.drop 19)
theorem sizeR_cases (n : Nat) (f : Nat → Int) : (∃ C S d, sizeR n f = (0, C, S, d) ∧ C ≠ 0) ∨ (sizeR n f = (lenI f, 0, 0, ⟨#[]⟩) ∧ 19 ≤ n ∧ mark255 f = true ∧ 19 ≤ lenI f ∧ lenI f ≤ 4096 ∧ 1 ≤ f 18 ∧ f 18 ≤ 4 ∧ leastI (f 18) ≤ lenI f ∧ (f 18 = 4 → lenI f = 19)) := by
  by_cases h1 : n < 19
  · left; exact ⟨1, 2, ⟨#[]⟩, by unfold sizeR; rw [if_pos h1], by decide⟩
  by_cases h2 : mark255 f = true
  · rw [sizeR_on h1 h2]
    split
    · left; exact ⟨1, 2, _, rfl, by decide⟩
    split
    · left; exact ⟨1, 3, _, rfl, by decide⟩
    split
    · left; exact ⟨1, 2, _, rfl, by decide⟩
    · rename_i h3 h4 h5
      right
      have := Classical.byContradiction fun h => h4 (leastI_zero.2 h)
      refine ⟨rfl, by omega, h2, by omega, by omega, by omega, by omega, by omega, fun e => by omega⟩
  · left; exact ⟨1, 1, ⟨#[]⟩, by unfold sizeR; rw [if_neg h1]; simp [h2], by decide⟩
def DecP (w0 w' : World) (xs : List Int) (e : Ending) : Prop :=
  match decM xs with
  | .inr (c, s, d) => e = .returned (.tuple #[.agg (MsL.zero 0).cells.toArray, .agg (fltL c s d).toArray]) ∧ Frm (fun _ => False) w0 w'
  | .inl md => ∃ m K, e = .returned (.tuple #[.agg m.cells.toArray, .agg (fltL 0 0 ⟨#[]⟩).toArray]) ∧ m.d = md ∧ MsAll K m ∧ St (fun _ => False) w0 w' K
structure DecT where
  ok : Bool
  c : Int
  s : Int
  d : ByteArray
  m : MsL
  K : List Ent
set_option maxHeartbeats 4000000 in
theorem DecOk_c (w0 : World) (b o c : Nat) (xs : List Int) (hG : GF w0) (hZ : GZ w0) (hW : Win w0 b o c xs) (hn : xs.length ≤ 90000) (hs : sizeR xs.length (fOf xs) = ((xs.length : Int), 0, 0, ⟨#[]⟩)) (h19 : 19 ≤ xs.length) (h18 : 1 ≤ fOf xs 18 ∧ fOf xs 18 ≤ 4) (hle2 : leastI (fOf xs 18) ≤ xs.length) :
    Calls Tryz.prog 85 #[.slice (some ⟨b, o, none⟩) xs.length c] w0 fun e w' => DecP w0 w' xs e := by
  have hle := hW.le
  have e00 : decM xs = bodyM (fOf xs 18) (xs.drop 19) := by unfold decM; rw [hs]; dsimp only; rw [if_neg (by simp), if_neg (by simp)]
  have hWd := hW.drop 19
  have hdl : (xs.drop 19).length = xs.length - 19 := List.length_drop ..
  have hlst : leastI (fOf xs 18) = if fOf xs 18 = 1 then 29 else if fOf xs 18 = 2 then 23 else if fOf xs 18 = 3 then 21 else 19 := by unfold leastI; repeat' split; all_goals first | rfl | omega
  refine enter Tryz.func85 rfl Tryz.ntmps85 rfl (St.start (fun _ => False) w0) ?_
  refine cR <| WL.alloc rfl zero_39 (.none rfl) rfl rfl <| ?_
  intro g2 hg2
  refine WL.alloc rfl zero_37 (.none rfl) rfl rfl ?_
  intro g3 hg3
  refine zR <| zM rfl <| zK ck_84 rfl <| ?_
  intro w hS
  refine Calls.then (by rw [show (Ending.returned (.tuple #[.int .i64 xs.length, .agg (fltL 0 0 ⟨#[]⟩).toArray])) = .returned (sizeV (sizeR xs.length (fOf xs))) by rw [hs]; rfl]; exact Size_c w (some ⟨b, o, none⟩) xs.length c (fOf xs) (fOf_byt hW.bys) (fun _ => ⟨b, o, rfl, rd_u8s (hW.st hS).at_⟩) (by omega) hle) hS ?_
  refine zM rfl <| zX rfl <| zX rfl <| WL.alloc rfl zero_37 (.none rfl) rfl rfl <| ?_
  intro g5 hg5
  refine zA rfl <| zW many_37 rfl rfl <| zN <| cS <| cR <| zV (v_loadN rfl rfl many_37 rfl allAt) rfl <| zV (v_build rfl rfl zero_37 plc_37 rfl) rfl <| ?_
  refine zV (v_neq_aggF rfl rfl rfl eqk_37 eqg_37 rfl rfl (by rfl)) rfl ?_
  refine zN <| cF rfl <| cK <| eN <| cS <| cR <| zM rfl <| zM rfl <| zV (v_len_slice rfl rfl Tryz.underlying25) rfl <| ?_
  refine zV ((v_neq rfl rfl rfl).f (by omega)) rfl ?_
  refine zN <| cF rfl <| cK <| eN <| cR <| zM rfl <| ?_
  refine zV (v_indexAddr (lo := 18) rfl rfl rfl Tryz.underlying25 sz_5 rfl (by omega)) rfl ?_
  refine zV (v_load1 rfl rfl one_5 (cellOld (fun h => h) (hW.get (fOf_get (by omega))))) rfl ?_
  refine zV (v_conv rfl rfl Tryz.underlying3 Tryz.underlying5 (w_i64 (by omega) (by omega))) rfl ?_
  refine zV (v_build rfl rfl zero_39 plc_39 rfl) rfl <| WL.alloc rfl zero_39 (.none rfl) rfl rfl <| ?_
  intro g6 hg6
  refine zW many_39 rfl rfl <| WL.as (L' := .row g6 (MsL.zero (fOf xs 18)).cells :: .row g5 (fltL 0 0 ⟨#[]⟩) :: .row g3 (fltL 0 0 ⟨#[]⟩) :: [.row g2 (MsL.zero 0).cells]) rfl <| zR <| zM rfl <| ?_
  refine zV ((v_slice_lo (lo := 19) rfl rfl rfl Tryz.underlying25 sz_5 rfl (by omega))) rfl ?_
  rw [show xs.length - 19 = (xs.drop 19).length by rw [List.length_drop]]
  refine zA rfl <| zN <| ?_
  refine WC.cut (fun y : DecT => [(2, .pointer (some ⟨g2, 0, none⟩)), (3, .pointer (some ⟨g3, 0, none⟩)), (5, .pointer (some ⟨g5, 0, none⟩)), (6, .pointer (some ⟨g6, 0, none⟩))]) (fun y => .row g6 y.m.cells :: (y.K ++ (.row g5 (fltL y.c y.s y.d) :: .row g3 (fltL 0 0 ⟨#[]⟩) :: [.row g2 (MsL.zero 0).cells]))) (fun y => MsAll y.K y.m ∧ (y.ok = false → y.c ≠ 0 ∧ bodyM (fOf xs 18) (xs.drop 19) = .inr (y.c, y.s, y.d)) ∧ (y.ok = true → y.c = 0 ∧ y.s = 0 ∧ y.d = ⟨#[]⟩ ∧ bodyM (fOf xs 18) (xs.drop 19) = .inl y.m.d)) ?_ ?_
  refine cR <| zF rfl fld_39_0 <| zV (v_load1 rfl rfl one_3 (cellAt (v := .int .i64 (fOf xs 18)) rfl)) rfl <| zN <| cB <| cR <| ?_
  refine zT (v_eql rfl rfl rfl) rfl (fun h35 => ?_) (fun h35 => ?_)
  refine zA rfl <| zN <| cT rfl <| WC.region <| zM rfl <| zK ck_113 rfl <| ?_
  intro w1 hS
  refine (readOpen_c w0 w1 g6 b (sAddr o 19 c 1) (c - 19) (fOf xs 18) (xs.drop 19) (.row g5 (fltL 0 0 ⟨#[]⟩) :: .row g3 (fltL 0 0 ⟨#[]⟩) :: [.row g2 (MsL.zero 0).cells]) hWd (by rw [hlst, if_pos h35] at hle2; omega) (by omega) hS).mono ?_
  rintro e w' ⟨ok, s, d, ad, kc, cs, E, K, rfl, hS', hV, hO, hF, hT⟩
  refine ⟨_, _, rfl, hS', ?_⟩
  refine zW many_37 rfl rfl <| WL.as (L' := .row g6 (MsL.opened (fOf xs 18) (xs.drop 19) ad kc cs).cells :: (E ++ (K ++ (.row g5 (fltL (if ok then 0 else 2) s d) :: .row g3 (fltL 0 0 ⟨#[]⟩) :: [.row g2 (MsL.zero 0).cells])))) rfl <| WL.nil <| eY <| ?_
  exact WE.mid ⟨ok, if ok then 0 else 2, s, d, MsL.opened (fOf xs 18) (xs.drop 19) ad kc cs, E ++ K⟩ ⟨⟨⟨E, hV, fun e he => List.mem_append_left _ he⟩, fun c hc => (by
  obtain ⟨E', r1, r2⟩ := hO c hc
  exact ⟨E', r1, fun e he => List.mem_append_right _ (r2 e he)⟩), ⟨[], Vec.nil 2, fun _ h => by cases h⟩, ⟨[], Vec.nil 2, fun _ h => by cases h⟩, AtAll.zero.mono fun _ h => by cases h⟩, fun e => (by
  cases e
  exact ⟨by show (2 : Int) ≠ 0; decide, by unfold bodyM; rw [if_pos h35, hF rfl]; rfl⟩), fun e => by
  cases e
  obtain ⟨rfl, rfl, e1⟩ := hT rfl
  exact ⟨rfl, rfl, rfl, by unfold bodyM; rw [if_pos h35, e1]; rfl⟩⟩ (.cons rfl (.cons rfl (.cons rfl (.cons rfl .nil)))) (by dsimp only; rw [List.append_assoc]; exact .refl _)
  refine zA rfl <| zN <| cF rfl <| cR <| ?_
  refine zT (v_eql rfl rfl rfl) rfl (fun h39 => ?_) (fun h39 => ?_)
  refine zA rfl <| zN <| cT rfl <| WC.region <| zM rfl <| zK ck_114 rfl <| ?_
  intro w1 hS
  refine (readUpdate_c w0 w1 g6 b (sAddr o 19 c 1) (c - 19) (fOf xs 18) (xs.drop 19) (.row g5 (fltL 0 0 ⟨#[]⟩) :: .row g3 (fltL 0 0 ⟨#[]⟩) :: [.row g2 (MsL.zero 0).cells]) hG hZ hWd (by omega) hS).mono ?_
  rintro e w' ⟨ok, fc, s, d, gad, gc, gs, a, nad, nc, ns, K, rfl, hS', hM, hF, hT⟩
  refine ⟨_, _, rfl, hS', ?_⟩
  refine zW many_37 rfl rfl <| WL.as (L' := .row g6 (MsL.upd (fOf xs 18) gad gc gs a nad nc ns).cells :: (K ++ (.row g5 (fltL fc s d) :: .row g3 (fltL 0 0 ⟨#[]⟩) :: [.row g2 (MsL.zero 0).cells]))) rfl <| WL.nil <| eY <| ?_
  exact WE.mid ⟨ok, fc, s, d, MsL.upd (fOf xs 18) gad gc gs a nad nc ns, K⟩ ⟨hM, fun e => (by
  have := hF e
  exact ⟨this.1, by unfold bodyM; rw [if_neg h35, if_pos h39, this.2]⟩), fun e => by
  obtain ⟨e1, e2, e3, e4⟩ := hT e
  exact ⟨e1, e2, e3, by unfold bodyM; rw [if_neg h35, if_pos h39, e4]; rfl⟩⟩ (.cons rfl (.cons rfl (.cons rfl (.cons rfl .nil)))) (.refl _)
  refine zA rfl <| zN <| cF rfl <| cR <| ?_
  refine zT (v_eql rfl rfl rfl) rfl (fun h43 => ?_) (fun h43 => ?_)
  refine zA rfl <| zN <| cT rfl <| WC.orders mixed <| rF 8 [0, 1, 4, 5, 8, 9] <| ?_
  have h2l : 2 ≤ (xs.drop 19).length := (by rw [hlst, if_neg h35, if_neg h39, if_pos h43] at hle2; omega)
  have b0 := fOf_b hWd.bys 0
  have b1 := fOf_b hWd.bys 1
  refine pV (v_move rfl rfl) rfl ?_
  refine pV (v_indexAddr (lo := 0) rfl rfl rfl Tryz.underlying25 sz_5 rfl (by omega)) rfl ?_
  refine pV (v_move rfl rfl) rfl ?_
  refine pV (v_indexAddr (lo := 1) rfl rfl rfl Tryz.underlying25 sz_5 rfl (by omega)) rfl ?_
  refine pV (v_move rfl rfl) rfl ?_
  refine pV ((v_slice_lo (lo := 2) rfl rfl rfl Tryz.underlying25 sz_5 rfl (by omega))) rfl ?_
  refine WP.nil <| rA 1 [2, 3, 6, 7, 10, 11, 12] rfl <| ?_
  refine qV (v_load1 rfl rfl one_5 (cellOld (fun h => h) (hWd.get (fOf_get (by omega))))) rfl ?_
  refine qV (v_conv rfl rfl Tryz.underlying3 Tryz.underlying5 (w_i64 (by omega) (by omega))) rfl ?_
  refine qV (v_load1 rfl rfl one_5 (cellOld (fun h => h) (hWd.get (fOf_get (by omega))))) rfl ?_
  refine qV (v_conv rfl rfl Tryz.underlying3 Tryz.underlying5 (w_i64 (by omega) (by omega))) rfl ?_
  refine WQ.val (v_convBS ((fun i => fOf (xs.drop 19) (2 + i))) rfl rfl Tryz.underlying25 Tryz.underlying5 Tryz.underlying9 (fun w' hS' _ => ⟨b, sAddr (sAddr o 19 c 1) 2 (c - 19) 1, rfl, fun i hi => by
  have := ((hWd.st hS').drop 2).get (i := i) (x := fOf (xs.drop 19) (2 + i)) (by rw [List.getElem?_drop]; exact fOf_get (by omega))
  rwa [Nat.mul_one] at this⟩)) (.none rfl) rfl rfl ?_
  refine qV (v_build rfl rfl zero_37 plc_37 rfl) rfl <| qV (v_fieldAddr0 rfl rfl fld_39_8) rfl <| WQ.nilR <| rO 0 [13] <| ?_
  refine WL.storeN rfl rfl rfl rfl many_37 rfl (by first | exact Nat.le_of_ble_eq_true rfl | simp) (.none rfl) rfl ?_
  refine WL.as (L' := .row g6 (MsL.cells { MsL.zero (fOf xs 18) with fc := fOf (xs.drop 19) 0, fs := fOf (xs.drop 19) 1, fd := strD (xs.drop 19) }) :: .row g5 (fltL 0 0 ⟨#[]⟩) :: .row g3 (fltL 0 0 ⟨#[]⟩) :: [.row g2 (MsL.zero 0).cells]) rfl <| zH <| rD <| eY <| ?_
  exact WE.mid ⟨true, 0, 0, ⟨#[]⟩, { MsL.zero (fOf xs 18) with fc := fOf (xs.drop 19) 0, fs := fOf (xs.drop 19) 1, fd := strD (xs.drop 19) }, []⟩ ⟨⟨⟨[], Vec.nil 2, fun _ h => by cases h⟩, (fun _ h => by cases h), ⟨[], Vec.nil 2, fun _ h => by cases h⟩, ⟨[], Vec.nil 2, fun _ h => by cases h⟩, AtAll.zero⟩, fun e => (by cases e), fun _ => ⟨rfl, rfl, rfl, by unfold bodyM; rw [if_neg h35, if_neg h39, if_pos h43]; rfl⟩⟩ (.cons rfl (.cons rfl (.cons rfl (.cons rfl .nil)))) (.refl _)
  refine zA rfl <| zN <| cF rfl <| cK <| eY <| ?_
  exact WE.mid ⟨true, 0, 0, ⟨#[]⟩, MsL.zero (fOf xs 18), []⟩ ⟨MsAll.zero _, fun e => (by cases e), fun _ => ⟨rfl, rfl, rfl, by unfold bodyM; rw [if_neg h35, if_neg h39, if_neg h43]⟩⟩ (.cons rfl (.cons rfl (.cons rfl (.cons rfl .nil)))) (.refl _)
  rintro ⟨ok, fc, s, d, m, K⟩ ⟨hM, hF, hT⟩
  dsimp only at hM hF hT
  dsimp only
  refine cS <| cR <| zV (v_loadN rfl rfl many_37 rfl allAt) rfl <| ?_
  skip
  cases ok
  refine zV (v_build rfl rfl zero_37 plc_37 rfl) rfl ?_
  refine zV (v_neq_aggT rfl rfl rfl eqk_37 eqg_37 rfl rfl (by exact fun h => by injection h with h1 _; injection h1 with _ h1; exact (hF rfl).1 h1)) rfl ?_
  refine zN <| cT rfl <| cS <| WC.orders mixed <| rF 3 [0] <| pV (v_build rfl rfl zero_39 plc_39 rfl) rfl <| WP.nil <| ?_
  refine WR.each (g := 2) [1, 2] (by kernel_rfl) (by decide) ?_
  refine ⟨?_, ?_⟩
  refine zV (v_loadN rfl rfl many_37 rfl allAt) rfl <| zH <| rO 0 [2, 3] <| zW many_39 rfl rfl <| zW many_37 rfl rfl <| zH <| rD <| eN <| cE <| eR <| WE.ret2 (P := Tryz.prog) (.inl rfl) Tryz.results85 (resRow rfl many_39 rfl) (resRow rfl many_37 rfl) <| ?_
  exact fun w' h => by unfold DecP; rw [e00, (hF rfl).2]; exact ⟨rfl, h.frm⟩
  refine zW many_39 rfl rfl <| zH <| rA 1 [1] rfl <| qV (v_loadN rfl rfl many_37 rfl allAt) rfl <| WQ.nilR <| rO 0 [3] <| zW many_37 rfl rfl <| zH <| rD <| eN <| cE <| eR <| WE.ret2 (P := Tryz.prog) (.inl rfl) Tryz.results85 (resRow rfl many_39 rfl) (resRow rfl many_37 rfl) <| ?_
  exact fun w' h => by unfold DecP; rw [e00, (hF rfl).2]; exact ⟨rfl, h.frm⟩
  obtain ⟨rfl, rfl, rfl, e1⟩ := hT rfl
  refine zV (v_build rfl rfl zero_37 plc_37 rfl) rfl ?_
  refine zV (v_neq_aggF rfl rfl rfl eqk_37 eqg_37 rfl rfl (by rfl)) rfl ?_
  refine zN <| cF rfl <| cK <| eN <| cR <| zV (v_loadN rfl rfl many_39 rfl allAt) rfl <| zV (v_build rfl rfl zero_37 plc_37 rfl) rfl <| zW many_39 rfl rfl <| zW many_37 rfl rfl <| zN <| cE <| WE.ret2 (P := Tryz.prog) (.inl rfl) Tryz.results85 (resRow rfl many_39 rfl) (resRow rfl many_37 rfl) <| ?_
  exact fun w' h => by unfold DecP; rw [e00, e1]; exact ⟨m, K, rfl, rfl, hM, (h.sub (List.sublist_cons_self _ _)).sub (List.sublist_append_left _ _)⟩
theorem Decode_c (w0 : World) (b o c : Nat) (xs : List Int) (hG : GF w0) (hZ : GZ w0) (hW : Win w0 b o c xs) (hn : xs.length ≤ 90000) :
    Calls Tryz.prog 85 #[.slice (some ⟨b, o, none⟩) xs.length c] w0 fun e w' => DecP w0 w' xs e := by
  rcases sizeR_cases xs.length (fOf xs) with ⟨C, S, d, e, hC⟩ | ⟨e, h1, h2, h3, h4, h5, h6, h7, h8⟩
  · refine (DecBad_c w0 _ xs.length c (fOf xs) (fOf_byt hW.bys) (fun _ => ⟨b, o, rfl, rd_u8s hW.at_⟩) (by omega) hW.le C S d e hC).mono fun en w' h => ?_
    have e0 : decM xs = .inr (C, S, d) := by unfold decM; rw [e]; exact if_pos hC
    unfold DecP; rw [e0]; exact h
  · by_cases hk : lenI (fOf xs) = xs.length
    · rw [hk] at e
      exact DecOk_c w0 b o c xs hG hZ hW hn e h1 ⟨h5, h6⟩ (by omega)
    · refine (DecLong_c w0 b o xs.length c (fOf xs) (fOf_byt hW.bys) (rd_u8s hW.at_) (by omega) hW.le h1 _ e hk).mono fun en w' h => ?_
      have e0 : decM xs = .inr (1, 2, str (fun i => fOf xs (16 + i)) 2) := by unfold decM; rw [e]; dsimp only; rw [if_neg (by simp), if_pos hk]
      unfold DecP; rw [e0]; exact h

theorem append_made {P : Program} {p : Nat → Prop} {w0 : World} {t tx e s by_ m : Nat} {kk : IntKind} {zs : List Value} {L0 : List Ent} {w : World} {ty : TypeId}
    (hu : P.underlying t = some (.slice e)) (hux : P.underlying tx = some (.int kk)) (hs : (P.info? e).map (·.size) = some s) (hb : (P.info? e).map (·.bytes) = some by_) (hz : Zero P e zs) (hzl : zs.length = s) (hs1 : 0 < s)
    (_ : 0 < by_) (hm : 0 < m) (hm2 : m ≤ 1000000) (hby2 : by_ ≤ 1000) (hS : St p w0 w L0) :
    ∃ g c' cs w', (Builtin.append_ #[t, tx] ty #[.slice none 0 0, .int .i64 m]).run P w = .ok (.slice (some ⟨g, 0, none⟩) m c') w' ∧ m ≤ c' ∧ cs.length = c' * s ∧ St p w0 w' (.row g cs :: L0) := by
  have hq : ∃ i, P.info? e = some i ∧ i.bytes = by_ := by
    cases hq : P.info? e with
    | none => simp [hq] at hb
    | some i => exact ⟨i, rfl, by simpa [hq] using hb⟩
  obtain ⟨ti, hi, hib⟩ := hq
  have hask : ∀ (k : Nat) (w : World), (askRoom k).run P w = .ok () w := fun k w => by
    unfold askRoom
    by_cases h : k > roomBytes
    · rw [if_pos h]; rfl
    · rw [if_neg h]; rfl
  have hcapE : Builtin.nextslicecap m 0 = m := by unfold Builtin.nextslicecap; rw [if_pos (by omega)]
  have hmb : m * by_ ≤ 1000000 * 1000 := Nat.mul_le_mul hm2 hby2
  have hcap : ¬ (m * by_ > 2 ^ 48) := by omega
  obtain ⟨z, hz, hzs⟩ := hz
  have hzc : z.cells = zs.toArray := by rw [← hzs]
  have hd := hS.drew
  let nc := (Question.appendCap m 0 e).cut (w.tape w.drawn (.appendCap m 0 e))
  have hnc : m ≤ nc := by show m ≤ m + _; omega
  let A := Builtin.zeroCells zs.toArray m
  let B := Builtin.zeroCells zs.toArray (nc - m)
  have hAl : A.size = m * s := by show (Builtin.zeroCells zs.toArray m).size = _; simp [Builtin.zeroCells, hzl]
  have hBl : B.size = (nc - m) * s := by show (Builtin.zeroCells zs.toArray (nc - m)).size = _; simp [Builtin.zeroCells, hzl]
  have hnew : St p w0 (w.drew.alloc (.cells (A ++ B) e)) (.row w.drew.heap.size (A ++ B).toList :: L0) := St.new hd
  refine ⟨w.drew.heap.size, nc, (A ++ B).toList, _, ?_, hnc, ?_, hnew⟩
  · have hcut : (choose (.appendCap m 0 e)).run P w = .ok nc w.drew := rfl
    have hw : IntKind.i64.wrap (m : Int) = (m : Int) := w_i64 (by omega) (by omega)
    have hb0 : ¬ ((m : Int) * (by_ : Int) > 2 ^ 48) := by rw [← Int.natCast_mul]; omega
    have hms : ¬ (m * s = 0) := by have := Nat.mul_pos hm hs1; omega
    have hpos : ¬ ((m : Int) < 0) := by omega
    have hroom : ¬ (m ≤ 0) := by omega
    have hmax : ¬ ((m : Int) > IntKind.i64.max) := by show ¬ ((m : Int) > 9223372036854775807); omega
    have hasI : (asIntOf (Value.int .i64 (m : Int))).run P w = .ok (.i64, (m : Int)) w := rfl
    simp only [Builtin.append_, List.getElem?_toArray, List.getElem?_cons_zero, List.getElem?_cons_succ, Sem.run_bind, run_underlying hu, run_underlying hux, Result.andThen_ok, run_sizeOf hs, Sem.run_pure, if_true, asInt, hasI, hw, hpos, if_false]
    simp only [typeInfo, program, Sem.run, hi, Sem.run_bind, Result.andThen_ok, hib, hb0, if_false, Sem.run_pure, Int.toNat_natCast, Nat.zero_add, hroom, hmax, false_and, hcapE, hcap, hcut, hask, hms, Bool.not_true, Bool.false_eq_true, run_zeroValue hz, hzc, newRow, newObj]
    have hfc : (Builtin.firstCells s 0 (Value.slice none 0 0)).run P w.drew = .ok #[] w.drew := rfl
    rw [hfc]
    simp only [Result.andThen_ok, Array.empty_append]
    rfl
  · rw [Array.length_toList, Array.size_append, hAl, hBl, ← Nat.add_mul]; congr 1; omega
section
variable {P : Program} {ops : Array Oper} {Q : Exit → Act → World → Prop} {n : Nat} {p : Nat → Prop} {w0 : World} {o : Oper} {rest : List Oper} {l : Kn} {L : List Ent}
theorem v_cap_slice {C : World → Prop} {t e len cap : Nat} {ad : Option Addr} {x : Operand} (ho : o.op = .call { callee := .builtin .cap, args := #[x], argTypes := #[t] }) (hx : ev l x = some (.slice ad len cap)) (hu : P.underlying t = some (.slice e)) : Val P C n l o (.int .i64 cap) := fun a w ha _ => by
  have hx' : evs l [x] = some [.slice ad len cap] := by simp [evs, hx]
  obtain ⟨cs, h⟩ := run_builtin (P := P) (w := w) (xs := [x]) ho hx' ha
  rw [h]
  simp [builtin, Builtin.cap_, run_underlying hu, goInt]
theorem WL.appendZ {t tx e s by_ d m : Nat} {kk : IntKind} {zs : List Value} {x y : Operand} (ho : o.op = .call { callee := .builtin .append, args := #[x, y], argTypes := #[t, tx] }) (hx : ev l x = some (.slice none 0 0)) (hy : ev l y = some (.int .i64 m))
    (hu : P.underlying t = some (.slice e)) (hux : P.underlying tx = some (.int kk)) (hs : (P.info? e).map (·.size) = some s) (hb : (P.info? e).map (·.bytes) = some by_) (hz : Zero P e zs) (hzl : zs.length = s) (hs1 : Nat.blt 0 s = true) (hby : Nat.blt 0 by_ = true) (hm : 0 < m) (hm2 : m ≤ 1000000) (hby2 : Nat.ble by_ 1000 = true)
    (hg : On ops o l) (hd : o.dst = some d) (hn : Nat.blt d n = true)
    (h : ∀ g c' cs, m ≤ c' → cs.length = c' * s → WL P ops Q n p w0 rest ((d, .slice (some ⟨g, 0, none⟩) m c') :: l) (.row g cs :: L)) : WL P ops Q n p w0 (o :: rest) l L := by
  refine WL.op hg hd hn fun a w ha hS => ?_
  have hxy : evs l [x, y] = some [.slice none 0 0, .int .i64 m] := by simp [evs, hx, hy]
  obtain ⟨cc, hr⟩ := run_builtin (P := P) (w := w) (xs := [x, y]) ho hxy ha
  obtain ⟨g, c', cs, w', h1, h2, h3, h4⟩ := append_made (P := P) (ty := o.type) hu hux hs hb hz hzl (by simpa using hs1) (by simpa using hby) hm hm2 (by simpa using hby2) hS
  refine ⟨_, w', .row g cs :: L, ?_, h4, h g c' cs h2 h3⟩
  rw [hr]
  simp [builtin, h1]
end
set_option maxHeartbeats 1000000 in
theorem Grow_c (w : World) (m : Nat) (hm : m ≤ 1000000) : Calls Tryz.prog 109 #[.slice none 0 0, .int .i64 m] w fun e w' => ∃ ad c E, e = .returned (.slice ad 0 c) ∧ BV ad c [] E ∧ St (fun _ => False) w w' E := by
  refine enter Tryz.func109 rfl Tryz.ntmps109 rfl (St.start (fun _ => False) w) ?_
  refine cR <| zA rfl <| zN <| cS <| cR <| zM rfl <| ?_
  refine zV ((v_lss rfl rfl rfl).f (by omega)) rfl ?_
  refine zN <| cF rfl <| cK <| eN <| cS <| cR <| zM rfl <| zM rfl <| zV ((v_cap_slice rfl rfl Tryz.underlying25)) rfl <| zM rfl <| zV (v_len_slice rfl rfl Tryz.underlying25) rfl <| ?_
  refine zV (v_sub rfl rfl rfl (w_i64 (by omega) (by omega))) rfl ?_
  refine zV (v_sub rfl rfl rfl (show _ = ((m : Nat) : Int) from (w_i64 (by omega) (by omega)).trans (by omega))) rfl ?_
  refine zA rfl <| zR <| zM rfl <| ?_
  refine zT (v_gtr rfl rfl rfl) rfl (fun h16 => ?_) (fun h16 => ?_)
  refine zN <| cT rfl <| WC.region <| zM rfl <| zM rfl <| zV ((v_cap_slice rfl rfl Tryz.underlying25)) rfl <| ?_
  refine zV ((v_slice_hi (hi := 0) rfl rfl rfl Tryz.underlying25 sz_5 rfl (by omega))) rfl ?_
  refine zM rfl ?_
  refine WL.appendZ rfl rfl rfl Tryz.underlying25 Tryz.underlying3 sz_5 by_5 zero_5 rfl rfl rfl (by omega) hm rfl (.none rfl) rfl rfl ?_
  intro g22 c22 cs22 hc22 hl22
  refine zM rfl <| zV (v_len_slice rfl rfl Tryz.underlying25) rfl <| ?_
  refine zV ((v_slice_hi (hi := 0) rfl rfl rfl Tryz.underlying25 sz_5 rfl (by omega))) rfl ?_
  refine zA rfl <| zR <| zM rfl <| zA rfl <| zN <| cE <| tR Tryz.results109 rfl <| ?_
  exact fun w' h => ⟨_, _, [.row g22 cs22], rfl, Vec.row (k := 0) rfl hl22 (Nat.zero_le _), h.sub (.refl _)⟩
  refine zN <| cF rfl <| cK <| eN <| cR <| zM rfl <| zA rfl <| zN <| cE <| tR Tryz.results109 rfl <| ?_
  exact fun w' h => ⟨none, 0, [], rfl, Vec.nil 1, h⟩
structure SlL where
  ad : Option Addr
  cap : Nat
  val : List Int
def SlL.cells (s : SlL) : List Value := [.slice s.ad s.val.length s.cap]
def catL (ss : List SlL) : List Int := ss.flatMap SlL.val
theorem catL_take {ss : List SlL} {k : Nat} {s : SlL} (h : ss[k]? = some s) : catL (ss.take (k + 1)) = catL (ss.take k) ++ s.val := by
  rw [take_succ_get h]; unfold catL; rw [List.flatMap_append, List.flatMap_cons, List.flatMap_nil, List.append_nil]
theorem catL_le (ss : List SlL) (k : Nat) : (catL (ss.take k)).length ≤ (catL ss).length := by
  have h : ss = ss.take k ++ ss.drop k := (List.take_append_drop k ss).symm
  have e : catL ss = catL (ss.take k) ++ catL (ss.drop k) := by
    conv => lhs; rw [h]
    unfold catL; rw [List.flatMap_append]
  rw [e, List.length_append]; omega
set_option maxHeartbeats 2000000 in
theorem Concat_c (w0 : World) (gs os c : Nat) (ss : List SlL) (hR : RowsAt w0 (some ⟨gs, os, none⟩) 1 SlL.cells ss) (hC : ∀ s ∈ ss, CellsAt w0 s.ad (u8s s.val)) (hn : (catL ss).length ≤ 100000) (hl : ss.length ≤ 1000) :
    Calls Tryz.prog 83 #[.slice (some ⟨gs, os, none⟩) ss.length c] w0 fun e w' => ∃ v, e = .returned v ∧ OwnB w0 w' (catL ss) v := by
  refine enter Tryz.func83 rfl Tryz.ntmps83 rfl (St.start (fun _ => False) w0) ?_
  refine cR <| zA rfl <| zR <| zA rfl <| zN <| cS <| cR <| zM rfl <| zV (v_len_slice rfl rfl Tryz.underlying193) rfl <| zM rfl <| ?_
  refine zN <| cB <| WC.loop (fun k : Nat => [(11, .int .i64 k), (10, .int .i64 ss.length), (9, .slice (some ⟨gs, os, none⟩) ss.length c), (3, .int .i64 (catL (ss.take k)).length), (0, .slice (some ⟨gs, os, none⟩) ss.length c)]) (fun _ => []) (fun k => k ≤ ss.length) (fun k => ss.length - k) 0 (Nat.zero_le _) (.cons rfl (.cons rfl (.cons rfl (.cons rfl (.cons rfl .nil))))) (.refl _) <| ?_
  intro k hk
  refine cR ?_
  refine zT (v_lss rfl rfl rfl) rfl (fun h12 => ?_) (fun h12 => ?_)
  refine zN <| cS <| cT rfl <| cK <| eN <| cS <| cB <| cR <| ?_
  obtain ⟨s, hs⟩ : ∃ s, ss[k]? = some s := ⟨ss[k]'(by omega), List.getElem?_eq_getElem _⟩
  have hr := hR.get hs
  have hct := catL_take hs
  have hle := catL_le ss (k + 1)
  have hlen : (catL (ss.take (k + 1))).length = (catL (ss.take k)).length + s.val.length := (by rw [hct, List.length_append])
  refine zV (v_indexAddr (lo := k) rfl rfl rfl Tryz.underlying193 sz_25 (by omega) (by omega)) rfl ?_
  refine zV (v_load1 rfl rfl one_25 (cellOld (v := .slice s.ad s.val.length s.cap) (fun h => h) (by have := hr 0 _ rfl; exact this))) rfl ?_
  refine zA rfl <| zR <| zM rfl <| zM rfl <| zV (v_len_slice rfl rfl Tryz.underlying25) rfl <| ?_
  refine zV (v_add rfl rfl rfl (show _ = ((catL (ss.take (k + 1))).length : Int) from (w_i64 (by omega) (by omega)).trans (by omega))) rfl ?_
  refine zA rfl <| zR <| zM rfl <| ?_
  refine zV ((v_lss rfl rfl rfl).f (by omega)) rfl ?_
  refine zN <| cF rfl <| cK <| eY <| eN <| WC.region <| ?_
  refine zV (v_add rfl rfl rfl (w_i64 (by omega) (by omega))) rfl ?_
  refine zM rfl <| WL.nil <| ?_
  exact WE.next (k + 1) (by omega) (by omega) (.int rfl (by omega) (.cons rfl (.cons rfl (.cons rfl (.cons rfl .nil))))) (.refl _)
  refine zN <| cS <| cF rfl <| cX <| eX <| eX <| eH <| eN <| cR <| zM rfl <| zK ck_109 rfl <| ?_
  intro w1 hS
  refine (Grow_c w1 (catL (ss.take k)).length (by have := catL_le ss k; omega)).mono ?_
  rintro e w' ⟨ad24, c24, E24, rfl, hV24, hS'⟩
  refine ⟨_, _, rfl, hS.join hS', ?_⟩
  refine zA rfl <| zN <| cS <| cR <| zM rfl <| zV (v_len_slice rfl rfl Tryz.underlying193) rfl <| zM rfl <| zN <| cB <| WC.loop (fun x : Nat × Option Addr × Nat × List Ent => [(27, .int .i64 x.1), (26, .int .i64 ss.length), (25, .slice (some ⟨gs, os, none⟩) ss.length c), (6, .slice x.2.1 (catL (ss.take x.1)).length x.2.2.1)]) (fun x => x.2.2.2 ++ []) (fun x => x.1 ≤ ss.length ∧ BV x.2.1 x.2.2.1 (catL (ss.take x.1)) x.2.2.2) (fun x => ss.length - x.1) (0, ad24, c24, E24) ⟨Nat.zero_le _, hV24⟩ (.cons rfl (.cons rfl (.cons rfl (.cons rfl .nil)))) (.refl _) <| ?_
  rintro ⟨k, ad, c6, E⟩ ⟨hk2, hV⟩
  dsimp only at hk2 hV
  dsimp only
  refine cR ?_
  refine zT (v_lss rfl rfl rfl) rfl (fun h28 => ?_) (fun h28 => ?_)
  refine zN <| cS <| cT rfl <| cK <| eN <| cS <| cB <| cR <| ?_
  obtain ⟨s, hs⟩ : ∃ s, ss[k]? = some s := ⟨ss[k]'(by omega), List.getElem?_eq_getElem _⟩
  have hr := hR.get hs
  have hct := catL_take hs
  have hle := catL_le ss (k + 1)
  have hlen : (catL (ss.take (k + 1))).length = (catL (ss.take k)).length + s.val.length := (by rw [hct, List.length_append])
  have hsrc : 0 < s.val.length → ∃ b so, s.ad = some ⟨b, so, none⟩ ∧ ∀ w, St (fun _ => False) w0 w (E ++ []) → w.rangeAt b so (u8s s.val) := (fun h => by
    obtain ⟨b, o, e, hr⟩ := hC s (List.mem_of_getElem? hs) (by rw [u8s_len]; exact h)
    exact ⟨b, o, e, fun w hS => hS.rng (fun _ h => h) _ _ _ hr⟩)
  refine zV (v_indexAddr (lo := k) rfl rfl rfl Tryz.underlying193 sz_25 (by omega) (by omega)) rfl ?_
  refine zV (v_load1 rfl rfl one_25 (cellOld (v := .slice s.ad s.val.length s.cap) (fun h => h) (by have := hr 0 _ rfl; exact this))) rfl ?_
  refine zA rfl <| zN <| WC.region <| zM rfl <| zM rfl <| ?_
  refine WL.appendL rfl rfl rfl Tryz.underlying25 Tryz.underlying25 sz_5 by_5 zero_5 rfl rfl hV (new := u8s s.val) hsrc (by rw [u8s_len]; omega) (u8s_one _) (by omega) (.none rfl) rfl rfl ?_
  intro ad33 c33 E33 hV33 hr33
  rw [← u8s_app, ← hct] at hV33
  rw [← hlen] at hV33 ⊢
  refine zA rfl <| WL.nil <| eY <| eN <| WC.region <| ?_
  refine zV (v_add rfl rfl rfl (w_i64 (by omega) (by omega))) rfl ?_
  refine zM rfl <| WL.nil <| ?_
  exact WE.next (k + 1, ad33, c33, E33) (by dsimp only; omega) ⟨by dsimp only; omega, hV33⟩ (.int rfl (by dsimp only; omega) (.cons rfl (.cons rfl (.cons rfl .nil)))) (.refl _)
  refine zN <| cS <| cF rfl <| cX <| eX <| eX <| eH <| eN <| cR <| zM rfl <| zA rfl <| zN <| cE <| ?_
  refine tR Tryz.results83 rfl ?_
  have ek : k = ss.length := (by omega)
  rw [ek, List.take_length] at hV ⊢
  exact fun w' h => ⟨_, rfl, ad, c6, E, rfl, hV, h.sub (List.sublist_append_left _ _)⟩

structure View (E : List Ent) (aa : Option Addr) (c : Nat) (ys : List Int) : Prop where
  le : ys.length ≤ c
  bys : Bys ys
  at_ : (aa = none ∧ c = 0 ∧ ys = []) ∨ ∃ b o, aa = some ⟨b, o, none⟩ ∧ ∀ w, (∀ e ∈ E, e.holds w) → w.rangeAt b o (u8s ys)
theorem View.of {ad : Option Addr} {c : Nat} {xs : List Int} {E : List Ent} (h : BV ad c xs E) (hb : Bys xs) : View E ad c xs := by
  refine ⟨h.len.2, hb, ?_⟩
  rcases h with ⟨ha, hn, hc, _⟩ | ⟨g, cs, rfl, rfl, hx, _, _⟩
  · exact .inl ⟨ha, hc, List.length_eq_zero_iff.1 hn⟩
  · refine .inr ⟨g, 0, rfl, fun w hw j v hj => ?_⟩
    have hR : Row w g cs := hw (.row g cs) (List.mem_cons_self ..)
    rw [← hx, List.getElem?_take] at hj
    split at hj
    · rw [Nat.zero_add]; exact hR.cell hj
    · cases hj
theorem View.win {E : List Ent} {b o c : Nat} {ys : List Int} (h : View E (some ⟨b, o, none⟩) c ys) {w : World} (hw : ∀ e ∈ E, e.holds w) : Win w b o c ys := by
  rcases h.at_ with ⟨h1, _, _⟩ | ⟨b', o', e, hr⟩
  · exact nomatch h1
  · cases e; exact ⟨hr w hw, h.bys, h.le⟩
theorem View.some {E : List Ent} {aa : Option Addr} {c : Nat} {ys : List Int} (h : View E aa c ys) (h0 : 0 < ys.length) : ∃ b o, aa = some ⟨b, o, none⟩ := by
  rcases h.at_ with ⟨_, _, e⟩ | ⟨b, o, e, _⟩
  · rw [e] at h0; exact absurd h0 (Nat.lt_irrefl 0)
  · exact ⟨b, o, e⟩
theorem View.drop {E : List Ent} {b o c : Nat} {ys : List Int} (h : View E (.some ⟨b, o, none⟩) c ys) (k : Nat) : View E (.some ⟨b, sAddr o k c 1, none⟩) (c - k) (ys.drop k) := by
  have hle := h.le
  refine ⟨by rw [List.length_drop]; omega, fun x hx => h.bys x (List.mem_of_mem_drop hx), .inr ⟨b, sAddr o k c 1, rfl, fun w hw => ((h.win hw).drop k).at_⟩⟩
structure RdL where
  ad : Option Addr
  cap : Nat
  wait : List Int
  count : Int
  fc : Int
  fs : Int
  fd : ByteArray
def RdL.cells (r : RdL) : List Value := [.slice r.ad r.wait.length r.cap, .int .i64 r.count, .int .i64 r.fc, .int .i64 r.fs, .string r.fd]
def szL (xs : List Int) : Nat := (sizeR xs.length (fOf xs)).1.toNat
def feedM (acc : List MsD) (xs : List Int) : List MsD × Option (Int × Int × ByteArray) × List Int :=
  if xs.length < 19 then (acc, none, xs)
  else if (sizeR xs.length (fOf xs)).2.1 ≠ 0 then (acc, some (sizeR xs.length (fOf xs)).2, [])
  else if xs.length < szL xs then (acc, none, xs)
  else match decM (xs.take (szL xs)) with
    | .inr f => (acc, some f, [])
    | .inl m => feedM (acc ++ [m]) (xs.drop (szL xs))
termination_by xs.length
decreasing_by
  rename_i _ h2 _
  rw [List.length_drop]
  rcases sizeR_cases xs.length (fOf xs) with ⟨C, S, d, e, hC⟩ | ⟨e, _, _, h, _⟩
  · rw [e] at h2; exact absurd hC h2
  · have : szL xs = (lenI (fOf xs)).toNat := by unfold szL; rw [e]
    omega
theorem feedM_few {acc : List MsD} {xs : List Int} (h : xs.length < 19) : feedM acc xs = (acc, none, xs) := by rw [feedM, if_pos h]
theorem feedM_bad {acc : List MsD} {xs : List Int} (h : ¬ xs.length < 19) {f : Int × Int × ByteArray} (hs : (sizeR xs.length (fOf xs)).2 = f) (hC : f.1 ≠ 0) : feedM acc xs = (acc, some f, []) := by
  rw [feedM, if_neg h, if_pos (by rw [hs]; exact hC), hs]
theorem feedM_wait {acc : List MsD} {xs : List Int} (h : ¬ xs.length < 19) (hs : (sizeR xs.length (fOf xs)).2.1 = 0) (hl : xs.length < szL xs) : feedM acc xs = (acc, none, xs) := by
  rw [feedM, if_neg h, if_neg (by rw [hs]; decide), if_pos hl]
theorem feedM_flt {acc : List MsD} {xs : List Int} (h : ¬ xs.length < 19) (hs : (sizeR xs.length (fOf xs)).2.1 = 0) (hl : ¬ xs.length < szL xs) {f : Int × Int × ByteArray} (hd : decM (xs.take (szL xs)) = .inr f) : feedM acc xs = (acc, some f, []) := by
  rw [feedM, if_neg h, if_neg (by rw [hs]; decide), if_neg hl, hd]
theorem feedM_on {acc : List MsD} {xs : List Int} (h : ¬ xs.length < 19) (hs : (sizeR xs.length (fOf xs)).2.1 = 0) (hl : ¬ xs.length < szL xs) {m : MsD} (hd : decM (xs.take (szL xs)) = .inl m) : feedM acc xs = feedM (acc ++ [m]) (xs.drop (szL xs)) := by
  rw [feedM, if_neg h, if_neg (by rw [hs]; decide), if_neg hl, hd]
theorem Size_u (w0 : World) (b o c : Nat) (xs : List Int) (hW : Win w0 b o c xs) (hn : xs.length ≤ 100000) :
    Calls Tryz.prog 84 #[.slice (some ⟨b, o, none⟩) xs.length c] w0 fun e w' => ∃ (ok : Bool) (n : Nat) (C S : Int) (d : ByteArray), e = .returned (.tuple #[.int .i64 n, .agg (fltL C S d).toArray]) ∧ Frm (fun _ => False) w0 w' ∧
      (ok = false → C ≠ 0 ∧ (sizeR xs.length (fOf xs)).2 = (C, S, d)) ∧ (ok = true → C = 0 ∧ S = 0 ∧ d = ⟨#[]⟩ ∧ (sizeR xs.length (fOf xs)).2.1 = 0 ∧ n = szL xs ∧ 19 ≤ n ∧ n ≤ 4096) := by
  refine (Size_c w0 (some ⟨b, o, none⟩) xs.length c (fOf xs) (fOf_byt hW.bys) (fun _ => ⟨b, o, rfl, rd_u8s hW.at_⟩) (by omega) hW.le).mono fun e w' h => ?_
  obtain ⟨rfl, hF⟩ := h
  rcases sizeR_cases xs.length (fOf xs) with ⟨C, S, d, e, hC⟩ | ⟨e, h1, h2, h3, h4, _⟩
  · exact ⟨false, 0, C, S, d, by rw [e]; rfl, hF, fun _ => ⟨hC, by rw [e]⟩, fun e => by cases e⟩
  · obtain ⟨n, hn⟩ := Int.eq_ofNat_of_zero_le (show 0 ≤ lenI (fOf xs) by omega)
    have es : szL xs = n := by unfold szL; rw [e]; dsimp only; rw [hn, Int.toNat_natCast]
    exact ⟨true, n, 0, 0, ⟨#[]⟩, by rw [e, hn]; rfl, hF, fun e => (by cases e), fun _ => ⟨rfl, rfl, rfl, by rw [e], es.symm, by omega, by omega⟩⟩
theorem updR_code {xs : List Int} {c s : Int} {d : ByteArray} (h : updR xs = .inr (c, s, d)) : c ≠ 0 := by
  unfold updR at h
  split at h
  · cases h; decide
  split at h
  · cases h; decide
  split at h
  · cases h; decide
  split at h
  · cases h; decide
  split at h
  · cases h; decide
  split at h
  · cases h; decide
  split at h
  · cases h; decide
  · cases h
theorem decM_code {xs : List Int} {c s : Int} {d : ByteArray} (h : decM xs = .inr (c, s, d)) : c ≠ 0 := by
  unfold decM at h
  split at h
  · rename_i h1; cases hq : (sizeR xs.length (fOf xs)) with | mk a r => rw [hq] at h h1; cases h; exact h1
  split at h
  · cases h; decide
  unfold bodyM at h
  split at h
  · split at h
    · cases h
    · cases h; decide
  split at h
  · split at h
    · cases h
    · cases h; rename_i h2; exact updR_code h2
  split at h
  · cases h
  · cases h
theorem Decode_u (w0 : World) (b o c : Nat) (xs : List Int) (hG : GF w0) (hZ : GZ w0) (hW : Win w0 b o c xs) (hn : xs.length ≤ 90000) :
    Calls Tryz.prog 85 #[.slice (some ⟨b, o, none⟩) xs.length c] w0 fun e w' => ∃ (ok : Bool) (C S : Int) (d : ByteArray) (m : MsL) (K : List Ent), e = .returned (.tuple #[.agg m.cells.toArray, .agg (fltL C S d).toArray]) ∧ MsAll K m ∧ St (fun _ => False) w0 w' K ∧
      (ok = false → C ≠ 0 ∧ decM xs = .inr (C, S, d)) ∧ (ok = true → C = 0 ∧ S = 0 ∧ d = ⟨#[]⟩ ∧ decM xs = .inl m.d) :=
  (Decode_c w0 b o c xs hG hZ hW hn).mono fun e w' h => by
    unfold DecP at h
    cases hp : decM xs with
    | inr x =>
      obtain ⟨C, S, d⟩ := x
      rw [hp] at h
      exact ⟨false, C, S, d, .zero 0, [], h.1, MsAll.zero 0, (St.start _ _).ext h.2, fun _ => ⟨decM_code hp, rfl⟩, fun e => by cases e⟩
    | inl dd =>
      rw [hp] at h
      obtain ⟨m, K, he, hm, hM, hS⟩ := h
      exact ⟨true, 0, 0, ⟨#[]⟩, m, K, he, hM, hS, (fun e => by cases e), fun _ => ⟨rfl, rfl, rfl, by rw [hm]⟩⟩
def msgsL (ms : List MsL) : List Value := ms.flatMap MsL.cells
theorem msgsL_snoc (ms : List MsL) (m : MsL) : msgsL (ms ++ [m]) = msgsL ms ++ m.cells := by unfold msgsL; rw [List.flatMap_append, List.flatMap_cons, List.flatMap_nil, List.append_nil]
theorem MsAll.mono {K K' : List Ent} {m : MsL} (h : MsAll K m) (hm : ∀ e ∈ K, e ∈ K') : MsAll K' m := by
  obtain ⟨⟨E1, a1, b1⟩, h2, ⟨E3, a3, b3⟩, ⟨E4, a4, b4⟩, h5⟩ := h
  exact ⟨⟨E1, a1, fun e he => hm e (b1 e he)⟩, fun c hc => by obtain ⟨E, q1, q2⟩ := h2 c hc; exact ⟨E, q1, fun e he => hm e (q2 e he)⟩, ⟨E3, a3, fun e he => hm e (b3 e he)⟩, ⟨E4, a4, fun e he => hm e (b4 e he)⟩, h5.mono hm⟩

theorem CloneV_c (w : World) (E : List Ent) (aa : Option Addr) (c : Nat) (ys : List Int) (hV : View E aa c ys) (hw : ∀ e ∈ E, e.holds w) (hn : ys.length ≤ 1000000) :
    Calls Tryz.prog 86 #[.slice aa ys.length c] w fun e w' => ∃ x, e = .returned x ∧ OwnB w w' ys x := by
  rcases hV.at_ with ⟨rfl, rfl, rfl⟩ | ⟨b, o, rfl, _⟩
  · refine enter Tryz.func86 rfl Tryz.ntmps86 rfl (St.start (fun _ => False) w) ?_
    refine cR <| zA rfl <| zN <| cS <| cR <| zM rfl <| zV (v_eql_nil true rfl rfl Tryz.underlying25 rfl) rfl <| zN <| cT rfl <| cR <| zA rfl <| ?_
    refine zN <| cE <| eR <| tR Tryz.results86 rfl <| ?_
    exact fun w' h => ⟨_, rfl, none, 0, [], rfl, Vec.nil 1, h⟩
  · exact CloneB_c w b o c ys (hV.win hw) hn
theorem rows1 {w : World} {g : Nat} {cs : List Value} {ss : List SlL} (h : w.rangeAt g 0 cs) (hcs : cs = ss.map fun s => .slice s.ad s.val.length s.cap) : RowsAt w (some ⟨g, 0, none⟩) 1 SlL.cells ss := fun i s hi => ⟨g, 0, rfl, fun j v hj => by
  match j, hj with
  | 0, hj =>
    cases hj
    have := h i _ (by rw [hcs, List.getElem?_map, hi]; rfl)
    simpa using this
  | j + 1, hj => simp [SlL.cells] at hj⟩
structure FdS where
  ys : List Int
  aa : Option Addr
  c : Nat
  ms : List MsL
  ad : Option Addr
  mc : Nat
  Em : List Ent
  K : List Ent
def RdL.more (r : RdL) (k : Nat) : RdL := { r with count := r.count + k }
def fltOf (f : Option (Int × Int × ByteArray)) : Int × Int × ByteArray := f.getD (0, 0, ⟨#[]⟩)

theorem feedM_rest : ∀ (n : Nat) (acc : List MsD) (xs : List Int), xs.length ≤ n → (feedM acc xs).2.2.length ≤ 4096 := by
  intro n
  induction n with
  | zero =>
    intro acc xs h
    rw [feedM_few (by omega)]
    dsimp only
    omega
  | succ n ih =>
    intro acc xs h
    rw [feedM]
    split
    · dsimp only; omega
    rename_i h19
    split
    · exact Nat.zero_le _
    rename_i hz
    have hs : szL xs ≤ 4096 ∧ 0 < szL xs := by
      rcases sizeR_cases xs.length (fOf xs) with ⟨C, S, d, e, hC⟩ | ⟨e, _, _, h1, h2, _⟩
      · rw [e] at hz; exact absurd hC hz
      · unfold szL; rw [e]; dsimp only; omega
    split
    · dsimp only; omega
    split
    · exact Nat.zero_le _
    · exact ih _ _ (by rw [List.length_drop]; omega)
abbrev P8 (v0 v1 v2 v3 v4 v5 v6 v7 : Value) (r : RdL) (tl : List Value) : List Value := v0 :: v1 :: v2 :: v3 :: v4 :: v5 :: v6 :: v7 :: .slice r.ad r.wait.length r.cap :: .int .i64 r.count :: .int .i64 r.fc :: .int .i64 r.fs :: .string r.fd :: tl
theorem splice8_e (v0 v1 v2 v3 v4 v5 v6 v7 x : Value) (r : RdL) (tl : List Value) (C S : Int) (d : ByteArray) : splice ((P8 v0 v1 v2 v3 v4 v5 v6 v7 r tl).set (8 + 0) x) (8 + 2) (fltL C S d) = v0 :: v1 :: v2 :: v3 :: v4 :: v5 :: v6 :: v7 :: x :: .int .i64 r.count :: .int .i64 C :: .int .i64 S :: .string d :: tl := by
  show v0 :: v1 :: v2 :: v3 :: v4 :: v5 :: v6 :: v7 :: x :: .int .i64 r.count :: .int .i64 C :: .int .i64 S :: .string d :: splice tl 0 [] = _
  rw [splice_nil]
def Feed8P (w0 w' : World) (gr : Nat) (v0 v1 v2 v3 v4 v5 v6 v7 : Value) (tl : List Value) (r : RdL) (bs : List Int) (L : List Ent) (e : Ending) : Prop :=
  ∃ (ad : Option Addr) (mc : Nat) (ms : List MsL) (Em K : List Ent) (wad : Option Addr) (wc : Nat) (rest : List Int) (Ew : List Ent) (f : Option (Int × Int × ByteArray)),
    feedM [] (r.wait ++ bs) = (ms.map MsL.d, f, rest) ∧ e = .returned (.tuple #[.slice ad ms.length mc, .agg (fltL (fltOf f).1 (fltOf f).2.1 (fltOf f).2.2).toArray]) ∧ Vec 20 ad ms.length mc (msgsL ms) Em ∧ (∀ m ∈ ms, MsAll K m) ∧ BV wad wc rest Ew ∧ Bys rest ∧
    St (fun _ => False) w0 w' (.row gr (P8 v0 v1 v2 v3 v4 v5 v6 v7 ⟨wad, wc, rest, r.count + ms.length, (fltOf f).1, (fltOf f).2.1, (fltOf f).2.2⟩ tl) :: (Ew ++ (Em ++ (K ++ L))))
set_option maxHeartbeats 4000000 in
theorem Feed8_c (w0 w1 : World) (gr : Nat) (v0 v1 v2 v3 v4 v5 v6 v7 : Value) (tl : List Value) (r : RdL) (ba : Option Addr) (bc : Nat) (bs : List Int) (E L : List Ent) (hG : GF w0) (hZ : GZ w0) (hr : r.fc = 0 ∧ r.fs = 0 ∧ r.fd = ⟨#[]⟩) (hV : BV r.ad r.cap r.wait E) (hB : Bys (r.wait ++ bs)) (hb : ∀ w, St (fun _ => False) w0 w (.row gr (P8 v0 v1 v2 v3 v4 v5 v6 v7 r tl) :: (E ++ L)) → CellsAt w ba (u8s bs)) (hn : (r.wait ++ bs).length ≤ 50000) (hc : 0 ≤ r.count ∧ r.count ≤ 4611686018427387904)
    (hS0 : St (fun _ => False) w0 w1 (.row gr (P8 v0 v1 v2 v3 v4 v5 v6 v7 r tl) :: (E ++ L))) :
    Calls Tryz.prog 55 #[.pointer (some ⟨gr, 8, none⟩), .slice ba bs.length bc] w1 fun e w' => Feed8P w0 w' gr v0 v1 v2 v3 v4 v5 v6 v7 tl r bs L e := by
  obtain ⟨rad, rcap, ws, cnt, rfc, rfs, rfd⟩ := r
  dsimp only at hr hV hB hn hc
  obtain ⟨rfl, rfl, rfl⟩ := hr
  have hln : ws.length ≤ 50000 ∧ bs.length ≤ 50000 := by rw [List.length_append] at hn; omega
  refine enter Tryz.func55 rfl Tryz.ntmps55 rfl hS0 ?_
  refine cR <| zA rfl <| WL.alloc rfl zero_37 (.none rfl) rfl rfl <| ?_
  intro g5 hg5
  refine zN <| cS <| cR <| zM rfl <| zV (v_eql_nil false rfl rfl Tryz.underlying161 rfl) rfl <| zM rfl <| zS (v_move rfl rfl) rfl <| zS (v_nilCheck rfl rfl) rfl <| zS (v_fieldAddr rfl rfl fld_101_2) rfl <| zS (v_loadN rfl rfl many_37 rfl (segAt (m := 3) rfl)) rfl <| zS (v_build rfl rfl zero_37 plc_37 rfl) rfl <| ?_
  refine zS (v_neq_aggF rfl rfl rfl eqk_37 eqg_37 rfl rfl (by rfl)) rfl ?_
  refine zQ rfl <| zN <| cF rfl <| cK <| eN <| cR <| zM rfl <| zC rfl <| zV (v_fieldAddr rfl rfl fld_101_0) rfl <| zV (v_load1 rfl rfl one_25 (cellAt (v := .slice rad ws.length rcap) rfl)) rfl <| zM rfl <| zB Tryz.underlying193 sz_25 zero_25 rfl rfl <| ?_
  intro g27 hg27
  have hcat : catL [⟨rad, rcap, ws⟩, ⟨ba, bc, bs⟩] = ws ++ bs := (by show ws ++ (bs ++ []) = _; rw [List.append_nil])
  refine zK ck_83 rfl ?_
  intro w1 hS
  refine (Concat_c w1 g27 0 2 [⟨rad, rcap, ws⟩, ⟨ba, bc, bs⟩] (rows1 (allAt (g := g27) w1 hS) rfl) (fun s hs => by
    rcases List.mem_cons.1 hs with rfl | hs
    · intro h0
      obtain ⟨b, o, e, hr⟩ := hV.src (L := .row g27 _ :: .row g5 _ :: .row gr _ :: (E ++ L)) (fun e he => .tail _ (.tail _ (.tail _ (List.mem_append_left _ he)))) h0
      exact ⟨b, o, e, hr _ _ _ hS⟩
    · rcases List.mem_cons.1 hs with rfl | hs
      · exact hb _ (hS.sub (.cons _ (.cons _ (.refl _))))
      · cases hs) (by rw [hcat]; omega) (by show 2 ≤ 1000; omega)).mono ?_
  rintro e w' ⟨_, rfl, ad28, c28, E28, rfl, hV28, hS'⟩
  refine ⟨_, _, rfl, hS.join hS', ?_⟩
  rw [hcat] at hV28 ⊢
  have hVw := View.of hV28 hB
  refine WL.to (L' := [] ++ (.row gr (P8 v0 v1 v2 v3 v4 v5 v6 v7 ⟨rad, rcap, ws, cnt + ((0 : Nat) : Int), 0, 0, ⟨#[]⟩⟩ tl) :: .row g5 (fltL 0 0 ⟨#[]⟩) :: ([] ++ (E28 ++ (E ++ L))))) (fun w hS => by
    have h1 := hS.sub (List.Sublist.append_left (List.sublist_cons_self _ _) E28)
    have h2 := St.front (R := [.row g5 _, .row gr _]) (L := E ++ L) E28 h1
    have h3 := h2.perm (List.Perm.swap _ _ _)
    rw [show cnt + ((0 : Nat) : Int) = cnt by omega]
    exact h3) ?_
  refine zA rfl <| zR <| zA rfl <| zN <| ?_
  refine WC.cut (fun y : FdS => [(0, .pointer (some ⟨gr, 8, none⟩)), (5, .pointer (some ⟨g5, 0, none⟩)), (6, .slice y.aa y.ys.length y.c), (7, .slice y.ad y.ms.length y.mc)]) (fun y => y.Em ++ (.row gr (P8 v0 v1 v2 v3 v4 v5 v6 v7 ⟨rad, rcap, ws, cnt + (y.ms.length : Int), 0, 0, ⟨#[]⟩⟩ tl) :: .row g5 (fltL 0 0 ⟨#[]⟩) :: (y.K ++ (E28 ++ (E ++ L))))) (fun y => y.ys.length ≤ (ws ++ bs).length ∧ View E28 y.aa y.c y.ys ∧ feedM [] (ws ++ bs) = (y.ms.map MsL.d, none, y.ys) ∧ Vec 20 y.ad y.ms.length y.mc (msgsL y.ms) y.Em ∧ ∀ m ∈ y.ms, MsAll y.K m) ?_ ?_
  refine cB ?_
  refine WC.loop (fun x : FdS => [(0, .pointer (some ⟨gr, 8, none⟩)), (5, .pointer (some ⟨g5, 0, none⟩)), (6, .slice x.aa x.ys.length x.c), (7, .slice x.ad x.ms.length x.mc)]) (fun x => x.Em ++ (.row gr (P8 v0 v1 v2 v3 v4 v5 v6 v7 ⟨rad, rcap, ws, cnt + (x.ms.length : Int), 0, 0, ⟨#[]⟩⟩ tl) :: .row g5 (fltL 0 0 ⟨#[]⟩) :: (x.K ++ (E28 ++ (E ++ L))))) (fun x => x.ms.length + x.ys.length ≤ (ws ++ bs).length ∧ View E28 x.aa x.c x.ys ∧ feedM [] (ws ++ bs) = feedM (x.ms.map MsL.d) x.ys ∧ Vec 20 x.ad x.ms.length x.mc (msgsL x.ms) x.Em ∧ ∀ m ∈ x.ms, MsAll x.K m) (fun x => x.ys.length) ⟨ws ++ bs, ad28, c28, [], none, 0, [], []⟩ ⟨by simp, hVw, rfl, Vec.nil 20, fun _ h => by cases h⟩ (.cons rfl (.cons rfl (.cons rfl (.cons rfl .nil)))) (.refl _) ?_
  rintro ⟨ys, aa, c, ms, ad, mc, Em, K⟩ ⟨hl, hVy, hy, hVm, hK⟩
  dsimp only at hl hVy hy hVm hK
  dsimp only
  refine cS <| cR <| zM rfl <| zV (v_len_slice rfl rfl Tryz.underlying25) rfl <| ?_
  refine zT (v_geq rfl rfl rfl) rfl (fun h31 => ?_) (fun h31 => ?_)
  refine zN <| cT rfl <| cK <| eN <| cB <| cR <| zM rfl <| ?_
  have h19' : ¬ ys.length < 19 := (by omega)
  obtain ⟨b', o', rfl⟩ := hVy.some (by omega)
  have hle := hVy.le
  refine zK ck_84 rfl ?_
  intro w1 hS
  refine (Size_u w1 b' o' c ys (hVy.win (fun e he => hS.holds e (List.mem_append_right _ (.tail _ (.tail _ (List.mem_append_right _ (List.mem_append_left _ he))))))) (by omega)).mono ?_
  rintro e w' ⟨ok, n, C, S, d, rfl, hF, hbad, hok⟩
  refine ⟨_, _, rfl, hS.ext hF, ?_⟩
  refine zM rfl <| zX rfl <| zX rfl <| ?_
  skip
  cases ok
  refine WL.alloc rfl zero_37 (.none rfl) rfl rfl ?_
  intro g9 hg9
  refine zA rfl <| zW many_37 rfl rfl <| zN <| cS <| cR <| zV (v_loadN rfl rfl many_37 rfl allAt) rfl <| zV (v_build rfl rfl zero_37 plc_37 rfl) rfl <| ?_
  refine zV (v_eql_aggF rfl rfl rfl eqk_37 eqg_37 rfl rfl (by exact fun h => by injection h with h1 _; injection h1 with _ h1; exact (hbad rfl).1 h1)) rfl ?_
  refine zM rfl ?_
  iterate 4 refine WL.sk rfl ?_
  refine zQ rfl <| zN <| cF rfl <| cK <| eN <| cR <| WL.alloc rfl zero_39 (.none rfl) rfl rfl <| ?_
  intro g10 hg10
  refine zN <| cS <| cR <| zV (v_loadN rfl rfl many_37 rfl allAt) rfl <| zV (v_build rfl rfl zero_37 plc_37 rfl) rfl <| ?_
  refine zV (v_eql_aggF rfl rfl rfl eqk_37 eqg_37 rfl rfl (by exact fun h => by injection h with h1 _; injection h1 with _ h1; exact (hbad rfl).1 h1)) rfl ?_
  refine zN <| cF rfl <| cK <| eN <| cS <| cR <| zV (v_loadN rfl rfl many_37 rfl allAt) rfl <| zV (v_build rfl rfl zero_37 plc_37 rfl) rfl <| ?_
  refine zV (v_neq_aggT rfl rfl rfl eqk_37 eqg_37 rfl rfl (by exact fun h => by injection h with h1 _; injection h1 with _ h1; exact (hbad rfl).1 h1)) rfl ?_
  refine zN <| cT rfl <| cS <| WC.orders mixed <| rF 5 [0, 1, 3, 4] <| pV (v_move rfl rfl) rfl <| pV (v_move rfl rfl) rfl <| pV (v_nilCheck rfl rfl) rfl <| pV (v_fieldAddr rfl rfl fld_101_0) rfl <| WP.nil <| ?_
  refine WR.each (g := 4) [2, 5] (by kernel_rfl) (by decide) ?_
  refine ⟨?_, ?_⟩
  refine zV (v_loadN rfl rfl many_37 rfl allAt) rfl <| zH <| rO 3 [5] <| zO one_25 rfl rfl <| zH <| rF 1 [6, 7] <| pV (v_nilCheck rfl rfl) rfl <| pV (v_fieldAddr rfl rfl fld_101_2) rfl <| WP.nil <| rO 0 [8] <| ?_
  refine WL.storeN rfl rfl rfl rfl many_37 rfl (by first | exact Nat.le_of_ble_eq_true rfl | simp) (.none rfl) rfl ?_
  refine zH <| rD <| eN <| cS <| WC.orders mixed <| rF 2 [0, 2] <| pV (v_move rfl rfl) rfl <| pV (v_assign rfl rfl) rfl <| WP.nil <| rA 1 [1] rfl <| qV (v_loadN rfl rfl many_37 rfl allAt) rfl <| WQ.nilR <| rO 0 [3] <| zW many_37 rfl rfl <| ?_
  refine zH <| rD <| eN <| cE <| eR <| eB <| eR <| eB <| eR <| WE.ret2 (P := Tryz.prog) (.inl rfl) Tryz.results55 rfl (resRow rfl many_37 rfl) <| ?_
  have e0 := hy.trans (feedM_bad h19' (hbad rfl).2 (hbad rfl).1)
  refine fun w' h => ⟨ad, mc, ms, Em, K, none, 0, [], [], some (C, S, d), e0, rfl, hVm, hK, Vec.nil 1, Bys.nil, ?_⟩
  have h1 := h.sub (.cons _ (.cons _ (List.Sublist.append_left (.cons_cons _ (.cons _ (List.Sublist.append_left (List.sublist_append_of_sublist_right (List.sublist_append_right _ _)) _))) _)))
  rw [splice8_e] at h1
  exact St.front (R := [_]) (L := K ++ L) Em h1
  refine zO one_25 rfl rfl <| zH <| rA 1 [2, 6, 7] rfl <| qV (v_loadN rfl rfl many_37 rfl allAt) rfl <| qV (v_nilCheck rfl rfl) rfl <| qV (v_fieldAddr rfl rfl fld_101_2) rfl <| WQ.nilR <| rO 0 [8] <| ?_
  refine WL.storeN rfl rfl rfl rfl many_37 rfl (by first | exact Nat.le_of_ble_eq_true rfl | simp) (.none rfl) rfl ?_
  refine zH <| rD <| eN <| cS <| WC.orders mixed <| rF 2 [0, 2] <| pV (v_move rfl rfl) rfl <| pV (v_assign rfl rfl) rfl <| WP.nil <| rA 1 [1] rfl <| qV (v_loadN rfl rfl many_37 rfl allAt) rfl <| WQ.nilR <| rO 0 [3] <| zW many_37 rfl rfl <| ?_
  refine zH <| rD <| eN <| cE <| eR <| eB <| eR <| eB <| eR <| WE.ret2 (P := Tryz.prog) (.inl rfl) Tryz.results55 rfl (resRow rfl many_37 rfl) <| ?_
  have e0 := hy.trans (feedM_bad h19' (hbad rfl).2 (hbad rfl).1)
  refine fun w' h => ⟨ad, mc, ms, Em, K, none, 0, [], [], some (C, S, d), e0, rfl, hVm, hK, Vec.nil 1, Bys.nil, ?_⟩
  have h1 := h.sub (.cons _ (.cons _ (List.Sublist.append_left (.cons_cons _ (.cons _ (List.Sublist.append_left (List.sublist_append_of_sublist_right (List.sublist_append_right _ _)) _))) _)))
  rw [splice8_e] at h1
  exact St.front (R := [_]) (L := K ++ L) Em h1
  obtain ⟨rfl, rfl, rfl, hz, rfl, hn19, hn4⟩ := hok rfl
  refine WL.alloc rfl zero_37 (.none rfl) rfl rfl ?_
  intro g9 hg9
  refine zA rfl <| zW many_37 rfl rfl <| zN <| cS <| cR <| zV (v_loadN rfl rfl many_37 rfl allAt) rfl <| zV (v_build rfl rfl zero_37 plc_37 rfl) rfl <| ?_
  refine zV (v_eql_aggT rfl rfl rfl eqk_37 eqg_37 rfl rfl (by rfl)) rfl ?_
  refine zM rfl <| zS (v_move rfl rfl) rfl <| zS (v_len_slice rfl rfl Tryz.underlying25) rfl <| zS (v_move rfl rfl) rfl <| ?_
  refine WL.test (v_lss rfl rfl rfl) (.some rfl rfl rfl) rfl rfl (fun h44 => ?_) (fun h44 => ?_)
  refine zP rfl <| zN <| cT rfl <| cX <| eX <| WE.block_miss rfl <| eX <| eH <| ?_
  exact WE.mid ⟨ys, some ⟨b', o', none⟩, c, ms, ad, mc, Em, K⟩ ⟨by dsimp only; omega, hVy, by rw [hy]; exact feedM_wait h19' hz (by omega), hVm, hK⟩ (.cons rfl (.cons rfl (.cons rfl (.cons rfl .nil)))) (.cons _ (.refl _))
  refine zP rfl <| zN <| cF rfl <| cK <| eN <| cR <| WL.alloc rfl zero_39 (.none rfl) rfl rfl <| ?_
  intro g10 hg10
  refine zN <| cS <| cR <| zV (v_loadN rfl rfl many_37 rfl allAt) rfl <| zV (v_build rfl rfl zero_37 plc_37 rfl) rfl <| ?_
  refine zV (v_eql_aggT rfl rfl rfl eqk_37 eqg_37 rfl rfl (by rfl)) rfl ?_
  refine zN <| cT rfl <| WC.region <| zM rfl <| zM rfl <| ?_
  refine zV ((v_slice_hi (hi := szL ys) rfl rfl rfl Tryz.underlying25 sz_5 rfl (by omega))) rfl ?_
  refine zK ck_85 rfl ?_
  intro w1 hS
  have hWy := hVy.win (fun e he => hS.holds e (.tail _ (.tail _ (List.mem_append_right _ (.tail _ (.tail _ (List.mem_append_right _ (List.mem_append_left _ he))))))))
  have htl : (ys.take (szL ys)).length = szL ys := (by rw [List.length_take]; omega)
  have hc := Decode_u w1 b' o' c (ys.take (szL ys)) (hG.keep (fun h => h) hS) (hZ.keep (fun h => h) hS) (hWy.take _) (by omega)
  rw [htl] at hc
  refine hc.mono ?_
  rintro e w' ⟨ok2, C, S, d, m, Kd, rfl, hMd, hSd, hbad2, hok2⟩
  refine ⟨_, _, rfl, hS.join hSd, ?_⟩
  refine zM rfl <| zX rfl <| zX rfl <| ?_
  skip
  cases ok2
  refine zW many_39 rfl rfl <| zW many_37 rfl rfl <| zN <| cS <| cR <| zV (v_loadN rfl rfl many_37 rfl allAt) rfl <| zV (v_build rfl rfl zero_37 plc_37 rfl) rfl <| ?_
  refine zV (v_neq_aggT rfl rfl rfl eqk_37 eqg_37 rfl rfl (by exact fun h => by injection h with h1 _; injection h1 with _ h1; exact (hbad2 rfl).1 h1)) rfl ?_
  refine zN <| cT rfl <| cS <| WC.orders mixed <| rF 5 [0, 1, 3, 4] <| pV (v_move rfl rfl) rfl <| pV (v_move rfl rfl) rfl <| pV (v_nilCheck rfl rfl) rfl <| pV (v_fieldAddr rfl rfl fld_101_0) rfl <| WP.nil <| ?_
  refine WR.each (g := 4) [2, 5] (by kernel_rfl) (by decide) ?_
  refine ⟨?_, ?_⟩
  refine zV (v_loadN rfl rfl many_37 rfl allAt) rfl <| zH <| rO 3 [5] <| zO one_25 rfl rfl <| zH <| rF 1 [6, 7] <| pV (v_nilCheck rfl rfl) rfl <| pV (v_fieldAddr rfl rfl fld_101_2) rfl <| WP.nil <| rO 0 [8] <| ?_
  refine WL.storeN rfl rfl rfl rfl many_37 rfl (by first | exact Nat.le_of_ble_eq_true rfl | simp) (.none rfl) rfl ?_
  refine zH <| rD <| eN <| cS <| WC.orders mixed <| rF 2 [0, 2] <| pV (v_move rfl rfl) rfl <| pV (v_assign rfl rfl) rfl <| WP.nil <| rA 1 [1] rfl <| qV (v_loadN rfl rfl many_37 rfl allAt) rfl <| WQ.nilR <| rO 0 [3] <| zW many_37 rfl rfl <| ?_
  refine zH <| rD <| eN <| cE <| eR <| eB <| eR <| eB <| eR <| WE.ret2 (P := Tryz.prog) (.inl rfl) Tryz.results55 rfl (resRow rfl many_37 rfl) <| ?_
  have e0 := hy.trans (feedM_flt h19' hz (by omega) (hbad2 rfl).2)
  refine fun w' h => ⟨ad, mc, ms, Em, K, none, 0, [], [], some (C, S, d), e0, rfl, hVm, hK, Vec.nil 1, Bys.nil, ?_⟩
  have h1 := (((h.sub (List.sublist_append_right _ _)).sub (.cons _ (.cons _ (.refl _)))).sub (List.Sublist.append_left (.cons_cons _ (.cons _ (List.Sublist.append_left (List.sublist_append_of_sublist_right (List.sublist_append_right _ _)) _))) _))
  rw [splice8_e] at h1
  exact St.front (R := [_]) (L := K ++ L) Em h1
  refine zO one_25 rfl rfl <| zH <| rA 1 [2, 6, 7] rfl <| qV (v_loadN rfl rfl many_37 rfl allAt) rfl <| qV (v_nilCheck rfl rfl) rfl <| qV (v_fieldAddr rfl rfl fld_101_2) rfl <| WQ.nilR <| rO 0 [8] <| ?_
  refine WL.storeN rfl rfl rfl rfl many_37 rfl (by first | exact Nat.le_of_ble_eq_true rfl | simp) (.none rfl) rfl ?_
  refine zH <| rD <| eN <| cS <| WC.orders mixed <| rF 2 [0, 2] <| pV (v_move rfl rfl) rfl <| pV (v_assign rfl rfl) rfl <| WP.nil <| rA 1 [1] rfl <| qV (v_loadN rfl rfl many_37 rfl allAt) rfl <| WQ.nilR <| rO 0 [3] <| zW many_37 rfl rfl <| ?_
  refine zH <| rD <| eN <| cE <| eR <| eB <| eR <| eB <| eR <| WE.ret2 (P := Tryz.prog) (.inl rfl) Tryz.results55 rfl (resRow rfl many_37 rfl) <| ?_
  have e0 := hy.trans (feedM_flt h19' hz (by omega) (hbad2 rfl).2)
  refine fun w' h => ⟨ad, mc, ms, Em, K, none, 0, [], [], some (C, S, d), e0, rfl, hVm, hK, Vec.nil 1, Bys.nil, ?_⟩
  have h1 := (((h.sub (List.sublist_append_right _ _)).sub (.cons _ (.cons _ (.refl _)))).sub (List.Sublist.append_left (.cons_cons _ (.cons _ (List.Sublist.append_left (List.sublist_append_of_sublist_right (List.sublist_append_right _ _)) _))) _))
  rw [splice8_e] at h1
  exact St.front (R := [_]) (L := K ++ L) Em h1
  refine zW many_39 rfl rfl <| zW many_37 rfl rfl <| zN <| cS <| cR <| zV (v_loadN rfl rfl many_37 rfl allAt) rfl <| ?_
  obtain ⟨rfl, rfl, rfl, hdm⟩ := hok2 rfl
  refine zV (v_build rfl rfl zero_37 plc_37 rfl) rfl ?_
  refine zV (v_neq_aggF rfl rfl rfl eqk_37 eqg_37 rfl rfl (by rfl)) rfl ?_
  refine zN <| cF rfl <| cK <| eN <| cR <| zM rfl <| zV (v_loadN rfl rfl many_39 rfl allAt) rfl <| zB Tryz.underlying110 sz_39 zero_39 rfl rfl <| ?_
  intro g70 hg70
  refine WL.as (L' := .row g70 m.cells :: (Kd ++ (.row g10 m.cells :: .row g9 (fltL 0 0 ⟨#[]⟩) :: (Em ++ (.row gr (P8 v0 v1 v2 v3 v4 v5 v6 v7 ⟨rad, rcap, ws, cnt + (ms.length : Int), 0, 0, ⟨#[]⟩⟩ tl) :: .row g5 (fltL 0 0 ⟨#[]⟩) :: (K ++ (E28 ++ (E ++ L)))))))) rfl ?_
  refine WL.to (L' := Em ++ (.row g70 m.cells :: (Kd ++ (.row g10 m.cells :: .row g9 (fltL 0 0 ⟨#[]⟩) :: .row gr (P8 v0 v1 v2 v3 v4 v5 v6 v7 ⟨rad, rcap, ws, cnt + (ms.length : Int), 0, 0, ⟨#[]⟩⟩ tl) :: .row g5 (fltL 0 0 ⟨#[]⟩) :: (K ++ (E28 ++ (E ++ L))))))) (fun w hS => by
    have := St.front (R := Em) (L := .row gr (P8 v0 v1 v2 v3 v4 v5 v6 v7 ⟨rad, rcap, ws, cnt + (ms.length : Int), 0, 0, ⟨#[]⟩⟩ tl) :: .row g5 (fltL 0 0 ⟨#[]⟩) :: (K ++ (E28 ++ (E ++ L)))) (.row g70 m.cells :: (Kd ++ [.row g10 m.cells, .row g9 (fltL 0 0 ⟨#[]⟩)])) (by simpa only [List.cons_append, List.append_assoc, List.nil_append] using hS)
    simpa only [List.cons_append, List.append_assoc, List.nil_append] using this) ?_
  refine WL.appendL rfl rfl rfl Tryz.underlying110 Tryz.underlying110 sz_39 by_39 zero_39 rfl rfl hVm (new := m.cells) (fun _ => ⟨g70, 0, rfl, fun w hS => allAt (g := g70) w hS⟩) rfl rfl (by omega) (.none rfl) rfl rfl ?_
  intro ad71 c71 E71 hV71 hr71
  rw [← msgsL_snoc] at hV71
  rw [show ms.length + 1 = (ms ++ [m]).length by rw [List.length_append]; rfl] at hV71 ⊢
  refine zA rfl <| zR <| zM rfl <| zC rfl <| zV (v_fieldAddr rfl rfl fld_101_1) rfl <| zV (v_load1 rfl rfl one_3 (cellAt (v := .int .i64 (cnt + (ms.length : Int))) rfl)) rfl <| ?_
  refine zV (v_add rfl rfl rfl (show _ = cnt + ((ms ++ [m]).length : Int) from (w_i64 (by omega) (by omega)).trans (by rw [List.length_append]; show cnt + (ms.length : Int) + 1 = cnt + ((ms.length + 1 : Nat) : Int); omega))) rfl ?_
  refine zC rfl <| zV (v_fieldAddr rfl rfl fld_101_1) rfl <| zO one_3 rfl rfl <| WL.as (L' := E71 ++ (.row g70 m.cells :: (Kd ++ (.row g10 m.cells :: .row g9 (fltL 0 0 ⟨#[]⟩) :: .row gr (P8 v0 v1 v2 v3 v4 v5 v6 v7 ⟨rad, rcap, ws, cnt + ((ms ++ [m]).length : Int), 0, 0, ⟨#[]⟩⟩ tl) :: .row g5 (fltL 0 0 ⟨#[]⟩) :: (K ++ (E28 ++ (E ++ L))))))) rfl <| ?_
  refine WL.to (L' := E71 ++ (.row gr (P8 v0 v1 v2 v3 v4 v5 v6 v7 ⟨rad, rcap, ws, cnt + ((ms ++ [m]).length : Int), 0, 0, ⟨#[]⟩⟩ tl) :: .row g5 (fltL 0 0 ⟨#[]⟩) :: ((Kd ++ K) ++ (E28 ++ (E ++ L))))) (fun w hS => by
    have h1 : St (fun _ => False) w0 w (E71 ++ (Kd ++ (.row gr (P8 v0 v1 v2 v3 v4 v5 v6 v7 ⟨rad, rcap, ws, cnt + ((ms ++ [m]).length : Int), 0, 0, ⟨#[]⟩⟩ tl) :: .row g5 (fltL 0 0 ⟨#[]⟩) :: (K ++ (E28 ++ (E ++ L)))))) := hS.sub (List.Sublist.append_left (.cons _ (List.Sublist.append_left (.cons _ (.cons _ (.refl _))) _)) _)
    refine h1.perm (List.Perm.append_left E71 ?_)
    have := List.perm_append_comm_assoc Kd [.row gr (P8 v0 v1 v2 v3 v4 v5 v6 v7 ⟨rad, rcap, ws, cnt + ((ms ++ [m]).length : Int), 0, 0, ⟨#[]⟩⟩ tl), .row g5 (fltL 0 0 ⟨#[]⟩)] (K ++ (E28 ++ (E ++ L)))
    simpa only [List.cons_append, List.append_assoc, List.nil_append] using this.symm) ?_
  refine zN <| WC.region <| zM rfl <| zM rfl <| ?_
  refine zV ((v_slice_lo (lo := szL ys) rfl rfl rfl Tryz.underlying25 sz_5 rfl (by omega))) rfl ?_
  refine zA rfl <| WL.nil <| eY <| ?_
  exact WE.next ⟨ys.drop (szL ys), some ⟨b', sAddr o' (szL ys) c 1, none⟩, c - szL ys, ms ++ [m], ad71, c71, E71, Kd ++ K⟩ (by dsimp only; rw [List.length_drop]; omega) ⟨by dsimp only; rw [List.length_drop, List.length_append, List.length_cons, List.length_nil]; omega, hVy.drop _, by dsimp only; rw [hy, feedM_on h19' hz (by omega) hdm, List.map_append]; rfl, hV71, fun x hx => by
  rcases List.mem_append.1 hx with hx | hx
  · exact (hK x hx).mono fun e he => List.mem_append_right _ he
  · rcases List.mem_cons.1 hx with rfl | hx
    · exact hMd.mono fun e he => List.mem_append_left _ he
    · cases hx⟩ (.cons rfl (.cons rfl (.eq rfl (by dsimp only; rw [List.length_drop]) (.cons rfl .nil)))) (.refl _)
  refine zN <| cF rfl <| cX <| eX <| eX <| eH <| ?_
  exact WE.mid ⟨ys, aa, c, ms, ad, mc, Em, K⟩ ⟨by dsimp only; omega, hVy, by rw [hy]; exact feedM_few (by omega), hVm, hK⟩ (.cons rfl (.cons rfl (.cons rfl (.cons rfl .nil)))) (.refl _)
  rintro ⟨ys, aa, c, ms, ad, mc, Em, K⟩ ⟨hl, hVy, hy, hVm, hK⟩
  dsimp only at hl hVy hy hVm hK
  dsimp only
  refine cR <| zM rfl <| zM rfl <| zK ck_86 rfl <| ?_
  intro w1 hS
  refine (CloneV_c w1 E28 aa c ys hVy (fun e he => hS.holds e (List.mem_append_right _ (.tail _ (.tail _ (List.mem_append_right _ (List.mem_append_left _ he)))))) (by omega)).mono ?_
  rintro e w' ⟨_, rfl, wad, wc, Ew, rfl, hVw2, hSw⟩
  refine ⟨_, _, rfl, hS.join hSw, ?_⟩
  refine zC rfl <| zV (v_fieldAddr rfl rfl fld_101_0) rfl <| zO one_25 rfl rfl <| zR <| zM rfl <| zV (v_build rfl rfl zero_37 plc_37 rfl) rfl <| zA rfl <| zW many_37 rfl rfl <| zN <| cE <| WE.ret2 (P := Tryz.prog) (.inl rfl) Tryz.results55 rfl (resRow rfl many_37 rfl) <| ?_
  refine fun w' h => ⟨ad, mc, ms, Em, K, wad, wc, ys, Ew, none, hy, rfl, hVm, hK, hVw2, hVy.bys, ?_⟩
  have h1 := h.sub (List.Sublist.append_left (List.Sublist.append_left (.cons_cons _ (.cons _ (List.Sublist.append_left (List.sublist_append_of_sublist_right (List.sublist_append_right _ _)) _))) _) _)
  have h2 := St.front (R := [_]) (L := K ++ L) (Ew ++ Em) (by simpa only [List.cons_append, List.append_assoc, List.nil_append] using h1)
  refine (show St _ _ _ (.row gr ((P8 v0 v1 v2 v3 v4 v5 v6 v7 ⟨rad, rcap, ws, cnt + (ms.length : Int), 0, 0, ⟨#[]⟩⟩ tl).set 8 (.slice wad ys.length wc)) :: (Ew ++ (Em ++ (K ++ L)))) from ?_)
  simpa only [List.cons_append, List.append_assoc, List.nil_append] using h2
abbrev P16 (v0 v1 v2 v3 v4 v5 v6 v7 v8 v9 v10 v11 v12 v13 v14 v15 : Value) (r : RdL) (tl : List Value) : List Value := v0 :: v1 :: v2 :: v3 :: v4 :: v5 :: v6 :: v7 :: v8 :: v9 :: v10 :: v11 :: v12 :: v13 :: v14 :: v15 :: .slice r.ad r.wait.length r.cap :: .int .i64 r.count :: .int .i64 r.fc :: .int .i64 r.fs :: .string r.fd :: tl
theorem splice16_e (v0 v1 v2 v3 v4 v5 v6 v7 v8 v9 v10 v11 v12 v13 v14 v15 x : Value) (r : RdL) (tl : List Value) (C S : Int) (d : ByteArray) : splice ((P16 v0 v1 v2 v3 v4 v5 v6 v7 v8 v9 v10 v11 v12 v13 v14 v15 r tl).set (16 + 0) x) (16 + 2) (fltL C S d) = v0 :: v1 :: v2 :: v3 :: v4 :: v5 :: v6 :: v7 :: v8 :: v9 :: v10 :: v11 :: v12 :: v13 :: v14 :: v15 :: x :: .int .i64 r.count :: .int .i64 C :: .int .i64 S :: .string d :: tl := by
  show v0 :: v1 :: v2 :: v3 :: v4 :: v5 :: v6 :: v7 :: v8 :: v9 :: v10 :: v11 :: v12 :: v13 :: v14 :: v15 :: x :: .int .i64 r.count :: .int .i64 C :: .int .i64 S :: .string d :: splice tl 0 [] = _
  rw [splice_nil]
def Feed16P (w0 w' : World) (gr : Nat) (v0 v1 v2 v3 v4 v5 v6 v7 v8 v9 v10 v11 v12 v13 v14 v15 : Value) (tl : List Value) (r : RdL) (bs : List Int) (L : List Ent) (e : Ending) : Prop :=
  ∃ (ad : Option Addr) (mc : Nat) (ms : List MsL) (Em K : List Ent) (wad : Option Addr) (wc : Nat) (rest : List Int) (Ew : List Ent) (f : Option (Int × Int × ByteArray)),
    feedM [] (r.wait ++ bs) = (ms.map MsL.d, f, rest) ∧ e = .returned (.tuple #[.slice ad ms.length mc, .agg (fltL (fltOf f).1 (fltOf f).2.1 (fltOf f).2.2).toArray]) ∧ Vec 20 ad ms.length mc (msgsL ms) Em ∧ (∀ m ∈ ms, MsAll K m) ∧ BV wad wc rest Ew ∧ Bys rest ∧
    St (fun _ => False) w0 w' (.row gr (P16 v0 v1 v2 v3 v4 v5 v6 v7 v8 v9 v10 v11 v12 v13 v14 v15 ⟨wad, wc, rest, r.count + ms.length, (fltOf f).1, (fltOf f).2.1, (fltOf f).2.2⟩ tl) :: (Ew ++ (Em ++ (K ++ L))))
set_option maxHeartbeats 4000000 in
theorem Feed16_c (w0 w1 : World) (gr : Nat) (v0 v1 v2 v3 v4 v5 v6 v7 v8 v9 v10 v11 v12 v13 v14 v15 : Value) (tl : List Value) (r : RdL) (ba : Option Addr) (bc : Nat) (bs : List Int) (E L : List Ent) (hG : GF w0) (hZ : GZ w0) (hr : r.fc = 0 ∧ r.fs = 0 ∧ r.fd = ⟨#[]⟩) (hV : BV r.ad r.cap r.wait E) (hB : Bys (r.wait ++ bs)) (hb : ∀ w, St (fun _ => False) w0 w (.row gr (P16 v0 v1 v2 v3 v4 v5 v6 v7 v8 v9 v10 v11 v12 v13 v14 v15 r tl) :: (E ++ L)) → CellsAt w ba (u8s bs)) (hn : (r.wait ++ bs).length ≤ 50000) (hc : 0 ≤ r.count ∧ r.count ≤ 4611686018427387904)
    (hS0 : St (fun _ => False) w0 w1 (.row gr (P16 v0 v1 v2 v3 v4 v5 v6 v7 v8 v9 v10 v11 v12 v13 v14 v15 r tl) :: (E ++ L))) :
    Calls Tryz.prog 55 #[.pointer (some ⟨gr, 16, none⟩), .slice ba bs.length bc] w1 fun e w' => Feed16P w0 w' gr v0 v1 v2 v3 v4 v5 v6 v7 v8 v9 v10 v11 v12 v13 v14 v15 tl r bs L e := by
  obtain ⟨rad, rcap, ws, cnt, rfc, rfs, rfd⟩ := r
  dsimp only at hr hV hB hn hc
  obtain ⟨rfl, rfl, rfl⟩ := hr
  have hln : ws.length ≤ 50000 ∧ bs.length ≤ 50000 := by rw [List.length_append] at hn; omega
  refine enter Tryz.func55 rfl Tryz.ntmps55 rfl hS0 ?_
  refine cR <| zA rfl <| WL.alloc rfl zero_37 (.none rfl) rfl rfl <| ?_
  intro g5 hg5
  refine zN <| cS <| cR <| zM rfl <| zV (v_eql_nil false rfl rfl Tryz.underlying161 rfl) rfl <| zM rfl <| zS (v_move rfl rfl) rfl <| zS (v_nilCheck rfl rfl) rfl <| zS (v_fieldAddr rfl rfl fld_101_2) rfl <| zS (v_loadN rfl rfl many_37 rfl (segAt (m := 3) rfl)) rfl <| zS (v_build rfl rfl zero_37 plc_37 rfl) rfl <| ?_
  refine zS (v_neq_aggF rfl rfl rfl eqk_37 eqg_37 rfl rfl (by rfl)) rfl ?_
  refine zQ rfl <| zN <| cF rfl <| cK <| eN <| cR <| zM rfl <| zC rfl <| zV (v_fieldAddr rfl rfl fld_101_0) rfl <| zV (v_load1 rfl rfl one_25 (cellAt (v := .slice rad ws.length rcap) rfl)) rfl <| zM rfl <| zB Tryz.underlying193 sz_25 zero_25 rfl rfl <| ?_
  intro g27 hg27
  have hcat : catL [⟨rad, rcap, ws⟩, ⟨ba, bc, bs⟩] = ws ++ bs := (by show ws ++ (bs ++ []) = _; rw [List.append_nil])
  refine zK ck_83 rfl ?_
  intro w1 hS
  refine (Concat_c w1 g27 0 2 [⟨rad, rcap, ws⟩, ⟨ba, bc, bs⟩] (rows1 (allAt (g := g27) w1 hS) rfl) (fun s hs => by
    rcases List.mem_cons.1 hs with rfl | hs
    · intro h0
      obtain ⟨b, o, e, hr⟩ := hV.src (L := .row g27 _ :: .row g5 _ :: .row gr _ :: (E ++ L)) (fun e he => .tail _ (.tail _ (.tail _ (List.mem_append_left _ he)))) h0
      exact ⟨b, o, e, hr _ _ _ hS⟩
    · rcases List.mem_cons.1 hs with rfl | hs
      · exact hb _ (hS.sub (.cons _ (.cons _ (.refl _))))
      · cases hs) (by rw [hcat]; omega) (by show 2 ≤ 1000; omega)).mono ?_
  rintro e w' ⟨_, rfl, ad28, c28, E28, rfl, hV28, hS'⟩
  refine ⟨_, _, rfl, hS.join hS', ?_⟩
  rw [hcat] at hV28 ⊢
  have hVw := View.of hV28 hB
  refine WL.to (L' := [] ++ (.row gr (P16 v0 v1 v2 v3 v4 v5 v6 v7 v8 v9 v10 v11 v12 v13 v14 v15 ⟨rad, rcap, ws, cnt + ((0 : Nat) : Int), 0, 0, ⟨#[]⟩⟩ tl) :: .row g5 (fltL 0 0 ⟨#[]⟩) :: ([] ++ (E28 ++ (E ++ L))))) (fun w hS => by
    have h1 := hS.sub (List.Sublist.append_left (List.sublist_cons_self _ _) E28)
    have h2 := St.front (R := [.row g5 _, .row gr _]) (L := E ++ L) E28 h1
    have h3 := h2.perm (List.Perm.swap _ _ _)
    rw [show cnt + ((0 : Nat) : Int) = cnt by omega]
    exact h3) ?_
  refine zA rfl <| zR <| zA rfl <| zN <| ?_
  refine WC.cut (fun y : FdS => [(0, .pointer (some ⟨gr, 16, none⟩)), (5, .pointer (some ⟨g5, 0, none⟩)), (6, .slice y.aa y.ys.length y.c), (7, .slice y.ad y.ms.length y.mc)]) (fun y => y.Em ++ (.row gr (P16 v0 v1 v2 v3 v4 v5 v6 v7 v8 v9 v10 v11 v12 v13 v14 v15 ⟨rad, rcap, ws, cnt + (y.ms.length : Int), 0, 0, ⟨#[]⟩⟩ tl) :: .row g5 (fltL 0 0 ⟨#[]⟩) :: (y.K ++ (E28 ++ (E ++ L))))) (fun y => y.ys.length ≤ (ws ++ bs).length ∧ View E28 y.aa y.c y.ys ∧ feedM [] (ws ++ bs) = (y.ms.map MsL.d, none, y.ys) ∧ Vec 20 y.ad y.ms.length y.mc (msgsL y.ms) y.Em ∧ ∀ m ∈ y.ms, MsAll y.K m) ?_ ?_
  refine cB ?_
  refine WC.loop (fun x : FdS => [(0, .pointer (some ⟨gr, 16, none⟩)), (5, .pointer (some ⟨g5, 0, none⟩)), (6, .slice x.aa x.ys.length x.c), (7, .slice x.ad x.ms.length x.mc)]) (fun x => x.Em ++ (.row gr (P16 v0 v1 v2 v3 v4 v5 v6 v7 v8 v9 v10 v11 v12 v13 v14 v15 ⟨rad, rcap, ws, cnt + (x.ms.length : Int), 0, 0, ⟨#[]⟩⟩ tl) :: .row g5 (fltL 0 0 ⟨#[]⟩) :: (x.K ++ (E28 ++ (E ++ L))))) (fun x => x.ms.length + x.ys.length ≤ (ws ++ bs).length ∧ View E28 x.aa x.c x.ys ∧ feedM [] (ws ++ bs) = feedM (x.ms.map MsL.d) x.ys ∧ Vec 20 x.ad x.ms.length x.mc (msgsL x.ms) x.Em ∧ ∀ m ∈ x.ms, MsAll x.K m) (fun x => x.ys.length) ⟨ws ++ bs, ad28, c28, [], none, 0, [], []⟩ ⟨by simp, hVw, rfl, Vec.nil 20, fun _ h => by cases h⟩ (.cons rfl (.cons rfl (.cons rfl (.cons rfl .nil)))) (.refl _) ?_
  rintro ⟨ys, aa, c, ms, ad, mc, Em, K⟩ ⟨hl, hVy, hy, hVm, hK⟩
  dsimp only at hl hVy hy hVm hK
  dsimp only
  refine cS <| cR <| zM rfl <| zV (v_len_slice rfl rfl Tryz.underlying25) rfl <| ?_
  refine zT (v_geq rfl rfl rfl) rfl (fun h31 => ?_) (fun h31 => ?_)
  refine zN <| cT rfl <| cK <| eN <| cB <| cR <| zM rfl <| ?_
  have h19' : ¬ ys.length < 19 := (by omega)
  obtain ⟨b', o', rfl⟩ := hVy.some (by omega)
  have hle := hVy.le
  refine zK ck_84 rfl ?_
  intro w1 hS
  refine (Size_u w1 b' o' c ys (hVy.win (fun e he => hS.holds e (List.mem_append_right _ (.tail _ (.tail _ (List.mem_append_right _ (List.mem_append_left _ he))))))) (by omega)).mono ?_
  rintro e w' ⟨ok, n, C, S, d, rfl, hF, hbad, hok⟩
  refine ⟨_, _, rfl, hS.ext hF, ?_⟩
  refine zM rfl <| zX rfl <| zX rfl <| ?_
  skip
  cases ok
  refine WL.alloc rfl zero_37 (.none rfl) rfl rfl ?_
  intro g9 hg9
  refine zA rfl <| zW many_37 rfl rfl <| zN <| cS <| cR <| zV (v_loadN rfl rfl many_37 rfl allAt) rfl <| zV (v_build rfl rfl zero_37 plc_37 rfl) rfl <| ?_
  refine zV (v_eql_aggF rfl rfl rfl eqk_37 eqg_37 rfl rfl (by exact fun h => by injection h with h1 _; injection h1 with _ h1; exact (hbad rfl).1 h1)) rfl ?_
  refine zM rfl ?_
  iterate 4 refine WL.sk rfl ?_
  refine zQ rfl <| zN <| cF rfl <| cK <| eN <| cR <| WL.alloc rfl zero_39 (.none rfl) rfl rfl <| ?_
  intro g10 hg10
  refine zN <| cS <| cR <| zV (v_loadN rfl rfl many_37 rfl allAt) rfl <| zV (v_build rfl rfl zero_37 plc_37 rfl) rfl <| ?_
  refine zV (v_eql_aggF rfl rfl rfl eqk_37 eqg_37 rfl rfl (by exact fun h => by injection h with h1 _; injection h1 with _ h1; exact (hbad rfl).1 h1)) rfl ?_
  refine zN <| cF rfl <| cK <| eN <| cS <| cR <| zV (v_loadN rfl rfl many_37 rfl allAt) rfl <| zV (v_build rfl rfl zero_37 plc_37 rfl) rfl <| ?_
  refine zV (v_neq_aggT rfl rfl rfl eqk_37 eqg_37 rfl rfl (by exact fun h => by injection h with h1 _; injection h1 with _ h1; exact (hbad rfl).1 h1)) rfl ?_
  refine zN <| cT rfl <| cS <| WC.orders mixed <| rF 5 [0, 1, 3, 4] <| pV (v_move rfl rfl) rfl <| pV (v_move rfl rfl) rfl <| pV (v_nilCheck rfl rfl) rfl <| pV (v_fieldAddr rfl rfl fld_101_0) rfl <| WP.nil <| ?_
  refine WR.each (g := 4) [2, 5] (by kernel_rfl) (by decide) ?_
  refine ⟨?_, ?_⟩
  refine zV (v_loadN rfl rfl many_37 rfl allAt) rfl <| zH <| rO 3 [5] <| zO one_25 rfl rfl <| zH <| rF 1 [6, 7] <| pV (v_nilCheck rfl rfl) rfl <| pV (v_fieldAddr rfl rfl fld_101_2) rfl <| WP.nil <| rO 0 [8] <| ?_
  refine WL.storeN rfl rfl rfl rfl many_37 rfl (by first | exact Nat.le_of_ble_eq_true rfl | simp) (.none rfl) rfl ?_
  refine zH <| rD <| eN <| cS <| WC.orders mixed <| rF 2 [0, 2] <| pV (v_move rfl rfl) rfl <| pV (v_assign rfl rfl) rfl <| WP.nil <| rA 1 [1] rfl <| qV (v_loadN rfl rfl many_37 rfl allAt) rfl <| WQ.nilR <| rO 0 [3] <| zW many_37 rfl rfl <| ?_
  refine zH <| rD <| eN <| cE <| eR <| eB <| eR <| eB <| eR <| WE.ret2 (P := Tryz.prog) (.inl rfl) Tryz.results55 rfl (resRow rfl many_37 rfl) <| ?_
  have e0 := hy.trans (feedM_bad h19' (hbad rfl).2 (hbad rfl).1)
  refine fun w' h => ⟨ad, mc, ms, Em, K, none, 0, [], [], some (C, S, d), e0, rfl, hVm, hK, Vec.nil 1, Bys.nil, ?_⟩
  have h1 := h.sub (.cons _ (.cons _ (List.Sublist.append_left (.cons_cons _ (.cons _ (List.Sublist.append_left (List.sublist_append_of_sublist_right (List.sublist_append_right _ _)) _))) _)))
  rw [splice16_e] at h1
  exact St.front (R := [_]) (L := K ++ L) Em h1
  refine zO one_25 rfl rfl <| zH <| rA 1 [2, 6, 7] rfl <| qV (v_loadN rfl rfl many_37 rfl allAt) rfl <| qV (v_nilCheck rfl rfl) rfl <| qV (v_fieldAddr rfl rfl fld_101_2) rfl <| WQ.nilR <| rO 0 [8] <| ?_
  refine WL.storeN rfl rfl rfl rfl many_37 rfl (by first | exact Nat.le_of_ble_eq_true rfl | simp) (.none rfl) rfl ?_
  refine zH <| rD <| eN <| cS <| WC.orders mixed <| rF 2 [0, 2] <| pV (v_move rfl rfl) rfl <| pV (v_assign rfl rfl) rfl <| WP.nil <| rA 1 [1] rfl <| qV (v_loadN rfl rfl many_37 rfl allAt) rfl <| WQ.nilR <| rO 0 [3] <| zW many_37 rfl rfl <| ?_
  refine zH <| rD <| eN <| cE <| eR <| eB <| eR <| eB <| eR <| WE.ret2 (P := Tryz.prog) (.inl rfl) Tryz.results55 rfl (resRow rfl many_37 rfl) <| ?_
  have e0 := hy.trans (feedM_bad h19' (hbad rfl).2 (hbad rfl).1)
  refine fun w' h => ⟨ad, mc, ms, Em, K, none, 0, [], [], some (C, S, d), e0, rfl, hVm, hK, Vec.nil 1, Bys.nil, ?_⟩
  have h1 := h.sub (.cons _ (.cons _ (List.Sublist.append_left (.cons_cons _ (.cons _ (List.Sublist.append_left (List.sublist_append_of_sublist_right (List.sublist_append_right _ _)) _))) _)))
  rw [splice16_e] at h1
  exact St.front (R := [_]) (L := K ++ L) Em h1
  obtain ⟨rfl, rfl, rfl, hz, rfl, hn19, hn4⟩ := hok rfl
  refine WL.alloc rfl zero_37 (.none rfl) rfl rfl ?_
  intro g9 hg9
  refine zA rfl <| zW many_37 rfl rfl <| zN <| cS <| cR <| zV (v_loadN rfl rfl many_37 rfl allAt) rfl <| zV (v_build rfl rfl zero_37 plc_37 rfl) rfl <| ?_
  refine zV (v_eql_aggT rfl rfl rfl eqk_37 eqg_37 rfl rfl (by rfl)) rfl ?_
  refine zM rfl <| zS (v_move rfl rfl) rfl <| zS (v_len_slice rfl rfl Tryz.underlying25) rfl <| zS (v_move rfl rfl) rfl <| ?_
  refine WL.test (v_lss rfl rfl rfl) (.some rfl rfl rfl) rfl rfl (fun h44 => ?_) (fun h44 => ?_)
  refine zP rfl <| zN <| cT rfl <| cX <| eX <| WE.block_miss rfl <| eX <| eH <| ?_
  exact WE.mid ⟨ys, some ⟨b', o', none⟩, c, ms, ad, mc, Em, K⟩ ⟨by dsimp only; omega, hVy, by rw [hy]; exact feedM_wait h19' hz (by omega), hVm, hK⟩ (.cons rfl (.cons rfl (.cons rfl (.cons rfl .nil)))) (.cons _ (.refl _))
  refine zP rfl <| zN <| cF rfl <| cK <| eN <| cR <| WL.alloc rfl zero_39 (.none rfl) rfl rfl <| ?_
  intro g10 hg10
  refine zN <| cS <| cR <| zV (v_loadN rfl rfl many_37 rfl allAt) rfl <| zV (v_build rfl rfl zero_37 plc_37 rfl) rfl <| ?_
  refine zV (v_eql_aggT rfl rfl rfl eqk_37 eqg_37 rfl rfl (by rfl)) rfl ?_
  refine zN <| cT rfl <| WC.region <| zM rfl <| zM rfl <| ?_
  refine zV ((v_slice_hi (hi := szL ys) rfl rfl rfl Tryz.underlying25 sz_5 rfl (by omega))) rfl ?_
  refine zK ck_85 rfl ?_
  intro w1 hS
  have hWy := hVy.win (fun e he => hS.holds e (.tail _ (.tail _ (List.mem_append_right _ (.tail _ (.tail _ (List.mem_append_right _ (List.mem_append_left _ he))))))))
  have htl : (ys.take (szL ys)).length = szL ys := (by rw [List.length_take]; omega)
  have hc := Decode_u w1 b' o' c (ys.take (szL ys)) (hG.keep (fun h => h) hS) (hZ.keep (fun h => h) hS) (hWy.take _) (by omega)
  rw [htl] at hc
  refine hc.mono ?_
  rintro e w' ⟨ok2, C, S, d, m, Kd, rfl, hMd, hSd, hbad2, hok2⟩
  refine ⟨_, _, rfl, hS.join hSd, ?_⟩
  refine zM rfl <| zX rfl <| zX rfl <| ?_
  skip
  cases ok2
  refine zW many_39 rfl rfl <| zW many_37 rfl rfl <| zN <| cS <| cR <| zV (v_loadN rfl rfl many_37 rfl allAt) rfl <| zV (v_build rfl rfl zero_37 plc_37 rfl) rfl <| ?_
  refine zV (v_neq_aggT rfl rfl rfl eqk_37 eqg_37 rfl rfl (by exact fun h => by injection h with h1 _; injection h1 with _ h1; exact (hbad2 rfl).1 h1)) rfl ?_
  refine zN <| cT rfl <| cS <| WC.orders mixed <| rF 5 [0, 1, 3, 4] <| pV (v_move rfl rfl) rfl <| pV (v_move rfl rfl) rfl <| pV (v_nilCheck rfl rfl) rfl <| pV (v_fieldAddr rfl rfl fld_101_0) rfl <| WP.nil <| ?_
  refine WR.each (g := 4) [2, 5] (by kernel_rfl) (by decide) ?_
  refine ⟨?_, ?_⟩
  refine zV (v_loadN rfl rfl many_37 rfl allAt) rfl <| zH <| rO 3 [5] <| zO one_25 rfl rfl <| zH <| rF 1 [6, 7] <| pV (v_nilCheck rfl rfl) rfl <| pV (v_fieldAddr rfl rfl fld_101_2) rfl <| WP.nil <| rO 0 [8] <| ?_
  refine WL.storeN rfl rfl rfl rfl many_37 rfl (by first | exact Nat.le_of_ble_eq_true rfl | simp) (.none rfl) rfl ?_
  refine zH <| rD <| eN <| cS <| WC.orders mixed <| rF 2 [0, 2] <| pV (v_move rfl rfl) rfl <| pV (v_assign rfl rfl) rfl <| WP.nil <| rA 1 [1] rfl <| qV (v_loadN rfl rfl many_37 rfl allAt) rfl <| WQ.nilR <| rO 0 [3] <| zW many_37 rfl rfl <| ?_
  refine zH <| rD <| eN <| cE <| eR <| eB <| eR <| eB <| eR <| WE.ret2 (P := Tryz.prog) (.inl rfl) Tryz.results55 rfl (resRow rfl many_37 rfl) <| ?_
  have e0 := hy.trans (feedM_flt h19' hz (by omega) (hbad2 rfl).2)
  refine fun w' h => ⟨ad, mc, ms, Em, K, none, 0, [], [], some (C, S, d), e0, rfl, hVm, hK, Vec.nil 1, Bys.nil, ?_⟩
  have h1 := (((h.sub (List.sublist_append_right _ _)).sub (.cons _ (.cons _ (.refl _)))).sub (List.Sublist.append_left (.cons_cons _ (.cons _ (List.Sublist.append_left (List.sublist_append_of_sublist_right (List.sublist_append_right _ _)) _))) _))
  rw [splice16_e] at h1
  exact St.front (R := [_]) (L := K ++ L) Em h1
  refine zO one_25 rfl rfl <| zH <| rA 1 [2, 6, 7] rfl <| qV (v_loadN rfl rfl many_37 rfl allAt) rfl <| qV (v_nilCheck rfl rfl) rfl <| qV (v_fieldAddr rfl rfl fld_101_2) rfl <| WQ.nilR <| rO 0 [8] <| ?_
  refine WL.storeN rfl rfl rfl rfl many_37 rfl (by first | exact Nat.le_of_ble_eq_true rfl | simp) (.none rfl) rfl ?_
  refine zH <| rD <| eN <| cS <| WC.orders mixed <| rF 2 [0, 2] <| pV (v_move rfl rfl) rfl <| pV (v_assign rfl rfl) rfl <| WP.nil <| rA 1 [1] rfl <| qV (v_loadN rfl rfl many_37 rfl allAt) rfl <| WQ.nilR <| rO 0 [3] <| zW many_37 rfl rfl <| ?_
  refine zH <| rD <| eN <| cE <| eR <| eB <| eR <| eB <| eR <| WE.ret2 (P := Tryz.prog) (.inl rfl) Tryz.results55 rfl (resRow rfl many_37 rfl) <| ?_
  have e0 := hy.trans (feedM_flt h19' hz (by omega) (hbad2 rfl).2)
  refine fun w' h => ⟨ad, mc, ms, Em, K, none, 0, [], [], some (C, S, d), e0, rfl, hVm, hK, Vec.nil 1, Bys.nil, ?_⟩
  have h1 := (((h.sub (List.sublist_append_right _ _)).sub (.cons _ (.cons _ (.refl _)))).sub (List.Sublist.append_left (.cons_cons _ (.cons _ (List.Sublist.append_left (List.sublist_append_of_sublist_right (List.sublist_append_right _ _)) _))) _))
  rw [splice16_e] at h1
  exact St.front (R := [_]) (L := K ++ L) Em h1
  refine zW many_39 rfl rfl <| zW many_37 rfl rfl <| zN <| cS <| cR <| zV (v_loadN rfl rfl many_37 rfl allAt) rfl <| ?_
  obtain ⟨rfl, rfl, rfl, hdm⟩ := hok2 rfl
  refine zV (v_build rfl rfl zero_37 plc_37 rfl) rfl ?_
  refine zV (v_neq_aggF rfl rfl rfl eqk_37 eqg_37 rfl rfl (by rfl)) rfl ?_
  refine zN <| cF rfl <| cK <| eN <| cR <| zM rfl <| zV (v_loadN rfl rfl many_39 rfl allAt) rfl <| zB Tryz.underlying110 sz_39 zero_39 rfl rfl <| ?_
  intro g70 hg70
  refine WL.as (L' := .row g70 m.cells :: (Kd ++ (.row g10 m.cells :: .row g9 (fltL 0 0 ⟨#[]⟩) :: (Em ++ (.row gr (P16 v0 v1 v2 v3 v4 v5 v6 v7 v8 v9 v10 v11 v12 v13 v14 v15 ⟨rad, rcap, ws, cnt + (ms.length : Int), 0, 0, ⟨#[]⟩⟩ tl) :: .row g5 (fltL 0 0 ⟨#[]⟩) :: (K ++ (E28 ++ (E ++ L)))))))) rfl ?_
  refine WL.to (L' := Em ++ (.row g70 m.cells :: (Kd ++ (.row g10 m.cells :: .row g9 (fltL 0 0 ⟨#[]⟩) :: .row gr (P16 v0 v1 v2 v3 v4 v5 v6 v7 v8 v9 v10 v11 v12 v13 v14 v15 ⟨rad, rcap, ws, cnt + (ms.length : Int), 0, 0, ⟨#[]⟩⟩ tl) :: .row g5 (fltL 0 0 ⟨#[]⟩) :: (K ++ (E28 ++ (E ++ L))))))) (fun w hS => by
    have := St.front (R := Em) (L := .row gr (P16 v0 v1 v2 v3 v4 v5 v6 v7 v8 v9 v10 v11 v12 v13 v14 v15 ⟨rad, rcap, ws, cnt + (ms.length : Int), 0, 0, ⟨#[]⟩⟩ tl) :: .row g5 (fltL 0 0 ⟨#[]⟩) :: (K ++ (E28 ++ (E ++ L)))) (.row g70 m.cells :: (Kd ++ [.row g10 m.cells, .row g9 (fltL 0 0 ⟨#[]⟩)])) (by simpa only [List.cons_append, List.append_assoc, List.nil_append] using hS)
    simpa only [List.cons_append, List.append_assoc, List.nil_append] using this) ?_
  refine WL.appendL rfl rfl rfl Tryz.underlying110 Tryz.underlying110 sz_39 by_39 zero_39 rfl rfl hVm (new := m.cells) (fun _ => ⟨g70, 0, rfl, fun w hS => allAt (g := g70) w hS⟩) rfl rfl (by omega) (.none rfl) rfl rfl ?_
  intro ad71 c71 E71 hV71 hr71
  rw [← msgsL_snoc] at hV71
  rw [show ms.length + 1 = (ms ++ [m]).length by rw [List.length_append]; rfl] at hV71 ⊢
  refine zA rfl <| zR <| zM rfl <| zC rfl <| zV (v_fieldAddr rfl rfl fld_101_1) rfl <| zV (v_load1 rfl rfl one_3 (cellAt (v := .int .i64 (cnt + (ms.length : Int))) rfl)) rfl <| ?_
  refine zV (v_add rfl rfl rfl (show _ = cnt + ((ms ++ [m]).length : Int) from (w_i64 (by omega) (by omega)).trans (by rw [List.length_append]; show cnt + (ms.length : Int) + 1 = cnt + ((ms.length + 1 : Nat) : Int); omega))) rfl ?_
  refine zC rfl <| zV (v_fieldAddr rfl rfl fld_101_1) rfl <| zO one_3 rfl rfl <| WL.as (L' := E71 ++ (.row g70 m.cells :: (Kd ++ (.row g10 m.cells :: .row g9 (fltL 0 0 ⟨#[]⟩) :: .row gr (P16 v0 v1 v2 v3 v4 v5 v6 v7 v8 v9 v10 v11 v12 v13 v14 v15 ⟨rad, rcap, ws, cnt + ((ms ++ [m]).length : Int), 0, 0, ⟨#[]⟩⟩ tl) :: .row g5 (fltL 0 0 ⟨#[]⟩) :: (K ++ (E28 ++ (E ++ L))))))) rfl <| ?_
  refine WL.to (L' := E71 ++ (.row gr (P16 v0 v1 v2 v3 v4 v5 v6 v7 v8 v9 v10 v11 v12 v13 v14 v15 ⟨rad, rcap, ws, cnt + ((ms ++ [m]).length : Int), 0, 0, ⟨#[]⟩⟩ tl) :: .row g5 (fltL 0 0 ⟨#[]⟩) :: ((Kd ++ K) ++ (E28 ++ (E ++ L))))) (fun w hS => by
    have h1 : St (fun _ => False) w0 w (E71 ++ (Kd ++ (.row gr (P16 v0 v1 v2 v3 v4 v5 v6 v7 v8 v9 v10 v11 v12 v13 v14 v15 ⟨rad, rcap, ws, cnt + ((ms ++ [m]).length : Int), 0, 0, ⟨#[]⟩⟩ tl) :: .row g5 (fltL 0 0 ⟨#[]⟩) :: (K ++ (E28 ++ (E ++ L)))))) := hS.sub (List.Sublist.append_left (.cons _ (List.Sublist.append_left (.cons _ (.cons _ (.refl _))) _)) _)
    refine h1.perm (List.Perm.append_left E71 ?_)
    have := List.perm_append_comm_assoc Kd [.row gr (P16 v0 v1 v2 v3 v4 v5 v6 v7 v8 v9 v10 v11 v12 v13 v14 v15 ⟨rad, rcap, ws, cnt + ((ms ++ [m]).length : Int), 0, 0, ⟨#[]⟩⟩ tl), .row g5 (fltL 0 0 ⟨#[]⟩)] (K ++ (E28 ++ (E ++ L)))
    simpa only [List.cons_append, List.append_assoc, List.nil_append] using this.symm) ?_
  refine zN <| WC.region <| zM rfl <| zM rfl <| ?_
  refine zV ((v_slice_lo (lo := szL ys) rfl rfl rfl Tryz.underlying25 sz_5 rfl (by omega))) rfl ?_
  refine zA rfl <| WL.nil <| eY <| ?_
  exact WE.next ⟨ys.drop (szL ys), some ⟨b', sAddr o' (szL ys) c 1, none⟩, c - szL ys, ms ++ [m], ad71, c71, E71, Kd ++ K⟩ (by dsimp only; rw [List.length_drop]; omega) ⟨by dsimp only; rw [List.length_drop, List.length_append, List.length_cons, List.length_nil]; omega, hVy.drop _, by dsimp only; rw [hy, feedM_on h19' hz (by omega) hdm, List.map_append]; rfl, hV71, fun x hx => by
  rcases List.mem_append.1 hx with hx | hx
  · exact (hK x hx).mono fun e he => List.mem_append_right _ he
  · rcases List.mem_cons.1 hx with rfl | hx
    · exact hMd.mono fun e he => List.mem_append_left _ he
    · cases hx⟩ (.cons rfl (.cons rfl (.eq rfl (by dsimp only; rw [List.length_drop]) (.cons rfl .nil)))) (.refl _)
  refine zN <| cF rfl <| cX <| eX <| eX <| eH <| ?_
  exact WE.mid ⟨ys, aa, c, ms, ad, mc, Em, K⟩ ⟨by dsimp only; omega, hVy, by rw [hy]; exact feedM_few (by omega), hVm, hK⟩ (.cons rfl (.cons rfl (.cons rfl (.cons rfl .nil)))) (.refl _)
  rintro ⟨ys, aa, c, ms, ad, mc, Em, K⟩ ⟨hl, hVy, hy, hVm, hK⟩
  dsimp only at hl hVy hy hVm hK
  dsimp only
  refine cR <| zM rfl <| zM rfl <| zK ck_86 rfl <| ?_
  intro w1 hS
  refine (CloneV_c w1 E28 aa c ys hVy (fun e he => hS.holds e (List.mem_append_right _ (.tail _ (.tail _ (List.mem_append_right _ (List.mem_append_left _ he)))))) (by omega)).mono ?_
  rintro e w' ⟨_, rfl, wad, wc, Ew, rfl, hVw2, hSw⟩
  refine ⟨_, _, rfl, hS.join hSw, ?_⟩
  refine zC rfl <| zV (v_fieldAddr rfl rfl fld_101_0) rfl <| zO one_25 rfl rfl <| zR <| zM rfl <| zV (v_build rfl rfl zero_37 plc_37 rfl) rfl <| zA rfl <| zW many_37 rfl rfl <| zN <| cE <| WE.ret2 (P := Tryz.prog) (.inl rfl) Tryz.results55 rfl (resRow rfl many_37 rfl) <| ?_
  refine fun w' h => ⟨ad, mc, ms, Em, K, wad, wc, ys, Ew, none, hy, rfl, hVm, hK, hVw2, hVy.bys, ?_⟩
  have h1 := h.sub (List.Sublist.append_left (List.Sublist.append_left (.cons_cons _ (.cons _ (List.Sublist.append_left (List.sublist_append_of_sublist_right (List.sublist_append_right _ _)) _))) _) _)
  have h2 := St.front (R := [_]) (L := K ++ L) (Ew ++ Em) (by simpa only [List.cons_append, List.append_assoc, List.nil_append] using h1)
  refine (show St _ _ _ (.row gr ((P16 v0 v1 v2 v3 v4 v5 v6 v7 v8 v9 v10 v11 v12 v13 v14 v15 ⟨rad, rcap, ws, cnt + (ms.length : Int), 0, 0, ⟨#[]⟩⟩ tl).set 16 (.slice wad ys.length wc)) :: (Ew ++ (Em ++ (K ++ L)))) from ?_)
  simpa only [List.cons_append, List.append_assoc, List.nil_append] using h2

structure En where
  g : Nat
  name : Int
  time : Int
instance : Inhabited En := ⟨⟨0, 0, 0⟩⟩
def enL (e : En) (i : Nat) : List Value := [.int .i64 e.name, .int .i64 e.time, .int .i64 i]
abbrev enR (e : En) (i : Nat) : Ent := .row e.g (enL e i)
def ents : Nat → List En → List Ent
  | _, [] => []
  | k, e :: es => enR e k :: ents (k + 1) es
def ptr (e : En) : Value := .pointer (some ⟨e.g, 0, none⟩)
def ptrs (hs : List En) : List Value := hs.map ptr
theorem ents_append : ∀ (A B : List En) (k : Nat), ents k (A ++ B) = ents k A ++ ents (k + A.length) B
  | [], B, k => by simp [ents]
  | a :: A, B, k => by
    simp only [List.cons_append, ents, List.length_cons]
    rw [ents_append A B (k + 1), show k + 1 + A.length = k + (A.length + 1) by omega]
theorem ents_get : ∀ (hs : List En) (k i : Nat) (e : En), hs[i]? = some e → enR e (k + i) ∈ ents k hs
  | [], k, i, e, h => by simp at h
  | a :: hs, k, 0, e, h => by
    have : a = e := by simpa using h
    subst this; exact List.mem_cons_self ..
  | a :: hs, k, i + 1, e, h => by
    have := ents_get hs (k + 1) i e (by simpa using h)
    rw [show k + 1 + i = k + (i + 1) by omega] at this
    exact List.mem_cons_of_mem _ this
def el (hs : List En) (i : Nat) : En := hs.getD i default
theorem el_get {hs : List En} {i : Nat} (h : i < hs.length) : hs[i]? = some (el hs i) := by simp [el, h]
theorem ptrs_get {hs : List En} {i : Nat} (h : i < hs.length) {r : List Value} : (ptrs hs ++ r)[i]? = some (ptr (el hs i)) := by
  rw [List.getElem?_append_left (by simpa [ptrs] using h)]
  unfold ptrs
  rw [List.getElem?_map, el_get h]; rfl
def lt (a b : En) : Prop := a.time < b.time ∨ (a.time = b.time ∧ a.name < b.name)
instance (a b : En) : Decidable (lt a b) := by unfold lt; infer_instance

theorem Less_c (w : World) (gL n c i j : Nat) (cs : List Value) (a b : En) (pa pb : Nat) (hL : Row w gL cs) (hi : i < n) (hj : j < n) (ci : cs[i]? = some (ptr a)) (cj : cs[j]? = some (ptr b)) (ha : Row w a.g (enL a pa)) (hb : Row w b.g (enL b pb)) :
    Calls Tryz.prog 184 #[.slice (some ⟨gL, 0, none⟩) n c, .int .i64 i, .int .i64 j] w fun e w' => e = .returned (.bool (decide (lt a b))) ∧ Frm (fun _ => False) w w' := by
  have a0 : w.cell? ⟨a.g, 0, none⟩ = some (.int .i64 a.name) := ha.cell rfl
  have a1 : w.cell? ⟨a.g, 1, none⟩ = some (.int .i64 a.time) := ha.cell rfl
  have b0 : w.cell? ⟨b.g, 0, none⟩ = some (.int .i64 b.name) := hb.cell rfl
  have b1 : w.cell? ⟨b.g, 1, none⟩ = some (.int .i64 b.time) := hb.cell rfl
  have li : w.cell? ⟨gL, 0 + i * 1, none⟩ = some (ptr a) := by rw [Nat.zero_add, Nat.mul_one]; exact hL.cell ci
  have lj : w.cell? ⟨gL, 0 + j * 1, none⟩ = some (ptr b) := by rw [Nat.zero_add, Nat.mul_one]; exact hL.cell cj
  refine enter Tryz.func184 rfl Tryz.ntmps184 rfl (St.start (fun _ => False) w) ?_
  refine cR <| zA rfl <| zN <| cS <| cS <| cQ mixed <| qV (v_move rfl rfl) rfl <| qV (v_move rfl rfl) rfl <| ?_
  refine qV (v_indexAddr (lo := i) rfl rfl rfl Tryz.underlying151 sz_154 (by omega) (by omega)) rfl ?_
  refine qV (v_load1 rfl rfl one_154 (cellOld (fun h => h) li)) rfl <| qV (v_nilCheck rfl rfl) rfl <| qV (v_fieldAddr0 rfl rfl fld_159_1) rfl <| qV (v_load1 rfl rfl one_3 (cellOld (fun h => h) a1)) rfl <| qV (v_move rfl rfl) rfl <| qV (v_move rfl rfl) rfl <| ?_
  refine qV (v_indexAddr (lo := j) rfl rfl rfl Tryz.underlying151 sz_154 (by omega) (by omega)) rfl ?_
  refine qV (v_load1 rfl rfl one_154 (cellOld (fun h => h) lj)) rfl <| qV (v_nilCheck rfl rfl) rfl <| qV (v_fieldAddr0 rfl rfl fld_159_1) rfl <| qV (v_load1 rfl rfl one_3 (cellOld (fun h => h) b1)) rfl <| ?_
  refine qT (v_neq rfl rfl rfl) rfl (fun h21 => ?_) (fun h21 => ?_)
  refine WQ.nil <| eN <| cT rfl <| cS <| cQ mixed <| qV (v_move rfl rfl) rfl <| qV (v_move rfl rfl) rfl <| ?_
  refine qV (v_indexAddr (lo := i) rfl rfl rfl Tryz.underlying151 sz_154 (by omega) (by omega)) rfl ?_
  refine qV (v_load1 rfl rfl one_154 (cellOld (fun h => h) li)) rfl <| qV (v_nilCheck rfl rfl) rfl <| qV (v_fieldAddr0 rfl rfl fld_159_1) rfl <| qV (v_load1 rfl rfl one_3 (cellOld (fun h => h) a1)) rfl <| qV (v_move rfl rfl) rfl <| qV (v_move rfl rfl) rfl <| ?_
  refine qV (v_indexAddr (lo := j) rfl rfl rfl Tryz.underlying151 sz_154 (by omega) (by omega)) rfl ?_
  refine qV (v_load1 rfl rfl one_154 (cellOld (fun h => h) lj)) rfl <| qV (v_nilCheck rfl rfl) rfl <| qV (v_fieldAddr0 rfl rfl fld_159_1) rfl <| qV (v_load1 rfl rfl one_3 (cellOld (fun h => h) b1)) rfl <| qV (v_lss rfl rfl rfl) rfl <| qV (v_assign rfl rfl) rfl <| WQ.nil <| eN <| cE <| eR <| tR Tryz.results184 rfl <| ?_
  refine fun w' h => ⟨?_, h.frm⟩
  have e : decide (a.time < b.time) = decide (lt a b) := by congr 1; unfold lt; simp; omega
  rw [e]
  refine WQ.nil <| eN <| cF rfl <| cK <| eN <| cS <| cQ mixed <| qV (v_move rfl rfl) rfl <| qV (v_move rfl rfl) rfl <| ?_
  refine qV (v_indexAddr (lo := i) rfl rfl rfl Tryz.underlying151 sz_154 (by omega) (by omega)) rfl ?_
  refine qV (v_load1 rfl rfl one_154 (cellOld (fun h => h) li)) rfl <| qV (v_nilCheck rfl rfl) rfl <| qV (v_fieldAddr0 rfl rfl fld_159_0) rfl <| qV (v_load1 rfl rfl one_3 (cellOld (fun h => h) a0)) rfl <| qV (v_move rfl rfl) rfl <| qV (v_move rfl rfl) rfl <| ?_
  refine qV (v_indexAddr (lo := j) rfl rfl rfl Tryz.underlying151 sz_154 (by omega) (by omega)) rfl ?_
  refine qV (v_load1 rfl rfl one_154 (cellOld (fun h => h) lj)) rfl <| qV (v_nilCheck rfl rfl) rfl <| qV (v_fieldAddr0 rfl rfl fld_159_0) rfl <| qV (v_load1 rfl rfl one_3 (cellOld (fun h => h) b0)) rfl <| qV (v_lss rfl rfl rfl) rfl <| qV (v_assign rfl rfl) rfl <| WQ.nil <| eN <| cE <| tR Tryz.results184 rfl <| ?_
  refine fun w' h => ⟨?_, h.frm⟩
  have e : decide (a.name < b.name) = decide (lt a b) := by congr 1; unfold lt; simp; omega
  rw [e]
theorem perm_mid {α : Type} (t : α) (A : List α) (a : α) (B : List α) (b : α) (R : List α) : (t :: (A ++ (a :: (B ++ (b :: R))))).Perm (t :: (A ++ (b :: (B ++ (a :: R))))) := by
  refine List.Perm.cons _ (List.Perm.append_left _ ?_)
  refine (List.Perm.cons a List.perm_middle).trans ?_
  refine (List.Perm.swap b a _).trans ?_
  exact List.Perm.cons b List.perm_middle.symm
theorem set_mid {α : Type} (A : List α) (a : α) (B : List α) (b : α) (R : List α) (u v : α) {i j : Nat} (hi : i = A.length) (hj : j = A.length + 1 + B.length) : ((A ++ (a :: (B ++ (b :: R)))).set i u).set j v = A ++ (u :: (B ++ (v :: R))) := by
  subst hi hj
  rw [List.set_append_right _ _ (Nat.le_refl _), Nat.sub_self, List.set_cons_zero, List.set_append_right _ _ (by omega), show A.length + 1 + B.length - A.length = B.length + 1 by omega, List.set_cons_succ, List.set_append_right _ _ (Nat.le_refl _), Nat.sub_self, List.set_cons_zero]
theorem get_mid1 {α : Type} (A : List α) (a : α) (R : List α) {i : Nat} (hi : i = A.length) : (A ++ (a :: R))[i]? = some a := by
  subst hi; rw [List.getElem?_append_right (Nat.le_refl _), Nat.sub_self]; rfl
theorem get_mid2 {α : Type} (A : List α) (a : α) (B : List α) (b : α) (R : List α) {j : Nat} (hj : j = A.length + 1 + B.length) : (A ++ (a :: (B ++ (b :: R))))[j]? = some b := by
  subst hj; rw [List.getElem?_append_right (by omega), show A.length + 1 + B.length - A.length = B.length + 1 by omega, List.getElem?_cons_succ, List.getElem?_append_right (Nat.le_refl _), Nat.sub_self]; rfl
theorem ptrs_mid (A : List En) (x : En) (B : List En) (y : En) (C : List En) (r : List Value) : ptrs (A ++ (x :: (B ++ (y :: C)))) ++ r = ptrs A ++ (ptr x :: (ptrs B ++ (ptr y :: (ptrs C ++ r)))) := by
  unfold ptrs; simp
theorem ents_mid (A : List En) (x : En) (B : List En) (y : En) (C : List En) (L : List Ent) : ents 0 (A ++ (x :: (B ++ (y :: C)))) ++ L = ents 0 A ++ (enR x A.length :: (ents (A.length + 1) B ++ (enR y (A.length + 1 + B.length) :: (ents (A.length + 1 + B.length + 1) C ++ L)))) := by
  rw [ents_append]
  simp only [ents, ents_append, Nat.zero_add, List.append_assoc, List.cons_append]
set_option maxHeartbeats 1000000 in
theorem Swap_f (p : Nat → Prop) (w0 w : World) (R : List Ent) (gL n c : Nat) (A : List En) (x : En) (B : List En) (y : En) (C : List En) (r : List Value) (hn : n = A.length + 1 + B.length + 1 + C.length)
    (hS : St p w0 w (.row gL (ptrs A ++ (ptr x :: (ptrs B ++ (ptr y :: (ptrs C ++ r))))) :: (ents 0 A ++ (enR x A.length :: (ents (A.length + 1) B ++ (enR y (A.length + 1 + B.length) :: R)))))) :
    Calls Tryz.prog 185 #[.slice (some ⟨gL, 0, none⟩) n c, .int .i64 A.length, .int .i64 ((A.length + 1 + B.length : Nat) : Int)] w fun e w' => e = .returned (.tuple #[]) ∧
      St p w0 w' (.row gL (ptrs A ++ (ptr y :: (ptrs B ++ (ptr x :: (ptrs C ++ r))))) :: (ents 0 A ++ (enR y A.length :: (ents (A.length + 1) B ++ (enR x (A.length + 1 + B.length) :: R))))) := by
  have hA : (ptrs A).length = A.length := by simp [ptrs]
  have hB : (ptrs B).length = B.length := by simp [ptrs]
  have hC : (ptrs C).length = C.length := by simp [ptrs]
  refine enter Tryz.func185 rfl Tryz.ntmps185 rfl hS ?_
  refine cS <| WC.orders mixed <| rF 6 [0, 1, 2, 3, 4, 5, 6, 8, 9, 10] <| pV (v_move rfl rfl) rfl <| pV (v_move rfl rfl) rfl <| pV (v_move rfl rfl) rfl <| pV (v_move rfl rfl) rfl <| pV (v_move rfl rfl) rfl <| pV (v_move rfl rfl) rfl <| ?_
  refine pV (v_indexAddr (lo := A.length + 1 + B.length) rfl rfl rfl Tryz.underlying151 sz_154 (by omega) (by omega)) rfl ?_
  refine pV (v_move rfl rfl) rfl <| pV (v_move rfl rfl) rfl <| ?_
  refine pV (v_indexAddr (lo := A.length) rfl rfl rfl Tryz.underlying151 sz_154 (by omega) (by omega)) rfl ?_
  refine WP.nil <| rA 3 [7, 11, 12] rfl <| ?_
  refine qV (v_load1 rfl rfl one_154 (cellAt (get_mid2 _ _ _ _ _ (by omega)))) rfl ?_
  refine qV (v_load1 rfl rfl one_154 (cellAt (get_mid1 _ _ _ (by omega)))) rfl ?_
  refine qV (v_indexAddr (lo := A.length) rfl rfl rfl Tryz.underlying151 sz_154 (by omega) (by omega)) rfl ?_
  refine WQ.nilR <| rO 2 [13] <| ?_
  refine WL.store1 rfl rfl rfl rfl one_154 (by simp [hA, hB, hC] <;> omega) (.none rfl) rfl ?_
  refine zH <| rF 1 [14] <| ?_
  refine pV (v_indexAddr (lo := A.length + 1 + B.length) rfl rfl rfl Tryz.underlying151 sz_154 (by omega) (by omega)) rfl ?_
  refine WP.nil <| rO 0 [15] <| ?_
  refine WL.store1 rfl rfl rfl rfl one_154 (by simp [hA, hB, hC] <;> omega) (.none rfl) rfl ?_
  refine WL.as (L' := .row gL (ptrs A ++ (ptr y :: (ptrs B ++ (ptr x :: (ptrs C ++ r))))) :: (ents 0 A ++ (enR x A.length :: (ents (A.length + 1) B ++ (enR y (A.length + 1 + B.length) :: R))))) (by rw [set_mid _ _ _ _ _ _ _ (by omega) (by omega)]) ?_
  refine zH <| rD <| eN <| cR <| zM rfl <| zM rfl <| ?_
  refine zV (v_indexAddr (lo := A.length) rfl rfl rfl Tryz.underlying151 sz_154 (by omega) (by omega)) rfl ?_
  refine zV (v_load1 rfl rfl one_154 (cellAt (get_mid1 _ _ _ (by omega)))) rfl ?_
  refine zM rfl <| zC rfl <| zF rfl fld_159_2 <| zO one_3 rfl rfl <| zN <| WC.region <| zM rfl <| zM rfl <| ?_
  refine zV (v_indexAddr (lo := A.length + 1 + B.length) rfl rfl rfl Tryz.underlying151 sz_154 (by omega) (by omega)) rfl ?_
  refine zV (v_load1 rfl rfl one_154 (cellAt (get_mid2 _ _ _ _ _ (by omega)))) rfl ?_
  refine zM rfl <| zC rfl <| zF rfl fld_159_2 <| zO one_3 rfl rfl <| WL.nil <| WE.ret0 (P := Tryz.prog) (.inr rfl) Tryz.results185  <| ?_
  exact fun w' h => ⟨rfl, h.perm (perm_mid _ _ _ _ _ _).symm⟩

theorem lt_asymm {a b : En} (h : lt a b) : ¬ lt b a := by unfold lt at *; omega
theorem nlt_trans {a b c : En} (h1 : ¬ lt a b) (h2 : ¬ lt b c) : ¬ lt a c := by unfold lt at *; omega
theorem nlt_of {a b c : En} (h1 : ¬ lt a b) (h2 : lt c b) : ¬ lt a c := by unfold lt at *; omega

def swp (hs : List En) (i j : Nat) : List En := (hs.set i (el hs j)).set j (el hs i)
theorem swp_len (hs : List En) (i j : Nat) : (swp hs i j).length = hs.length := by simp [swp]
theorem el_swp {hs : List En} {i j k : Nat} (hi : i < hs.length) (hj : j < hs.length) : el (swp hs i j) k = if k = j then el hs i else if k = i then el hs j else el hs k := by
  unfold swp
  show ((hs.set i (el hs j)).set j (el hs i)).getD k default = _
  rw [List.getD_eq_getElem?_getD, List.getElem?_set]
  by_cases h1 : j = k
  · subst h1; simp [hj]
  · rw [if_neg h1, if_neg (fun e => h1 e.symm), List.getElem?_set]
    by_cases h2 : i = k
    · subst h2; simp [hi]
    · rw [if_neg h2, if_neg (fun e => h2 e.symm)]; simp [el]
theorem split2 {hs : List En} {i j : Nat} (h : i < j) (hj : j < hs.length) : ∃ A B C, hs = A ++ (el hs i :: (B ++ (el hs j :: C))) ∧ i = A.length ∧ j = A.length + 1 + B.length ∧ hs.length = A.length + 1 + B.length + 1 + C.length := by
  have e1 := List.drop_eq_getElem_cons (show i < hs.length by omega)
  have e2 := List.drop_eq_getElem_cons hj
  have h1 : hs[i] = el hs i := by simp [el, show i < hs.length by omega]
  have h2 : hs[j] = el hs j := by simp [el, hj]
  refine ⟨hs.take i, (hs.drop (i + 1)).take (j - (i + 1)), hs.drop (j + 1), ?_, by simp; omega, by simp; omega, by simp; omega⟩
  rw [← h2, ← e2]
  have : (hs.drop (i + 1)).take (j - (i + 1)) ++ hs.drop j = hs.drop (i + 1) := by
    have e3 : hs.drop j = (hs.drop (i + 1)).drop (j - (i + 1)) := by rw [List.drop_drop, show i + 1 + (j - (i + 1)) = j by omega]
    rw [e3, List.take_append_drop]
  rw [this, ← h1, ← e1, List.take_append_drop]
theorem swp_mid {hs : List En} {i j : Nat} {A B C : List En} (h : hs = A ++ (el hs i :: (B ++ (el hs j :: C)))) (hi : i = A.length) (hj : j = A.length + 1 + B.length) : swp hs i j = A ++ (el hs j :: (B ++ (el hs i :: C))) := by
  have key : ∀ (x y : En), ((A ++ (x :: (B ++ (y :: C)))).set i y).set j x = A ++ (y :: (B ++ (x :: C))) := fun x y => set_mid _ _ _ _ _ _ _ hi hj
  unfold swp
  have := key (el hs i) (el hs j)
  rw [← h] at this
  exact this
theorem swp_perm {hs : List En} {i j : Nat} (h : i < j) (hj : j < hs.length) : (swp hs i j).Perm hs := by
  obtain ⟨A, B, C, h1, h2, h3, _⟩ := split2 h hj
  rw [swp_mid h1 h2 h3]
  conv => rhs; rw [h1]
  refine List.Perm.append_left _ ?_
  refine (List.Perm.cons _ List.perm_middle).trans ?_
  refine (List.Perm.swap _ _ _).trans ?_
  exact List.Perm.cons _ List.perm_middle.symm

def hsL (gC gL : Nat) (now : Int) (rm : Option Nat) (c : Nat) (hs : List En) (r : List Value) (R : List Ent) : List Ent :=
  .row gL (ptrs hs ++ r) :: (ents 0 hs ++ (.row gC [.int .i64 now, .slice (some ⟨gL, 0, none⟩) hs.length c, .map rm] :: R))
def lnV (gL : Nat) (hs : List En) (c : Nat) : Value := .slice (some ⟨gL, 0, none⟩) hs.length c
section
variable {p : Nat → Prop} {w0 w : World} {gC gL : Nat} {now : Int} {rm : Option Nat} {c : Nat} {hs : List En} {r : List Value} {R : List Ent}
theorem hs_row {i : Nat} (hi : i < hs.length) (hS : St p w0 w (hsL gC gL now rm c hs r R)) : Row w (el hs i).g (enL (el hs i) i) := by
  have h := ents_get hs 0 i _ (el_get hi)
  rw [Nat.zero_add] at h
  exact hS.holds (enR (el hs i) i) (List.mem_cons_of_mem _ (List.mem_append_left _ h))
theorem hs_line (hS : St p w0 w (hsL gC gL now rm c hs r R)) : Row w gL (ptrs hs ++ r) := hS.holds (.row gL (ptrs hs ++ r)) (List.mem_cons_self ..)
theorem Less_h {i j : Nat} (hi : i < hs.length) (hj : j < hs.length) (hS : St p w0 w (hsL gC gL now rm c hs r R)) :
    Calls Tryz.prog 184 #[lnV gL hs c, .int .i64 i, .int .i64 j] w fun e w' => e = .returned (.bool (decide (lt (el hs i) (el hs j)))) ∧ Frm (fun _ => False) w w' :=
  Less_c w gL _ c i j (ptrs hs ++ r) _ _ i j (hs_line hS) hi hj (ptrs_get hi) (ptrs_get hj) (hs_row hi hS) (hs_row hj hS)
theorem Swap_h {i j : Nat} (h : i < j) (hj : j < hs.length) (hS : St p w0 w (hsL gC gL now rm c hs r R)) :
    Calls Tryz.prog 185 #[lnV gL hs c, .int .i64 i, .int .i64 j] w fun e w' => e = .returned (.tuple #[]) ∧ St p w0 w' (hsL gC gL now rm c (swp hs i j) r R) := by
  obtain ⟨A, B, C, h1, h2, h3, h4⟩ := split2 h hj
  have hl := swp_len hs i j
  have e0 := swp_mid h1 h2 h3
  unfold hsL at hS ⊢
  rw [hl]
  have key : ∀ (x y : En) (X : List Value) (r : List Value) (L : List Ent), ptrs (A ++ (x :: (B ++ (y :: C)))) ++ r = ptrs A ++ (ptr x :: (ptrs B ++ (ptr y :: (ptrs C ++ r)))) := fun x y _ r _ => ptrs_mid A x B y C r
  have hS' : St p w0 w (.row gL (ptrs A ++ (ptr (el hs i) :: (ptrs B ++ (ptr (el hs j) :: (ptrs C ++ r))))) :: (ents 0 A ++ (enR (el hs i) A.length :: (ents (A.length + 1) B ++ (enR (el hs j) (A.length + 1 + B.length) :: (ents (A.length + 1 + B.length + 1) C ++ (.row gC [.int .i64 now, .slice (some ⟨gL, 0, none⟩) hs.length c, .map rm] :: R))))))) := by
    rw [← ptrs_mid, ← ents_mid, ← h1]; exact hS
  rw [e0, ptrs_mid, ents_mid]
  unfold lnV
  subst h2 h3
  exact Swap_f p w0 w _ gL _ c A _ B _ C r h4 hS'
end

/-! ### Methods -/
abbrev lnT : Nat := 157
section
variable {p : Nat → Prop} {w0 : World} {L : List Ent} {g k : Nat} {cs : List Value} {v : Value} [At L g cs]
theorem m_Len (h : cs[k]? = some v) : Meth Tryz.prog (fun w => St p w0 w L) lnT (.pointer (some ⟨g, k, none⟩)) "Len" 183 v := fun w hS =>
  meth_val (by kernel_rfl) Tryz.underlying157 (load1_cell one_151 (hS.cell h))
theorem m_Less (h : cs[k]? = some v) : Meth Tryz.prog (fun w => St p w0 w L) lnT (.pointer (some ⟨g, k, none⟩)) "Less" 184 v := fun w hS =>
  meth_val (by kernel_rfl) Tryz.underlying157 (load1_cell one_151 (hS.cell h))
theorem m_Swap (h : cs[k]? = some v) : Meth Tryz.prog (fun w => St p w0 w L) lnT (.pointer (some ⟨g, k, none⟩)) "Swap" 185 v := fun w hS =>
  meth_val (by kernel_rfl) Tryz.underlying157 (load1_cell one_151 (hS.cell h))
end
theorem m_Push {C : World → Prop} {u : Value} : Meth Tryz.prog C lnT u "Push" 187 u := fun _ _ => meth_ptr (by kernel_rfl) Tryz.underlying157
theorem m_Pop {C : World → Prop} {u : Value} : Meth Tryz.prog C lnT u "Pop" 186 u := fun _ _ => meth_ptr (by kernel_rfl) Tryz.underlying157

theorem Len_c (w : World) (a : Option Addr) (n c : Nat) :
    Calls Tryz.prog 183 #[.slice a n c] w fun e w' => e = .returned (.int .i64 n) ∧ Frm (fun _ => False) w w' := by
  refine enter Tryz.func183 rfl Tryz.ntmps183 rfl (St.start (fun _ => False) w) ?_
  refine cR <| zA rfl <| zR <| zM rfl <| zV (v_len_slice rfl rfl Tryz.underlying151) rfl <| zA rfl <| zN <| cE <| tR Tryz.results183 rfl <| ?_
  exact fun w' h => ⟨rfl, h.frm⟩
def HeapB (m : Nat) (hs : List En) : Prop := ∀ k, 0 < k → k < m → ¬ lt (el hs k) (el hs ((k - 1) / 2))
structure UPre (m : Nat) (hs : List En) (j : Nat) : Prop where
  ok : ∀ k, 0 < k → k < m → k ≠ j → ¬ lt (el hs k) (el hs ((k - 1) / 2))
  kid : ∀ k, 0 < k → k < m → (k - 1) / 2 = j → 0 < j → ¬ lt (el hs k) (el hs ((j - 1) / 2))
structure DPre (m : Nat) (hs : List En) (i : Nat) : Prop where
  ok : ∀ k, 0 < k → k < m → (k - 1) / 2 ≠ i → k ≠ i → ¬ lt (el hs k) (el hs ((k - 1) / 2))
  kid : ∀ k, 0 < k → k < m → (k - 1) / 2 = i → 0 < i → ¬ lt (el hs k) (el hs ((i - 1) / 2))
structure DInv (m i0 : Nat) (hs0 hs : List En) (i : Nat) : Prop where
  le : i0 ≤ i
  ok : ∀ k, 0 < k → k < m → (k - 1) / 2 ≠ i → (k ≠ i0 ∨ i0 < i) → ¬ lt (el hs k) (el hs ((k - 1) / 2))
  kid : ∀ k, 0 < k → k < m → (k - 1) / 2 = i → 0 < i → ¬ lt (el hs k) (el hs ((i - 1) / 2))
  same : i = i0 → hs = hs0
  perm : hs.Perm hs0
  rest : ∀ k, m ≤ k → el hs k = el hs0 k
theorem DInv.start {m i : Nat} {hs : List En} (h : DPre m hs i) : DInv m i hs hs i :=
  ⟨Nat.le_refl _, fun k h0 h1 h2 h3 => h.ok k h0 h1 h2 (by omega), h.kid, fun _ => rfl, List.Perm.refl _, fun _ _ => rfl⟩
theorem DInv.step {m i0 : Nat} {hs0 hs : List En} {i j : Nat} (h : DInv m i0 hs0 hs i) (hj : j = 2 * i + 1 ∨ j = 2 * i + 2) (hjm : j < m) (hm : m ≤ hs.length) (hlt : lt (el hs j) (el hs i))
    (hbest : ∀ k, k < m → (k = 2 * i + 1 ∨ k = 2 * i + 2) → ¬ lt (el hs k) (el hs j)) : DInv m i0 hs0 (swp hs i j) j := by
  have hle := h.le
  have hi' : i < hs.length := by omega
  have hj' : j < hs.length := by omega
  have hij : i < j := by omega
  have hpj : (j - 1) / 2 = i := by omega
  have ei : el (swp hs i j) i = el hs j := by rw [el_swp hi' hj', if_neg (by omega), if_pos rfl]
  have ej : el (swp hs i j) j = el hs i := by rw [el_swp hi' hj', if_pos rfl]
  have eo : ∀ k, k ≠ i → k ≠ j → el (swp hs i j) k = el hs k := fun k h1 h2 => by rw [el_swp hi' hj', if_neg h2, if_neg h1]
  refine ⟨by omega, ?_, ?_, fun e => by omega, (swp_perm hij hj').trans h.perm, fun k hk => by rw [eo k (by omega) (by omega)]; exact h.rest k hk⟩
  · intro k h0 h1 h2 h3
    by_cases c1 : k = j
    · subst c1; rw [ej, hpj, ei]; exact lt_asymm hlt
    · by_cases c2 : (k - 1) / 2 = i
      · rw [eo k (by omega) c1, c2, ei]
        exact hbest k h1 (by omega)
      · by_cases c3 : k = i
        · subst c3
          rw [ei, eo _ (by omega) (by omega)]
          exact h.kid j (by omega) hjm hpj h0
        · rw [eo k c3 c1, eo _ c2 h2]
          exact h.ok k h0 h1 c2 (by omega)
  · intro k h0 h1 h2 h3
    rw [hpj, ei, eo k (by omega) (by omega), ← h2]
    exact h.ok k h0 h1 (by omega) (by omega)
theorem DInv.fin {m i0 : Nat} {hs0 hs : List En} {i : Nat} (h : DInv m i0 hs0 hs i) (hk : ∀ k, k < m → (k = 2 * i + 1 ∨ k = 2 * i + 2) → ¬ lt (el hs k) (el hs i)) : (i0 < i → HeapB m hs) ∧ (¬ i0 < i → hs = hs0 ∧ UPre m hs0 i0) := by
  have hle := h.le
  constructor
  · intro hlt k h0 h1
    by_cases c : (k - 1) / 2 = i
    · rw [c]; exact hk k h1 (by omega)
    · exact h.ok k h0 h1 c (by omega)
  · intro hn
    obtain rfl : i = i0 := by omega
    have e := h.same rfl
    subst e
    refine ⟨rfl, fun k h0 h1 h2 => ?_, h.kid⟩
    by_cases c : (k - 1) / 2 = i
    · rw [c]; exact hk k h1 (by omega)
    · exact h.ok k h0 h1 c (.inl h2)
theorem UPre.step {m : Nat} {hs : List En} {j : Nat} (h : UPre m hs j) (h0 : 0 < j) (hjm : j < m) (hm : m ≤ hs.length) (hlt : lt (el hs j) (el hs ((j - 1) / 2))) : UPre m (swp hs ((j - 1) / 2) j) ((j - 1) / 2) := by
  generalize hi : (j - 1) / 2 = i at *
  have hij : i < j := by omega
  have hi' : i < hs.length := by omega
  have hj' : j < hs.length := by omega
  have ei : el (swp hs i j) i = el hs j := by rw [el_swp hi' hj', if_neg (by omega), if_pos rfl]
  have ej : el (swp hs i j) j = el hs i := by rw [el_swp hi' hj', if_pos rfl]
  have eo : ∀ k, k ≠ i → k ≠ j → el (swp hs i j) k = el hs k := fun k h1 h2 => by rw [el_swp hi' hj', if_neg h2, if_neg h1]
  constructor
  · intro k k0 k1 k2
    by_cases c1 : k = j
    · subst c1; rw [ej, hi, ei]; exact lt_asymm hlt
    · by_cases c2 : (k - 1) / 2 = j
      · rw [eo k k2 c1, c2, ej]
        have := h.kid k k0 k1 c2 h0
        rwa [hi] at this
      · by_cases c3 : (k - 1) / 2 = i
        · rw [eo k k2 c1, c3, ei]
          have := h.ok k k0 k1 c1
          rw [c3] at this
          exact nlt_of this hlt
        · rw [eo k k2 c1, eo _ c3 c2]
          exact h.ok k k0 k1 c1
  · intro k k0 k1 k2 k3
    rw [eo ((i - 1) / 2) (by omega) (by omega)]
    have hp := h.ok i k3 (by omega) (by omega)
    by_cases c1 : k = j
    · subst c1; rw [ej]; exact hp
    · rw [eo k (by omega) c1]
      have := h.ok k k0 k1 c1
      rw [k2] at this
      exact nlt_trans this hp
theorem UPre.fin {m : Nat} {hs : List En} {j : Nat} (h : UPre m hs j) (hj : j = 0 ∨ ¬ lt (el hs j) (el hs ((j - 1) / 2))) : HeapB m hs := fun k h0 h1 => by
  by_cases c : k = j
  · subst c; exact hj.resolve_left (by omega)
  · exact h.ok k h0 h1 c

section
variable {p : Nat → Prop} {w0 w : World} {gC gL : Nat} {now : Int} {rm : Option Nat} {c : Nat} {hs : List En} {r : List Value} {R : List Ent}
instance : At (hsL gC gL now rm c hs r R) gC [.int .i64 now, .slice (some ⟨gL, 0, none⟩) hs.length c, .map rm] := ⟨List.mem_cons_of_mem _ (List.mem_append_right _ (List.mem_cons_self ..))⟩
def lnI (gC : Nat) : Value := .iface lnT (.pointer (some ⟨gC, 1, none⟩))
set_option maxHeartbeats 1000000 in
theorem down_c {i0 m : Nat} (hS : St p w0 w (hsL gC gL now rm c hs r R)) (hm : m ≤ hs.length) (hi0 : i0 ≤ 300) (hl : hs.length ≤ 300) (hD : DPre m hs i0) :
    Calls Tryz.prog 105 #[lnI gC, .int .i64 i0, .int .i64 m] w fun e w' => ∃ hs' b, e = .returned (.bool b) ∧ hs'.length = hs.length ∧ hs'.Perm hs ∧ (∀ k, m ≤ k → el hs' k = el hs k) ∧ (b = true → HeapB m hs') ∧ (b = false → hs' = hs ∧ UPre m hs i0) ∧ St p w0 w' (hsL gC gL now rm c hs' r R) := by
  refine enter Tryz.func105 rfl Tryz.ntmps105 rfl hS ?_
  refine cR <| zA rfl <| zR <| zM rfl <| zA rfl <| zN <| cS <| cB <| WC.loop (fun x : List En × Nat => [(0, lnI gC), (1, .int .i64 i0), (2, .int .i64 m), (7, .int .i64 x.2)]) (fun x => hsL gC gL now rm c x.1 r R) (fun x => DInv m i0 hs x.1 x.2 ∧ x.1.length = hs.length ∧ x.2 ≤ 300) (fun x => 300 - x.2) (hs, i0) ⟨DInv.start hD, rfl, hi0⟩ (.cons rfl (.cons rfl (.cons rfl (.cons rfl .nil)))) (.refl _) <| ?_
  rintro ⟨h2, i⟩ ⟨hI, hlen, hi⟩
  dsimp only at hI hlen hi
  dsimp only
  refine cB <| cR <| zM rfl <| ?_
  refine zV (v_mul rfl rfl rfl (w_i64 (by omega) (by omega))) rfl ?_
  refine zV (v_add rfl rfl rfl (w_i64 (by omega) (by omega))) rfl ?_
  refine zA rfl <| zN <| cS <| cR <| zM rfl <| zM rfl <| ?_
  refine zT (v_geq rfl rfl rfl) rfl (fun h17 => ?_) (fun h17 => ?_)
  refine zM rfl ?_
  iterate 2 refine WL.sk rfl ?_
  refine zP rfl <| zN <| cT rfl <| cX <| eX <| WE.block_miss rfl <| eX <| eH <| eN <| cR <| zM rfl <| zM rfl <| zV (v_gtr rfl rfl rfl) rfl <| ?_
  refine zA rfl <| zN <| cE <| tR Tryz.results105 rfl <| ?_
  have hf := hI.fin (fun k hk hk2 => absurd hk (by omega))
  refine fun w' h => ⟨h2, _, rfl, hlen, hI.perm, hI.rest, fun hb => hf.1 (by simpa using hb), fun hb => hf.2 (by simpa using hb), h⟩
  refine zM rfl <| zS (v_move rfl rfl) rfl <| ?_
  refine zS ((v_lss rfl rfl rfl).f (by omega)) rfl ?_
  refine zQ rfl <| zN <| cF rfl <| cK <| eN <| cR <| zM rfl <| zA rfl <| zN <| cS <| cR <| zM rfl <| ?_
  refine zV (v_add rfl rfl rfl (w_i64 (by omega) (by omega))) rfl ?_
  refine zA rfl <| zR <| zM rfl <| zM rfl <| ?_
  refine zT (v_lss rfl rfl rfl) rfl (fun h27 => ?_) (fun h27 => ?_)
  refine zM rfl <| zS (v_move rfl rfl) rfl <| zS (v_move rfl rfl) rfl <| zS (v_move rfl rfl) rfl <| WL.invoke rfl rfl rfl (m_Less (g := gC) rfl) ck_184 (.some rfl rfl rfl) rfl rfl <| ?_
  intro w hS
  refine Calls.then (Less_h (i := 2 * i + 1 + 1) (j := 2 * i + 1) (by omega) (by omega) hS) hS ?_
  refine zP rfl <| zN <| ?_
  refine WC.cond_d rfl (fun h33 => ?_) (fun h33 => ?_)
  refine WC.region <| zM rfl <| zA rfl <| zN <| cS <| cR <| zM rfl <| zM rfl <| zM rfl <| WL.invoke rfl rfl rfl (m_Less (g := gC) rfl) ck_184 (.none rfl) rfl rfl <| ?_
  intro w hS
  refine Calls.then (Less_h (i := 2 * i + 1 + 1) (j := i) (by omega) (by omega) hS) hS ?_
  refine zV (v_notD rfl rfl) rfl <| zN <| ?_
  refine WC.cond_d rfl (fun h39 => ?_) (fun h39 => ?_)
  refine cX <| eX <| WE.block_miss rfl <| eX <| eH <| eN <| cR <| zM rfl <| zM rfl <| zV (v_gtr rfl rfl rfl) rfl <| zA rfl <| zN <| cE <| ?_
  refine tR Tryz.results105 rfl ?_
  have hf := hI.fin (fun k hk hk2 => by rcases hk2 with rfl | rfl; exact nlt_trans (lt_asymm h33) h39; exact h39)
  refine fun w' h => ⟨h2, _, rfl, hlen, hI.perm, hI.rest, fun hb => hf.1 (by simpa using hb), fun hb => hf.2 (by simpa using hb), h⟩
  refine cK <| eN <| cR <| zM rfl <| zM rfl <| zM rfl <| WL.invoke rfl rfl rfl (m_Swap (g := gC) rfl) ck_185 (.none rfl) rfl rfl <| ?_
  intro w hS
  refine Calls.thenS (Swap_h (i := i) (j := 2 * i + 1 + 1) (by omega) (by omega) hS) ?_
  refine zN <| WC.region <| zM rfl <| zA rfl <| WL.nil <| eY <| ?_
  exact WE.next (swp h2 i (2 * i + 1 + 1), 2 * i + 1 + 1) (by dsimp only; omega) ⟨hI.step (by omega) (by omega) (by omega) (Classical.not_not.1 h39) (fun k hk hk2 => by rcases hk2 with rfl | rfl; exact lt_asymm h33; exact fun h => lt_asymm h h), by rw [swp_len]; exact hlen, by dsimp only; omega⟩ (.cons rfl (.cons rfl (.cons rfl (.cons rfl .nil)))) (.refl _)
  refine cK <| eN <| cS <| cR <| zM rfl <| zM rfl <| zM rfl <| WL.invoke rfl rfl rfl (m_Less (g := gC) rfl) ck_184 (.none rfl) rfl rfl <| ?_
  intro w hS
  refine Calls.then (Less_h (i := 2 * i + 1) (j := i) (by omega) (by omega) hS) hS ?_
  refine zV (v_notD rfl rfl) rfl <| zN <| ?_
  refine WC.cond_d rfl (fun h39 => ?_) (fun h39 => ?_)
  refine cX <| eX <| WE.block_miss rfl <| eX <| eH <| eN <| cR <| zM rfl <| zM rfl <| zV (v_gtr rfl rfl rfl) rfl <| zA rfl <| zN <| cE <| ?_
  refine tR Tryz.results105 rfl ?_
  have hf := hI.fin (fun k hk hk2 => by rcases hk2 with rfl | rfl; exact h39; exact nlt_trans h33 h39)
  refine fun w' h => ⟨h2, _, rfl, hlen, hI.perm, hI.rest, fun hb => hf.1 (by simpa using hb), fun hb => hf.2 (by simpa using hb), h⟩
  refine cK <| eN <| cR <| zM rfl <| zM rfl <| zM rfl <| WL.invoke rfl rfl rfl (m_Swap (g := gC) rfl) ck_185 (.none rfl) rfl rfl <| ?_
  intro w hS
  refine Calls.thenS (Swap_h (i := i) (j := 2 * i + 1) (by omega) (by omega) hS) ?_
  refine zN <| WC.region <| zM rfl <| zA rfl <| WL.nil <| eY <| ?_
  exact WE.next (swp h2 i (2 * i + 1), 2 * i + 1) (by dsimp only; omega) ⟨hI.step (by omega) (by omega) (by omega) (Classical.not_not.1 h39) (fun k hk hk2 => by rcases hk2 with rfl | rfl; exact fun h => lt_asymm h h; exact h33), by rw [swp_len]; exact hlen, by dsimp only; omega⟩ (.cons rfl (.cons rfl (.cons rfl (.cons rfl .nil)))) (.refl _)
  refine zM rfl ?_
  iterate 4 refine WL.sk rfl ?_
  refine zQ rfl <| zN <| cF rfl <| cK <| eN <| cS <| cR <| zM rfl <| zM rfl <| zM rfl <| WL.invoke rfl rfl rfl (m_Less (g := gC) rfl) ck_184 (.none rfl) rfl rfl <| ?_
  intro w hS
  refine Calls.then (Less_h (i := 2 * i + 1) (j := i) (by omega) (by omega) hS) hS ?_
  refine zV (v_notD rfl rfl) rfl <| zN <| ?_
  refine WC.cond_d rfl (fun h39 => ?_) (fun h39 => ?_)
  refine cX <| eX <| WE.block_miss rfl <| eX <| eH <| eN <| cR <| zM rfl <| zM rfl <| zV (v_gtr rfl rfl rfl) rfl <| zA rfl <| zN <| cE <| ?_
  refine tR Tryz.results105 rfl ?_
  have hf := hI.fin (fun k hk hk2 => by rcases hk2 with rfl | rfl; exact h39; exact absurd hk (by omega))
  refine fun w' h => ⟨h2, _, rfl, hlen, hI.perm, hI.rest, fun hb => hf.1 (by simpa using hb), fun hb => hf.2 (by simpa using hb), h⟩
  refine cK <| eN <| cR <| zM rfl <| zM rfl <| zM rfl <| WL.invoke rfl rfl rfl (m_Swap (g := gC) rfl) ck_185 (.none rfl) rfl rfl <| ?_
  intro w hS
  refine Calls.thenS (Swap_h (i := i) (j := 2 * i + 1) (by omega) (by omega) hS) ?_
  refine zN <| WC.region <| zM rfl <| zA rfl <| WL.nil <| eY <| ?_
  exact WE.next (swp h2 i (2 * i + 1), 2 * i + 1) (by dsimp only; omega) ⟨hI.step (by omega) (by omega) (by omega) (Classical.not_not.1 h39) (fun k hk hk2 => by rcases hk2 with rfl | rfl; exact fun h => lt_asymm h h; exact absurd hk (by omega)), by rw [swp_len]; exact hlen, by dsimp only; omega⟩ (.cons rfl (.cons rfl (.cons rfl (.cons rfl .nil)))) (.refl _)
theorem quo_up (j : Nat) (h : j ≤ 300) : IntKind.i64.wrap (((j : Int) - 1).tdiv 2) = (((j - 1) / 2 : Nat) : Int) := by
  cases j with
  | zero => rfl
  | succ j =>
    have e : (((j + 1 : Nat) : Int) - 1).tdiv 2 = ((j / 2 : Nat) : Int) := by
      rw [show ((j + 1 : Nat) : Int) - 1 = (j : Int) by omega, Int.tdiv_eq_ediv_of_nonneg (by omega)]; omega
    rw [e, show j + 1 - 1 = j by omega]
    exact w_i64 (by omega) (by omega)
set_option maxHeartbeats 1000000 in
theorem up_c {j0 m : Nat} (hS : St p w0 w (hsL gC gL now rm c hs r R)) (hm : m ≤ hs.length) (hj0 : j0 < m) (hl : hs.length ≤ 300) (hU : UPre m hs j0) :
    Calls Tryz.prog 106 #[lnI gC, .int .i64 j0] w fun e w' => ∃ hs', e = .returned (.tuple #[]) ∧ hs'.length = hs.length ∧ hs'.Perm hs ∧ (∀ k, m ≤ k → el hs' k = el hs k) ∧ HeapB m hs' ∧ St p w0 w' (hsL gC gL now rm c hs' r R) := by
  refine enter Tryz.func106 rfl Tryz.ntmps106 rfl hS ?_
  refine cB <| WC.loop (fun x : List En × Nat => [(0, lnI gC), (1, .int .i64 x.2)]) (fun x => hsL gC gL now rm c x.1 r R) (fun x => UPre m x.1 x.2 ∧ x.1.length = hs.length ∧ x.2 < m ∧ x.1.Perm hs ∧ ∀ k, m ≤ k → el x.1 k = el hs k) (fun x => x.2) (hs, j0) ⟨hU, rfl, hj0, List.Perm.refl _, fun _ _ => rfl⟩ (.cons rfl (.cons rfl .nil)) (.refl _) <| ?_
  rintro ⟨h2, j⟩ ⟨hI, hlen, hj, hp, hrest⟩
  dsimp only at hI hlen hj hp hrest
  dsimp only
  refine cB <| cR <| zM rfl <| ?_
  refine zV (v_sub rfl rfl rfl (w_i64 (by omega) (by omega))) rfl ?_
  refine zV (v_quoT rfl rfl rfl (by first | decide | omega) (quo_up j (by omega))) rfl ?_
  refine zA rfl <| zN <| cS <| cR <| zM rfl <| zM rfl <| ?_
  refine zT (v_eql rfl rfl rfl) rfl (fun h10 => ?_) (fun h10 => ?_)
  refine zM rfl ?_
  iterate 5 refine WL.sk rfl ?_
  refine zP rfl <| zN <| cT rfl <| cX <| eX <| WE.block_miss rfl <| eX <| eH <| WE.ret0 (P := Tryz.prog) (.inr rfl) Tryz.results106  <| ?_
  exact fun w' h => ⟨h2, rfl, hlen, hp, hrest, hI.fin (.inl (by omega)), h⟩
  refine zM rfl <| zS (v_move rfl rfl) rfl <| zS (v_move rfl rfl) rfl <| zS (v_move rfl rfl) rfl <| WL.invoke rfl rfl rfl (m_Less (g := gC) rfl) ck_184 (.some rfl rfl rfl) rfl rfl <| ?_
  intro w hS
  refine Calls.then (Less_h (i := j) (j := (j - 1) / 2) (by omega) (by omega) hS) hS ?_
  refine zS (v_notD rfl rfl) rfl <| zQ rfl <| zN <| ?_
  refine WC.cond_d rfl (fun h17 => ?_) (fun h17 => ?_)
  refine cX <| eX <| WE.block_miss rfl <| eX <| eH <| WE.ret0 (P := Tryz.prog) (.inr rfl) Tryz.results106  <| ?_
  exact fun w' h => ⟨h2, rfl, hlen, hp, hrest, hI.fin (.inr h17), h⟩
  refine cK <| eN <| cR <| zM rfl <| zM rfl <| zM rfl <| WL.invoke rfl rfl rfl (m_Swap (g := gC) rfl) ck_185 (.none rfl) rfl rfl <| ?_
  intro w hS
  refine Calls.thenS (Swap_h (i := (j - 1) / 2) (j := j) (by omega) (by omega) hS) ?_
  refine zN <| WC.region <| zM rfl <| zA rfl <| WL.nil <| eY <| ?_
  exact WE.next (swp h2 ((j - 1) / 2) j, (j - 1) / 2) (by dsimp only; omega) ⟨hI.step (by omega) hj (by omega) (Classical.not_not.1 h17), by rw [swp_len]; exact hlen, by dsimp only; omega, (swp_perm (by omega) (by omega)).trans hp, fun k hk => by dsimp only; rw [el_swp (by omega) (by omega), if_neg (by omega), if_neg (by omega)]; exact hrest k hk⟩ (.cons rfl (.cons rfl .nil)) (.refl _)
end

theorem Vec.cells {ad : Option Addr} {k c : Nat} {xs : List Value} {E : List Ent} (h : Vec 1 ad k c xs E) (hk : 0 < k) : ∃ g r, ad = some ⟨g, 0, none⟩ ∧ E = [.row g (xs ++ r)] ∧ k + r.length = c := by
  rcases h with ⟨_, h0, _⟩ | ⟨g, cs, rfl, rfl, h1, h2, h3⟩
  · omega
  · refine ⟨g, cs.drop k, rfl, ?_, by rw [List.length_drop]; omega⟩
    have : cs = xs ++ cs.drop k := by rw [← h1, Nat.mul_one, List.take_append_drop]
    rw [← this]
theorem el_app {hs : List En} {e : En} {k : Nat} (h : k < hs.length) : el (hs ++ [e]) k = el hs k := by
  simp [el, List.getD, List.getElem?_append_left h]
theorem el_take {hs : List En} {n k : Nat} (h : k < n) : el (hs.take n) k = el hs k := by
  simp [el, List.getD, List.getElem?_take, h]
theorem take_last {hs : List En} {n : Nat} (h : hs.length = n + 1) : hs = hs.take n ++ [el hs n] := by
  have e := List.drop_eq_getElem_cons (show n < hs.length by omega)
  have h1 : hs[n] = el hs n := by simp [el, show n < hs.length by omega]
  rw [← h1, show [hs[n]] = hs.drop n by rw [e, List.drop_eq_nil_iff.2 (by omega)], List.take_append_drop]
theorem HeapB.take {n : Nat} {hs : List En} (h : HeapB n hs) : HeapB n (hs.take n) := fun k h0 h1 => by
  rw [el_take h1, el_take (by omega)]; exact h k h0 h1
theorem ents_last (hs : List En) (e : En) (L : List Ent) : ents 0 (hs ++ [e]) ++ L = ents 0 hs ++ (enR e hs.length :: L) := by
  rw [ents_append]; simp [ents]
theorem ptrs_last (hs : List En) (e : En) (r : List Value) : ptrs (hs ++ [e]) ++ r = ptrs hs ++ (ptr e :: r) := by simp [ptrs]
def clkL (gC : Nat) (now : Int) (ad : Option Addr) (c : Nat) (rm : Option Nat) (hs : List En) (E R : List Ent) : List Ent :=
  E ++ (ents 0 hs ++ (.row gC [.int .i64 now, .slice ad hs.length c, .map rm] :: R))
abbrev enT : Nat := 154
section
variable {p : Nat → Prop} {w0 w : World} {gC gL : Nat} {now : Int} {rm : Option Nat} {c : Nat} {hs : List En} {r : List Value} {R E : List Ent} {ad : Option Addr}
set_option maxHeartbeats 1000000 in
theorem LPop_c {x : En} (hS : St p w0 w (hsL gC gL now rm c (hs ++ [x]) r R)) (hl : hs.length ≤ 300) (hc : hs.length ≤ c) :
    Calls Tryz.prog 186 #[.pointer (some ⟨gC, 1, none⟩)] w fun e w' => e = .returned (.iface enT (ptr x)) ∧ St p w0 w' (hsL gC gL now rm c hs (.pointer none :: r) (enR x hs.length :: R)) := by
  have hP : (ptrs hs).length = hs.length := by simp [ptrs]
  unfold hsL at hS ⊢
  rw [ents_last, ptrs_last, List.length_append, List.length_singleton] at hS
  refine enter Tryz.func186 rfl Tryz.ntmps186 rfl hS ?_
  refine cR <| zA rfl <| zR <| zM rfl <| zC rfl <| zL rfl one_151 rfl <| zV (v_len_slice rfl rfl Tryz.underlying151) rfl <| ?_
  refine zV (v_sub rfl rfl rfl (w_i64 (by omega) (by omega))) rfl ?_
  refine zA rfl <| zR <| zM rfl <| zC rfl <| zL rfl one_151 rfl <| zM rfl <| ?_
  refine zV (v_indexAddr (lo := hs.length) rfl rfl rfl Tryz.underlying151 sz_154 (by omega) (by omega)) rfl ?_
  refine zV (v_load1 rfl rfl one_154 (cellAt (get_mid1 _ _ _ (by omega)))) rfl ?_
  refine zA rfl <| zR <| zM rfl <| zC rfl <| zL rfl one_151 rfl <| zM rfl <| ?_
  refine zV (v_indexAddr (lo := hs.length) rfl rfl rfl Tryz.underlying151 sz_154 (by omega) (by omega)) rfl ?_
  refine WL.store1 rfl rfl rfl rfl one_154 (by simp [hP]) (.none rfl) rfl ?_
  refine WL.as (L' := .row gL (ptrs hs ++ (.pointer none :: r)) :: (ents 0 hs ++ (enR x hs.length :: (.row gC [.int .i64 now, .slice (some ⟨gL, 0, none⟩) (hs.length + 1) c, .map rm] :: R)))) (by rw [Nat.zero_add, Nat.mul_one, List.set_append_right _ _ (by omega), hP, Nat.sub_self, List.set_cons_zero]) ?_
  refine zR <| zM rfl <| zM rfl <| zC rfl <| zL rfl one_151 rfl <| zM rfl <| ?_
  refine zV (v_slice_hi (hi := hs.length) rfl rfl rfl Tryz.underlying151 sz_154 (by omega) (by omega)) rfl ?_
  refine zC rfl <| zO one_151 rfl rfl <| zR <| zM rfl <| zV (v_makeInterface rfl rfl Tryz.underlying154 rfl) rfl <| zA rfl <| zN <| cE <| tR Tryz.results186 rfl <| ?_
  refine fun w' h => ⟨rfl, h.perm ?_⟩
  refine List.Perm.cons _ (List.Perm.append_left _ ?_)
  exact List.Perm.swap _ _ _
set_option maxHeartbeats 1000000 in
theorem LPush_c {e : En} {z : Value} (hS : St p w0 w (clkL gC now ad c rm hs E (.row e.g [.int .i64 e.name, .int .i64 e.time, z] :: R))) (hV : Vec 1 ad hs.length c (ptrs hs) E) (hl : hs.length ≤ 300) :
    Calls Tryz.prog 187 #[.pointer (some ⟨gC, 1, none⟩), .iface enT (ptr e)] w fun e' w' => ∃ gL r c', e' = .returned (.tuple #[]) ∧ hs.length + 1 + r.length = c' ∧ St p w0 w' (hsL gC gL now rm c' (hs ++ [e]) r R) := by
  unfold clkL at hS
  refine enter Tryz.func187 rfl Tryz.ntmps187 rfl hS ?_
  refine cR <| zM rfl <| zV (v_typeAssert rfl rfl Tryz.underlying154 rfl) rfl <| zA rfl <| zR <| zM rfl <| zM rfl <| zC rfl <| zL rfl one_151 rfl <| zV (v_len_slice rfl rfl Tryz.underlying151) rfl <| zC rfl <| ?_
  refine zF rfl fld_159_2 <| zO one_3 rfl rfl <| WL.as (L' := E ++ (ents 0 hs ++ (.row gC [.int .i64 now, .slice ad hs.length c, .map rm] :: (enR e hs.length :: R)))) rfl <| zN <| WC.region <| zM rfl <| zM rfl <| zC rfl <| zL rfl one_151 rfl <| zM rfl <| zB Tryz.underlying151 sz_154 zero_154 rfl rfl <| ?_
  intro g19 hg19
  refine WL.to (L' := E ++ (.row g19 [ptr e] :: (ents 0 hs ++ (.row gC [.int .i64 now, .slice ad hs.length c, .map rm] :: (enR e hs.length :: R))))) (fun w hS => hS.front [_]) ?_
  refine WL.appendL rfl rfl rfl Tryz.underlying151 Tryz.underlying151 sz_154 by_154 zero_154 rfl rfl hV (new := [ptr e]) (fun _ => ⟨g19, 0, rfl, fun w hS => allAt (g := g19) w hS⟩) rfl rfl (by omega) (.none rfl) rfl rfl ?_
  intro ad20 c20 E20 hV20 hr20
  obtain ⟨gL, r, rfl, rfl, hcr⟩ := hV20.cells (by omega)
  refine WL.as (L' := .row gL (ptrs hs ++ [ptr e] ++ r) :: .row g19 [ptr e] :: (ents 0 hs ++ (.row gC [.int .i64 now, .slice ad hs.length c, .map rm] :: (enR e hs.length :: R)))) rfl <| zC rfl <| zO one_151 rfl rfl <| WL.nil <| WE.ret0 (P := Tryz.prog) (.inr rfl) Tryz.results187  <| ?_
  refine fun w' h => ⟨gL, r, c20, rfl, hcr, ?_⟩
  unfold hsL
  rw [ents_last, List.length_append, List.length_singleton, show ptrs (hs ++ [e]) = ptrs hs ++ [ptr e] by simp [ptrs]]
  refine (h.sub (.cons_cons _ (.cons _ (.refl _)))).perm ?_
  refine List.Perm.cons _ (List.Perm.append_left _ ?_)
  exact List.Perm.swap _ _ _
theorem UPre.push {hs : List En} {e : En} (h : HeapB hs.length hs) : UPre (hs.length + 1) (hs ++ [e]) hs.length := by
  constructor
  · intro k h0 h1 h2
    rw [el_app (by omega), el_app (by omega)]
    exact h k h0 (by omega)
  · intro k h0 h1 h2 h3
    omega
set_option maxHeartbeats 1000000 in
theorem HPush_c {e : En} {z : Value} (hS : St p w0 w (clkL gC now ad c rm hs E (.row e.g [.int .i64 e.name, .int .i64 e.time, z] :: R))) (hV : Vec 1 ad hs.length c (ptrs hs) E) (hl : hs.length ≤ 290) (hH : HeapB hs.length hs) :
    Calls Tryz.prog 108 #[lnI gC, .iface enT (ptr e)] w fun e' w' => ∃ gL r c' hs', e' = .returned (.tuple #[]) ∧ hs'.length = hs.length + 1 ∧ hs'.Perm (hs ++ [e]) ∧ HeapB hs'.length hs' ∧ hs'.length + r.length = c' ∧ St p w0 w' (hsL gC gL now rm c' hs' r R) := by
  refine enter Tryz.func108 rfl Tryz.ntmps108 rfl hS ?_
  refine cR <| zM rfl <| zM rfl <| WL.invoke rfl rfl rfl (m_Push) ck_187 (.none rfl) rfl rfl <| ?_
  intro w1 hS
  refine (LPush_c hS hV (by omega)).mono ?_
  rintro e' w' ⟨gL, r, c', rfl, hcr, hS'⟩
  refine ⟨_, _, rfl, hS', ?_⟩
  have hlen : (hs ++ [e]).length = hs.length + 1 := by simp
  refine zN <| WC.region <| zM rfl <| zM rfl <| WL.invoke rfl rfl rfl (m_Len (g := gC) rfl) ck_183 (.none rfl) rfl rfl <| ?_
  intro w hS
  refine Calls.then (Len_c w _ _ _) hS ?_
  refine zV (v_sub rfl rfl rfl (w_i64 (by omega) (by omega))) rfl ?_
  refine zK ck_106 rfl ?_
  intro w1 hS
  rw [show (((hs ++ [e]).length : Nat) : Int) - 1 = ((hs.length : Nat) : Int) by omega]
  refine (up_c hS (m := hs.length + 1) (by omega) (by omega) (by omega) (UPre.push hH)).mono ?_
  rintro e' w' ⟨hs', rfl, k1, k2, k3, k4, hS'⟩
  refine ⟨_, _, rfl, hS', ?_⟩
  refine WL.nil <| WE.ret0 (P := Tryz.prog) (.inr rfl) Tryz.results108  <| ?_
  exact fun w' h => ⟨gL, r, c', hs', rfl, by omega, k2, by rw [k1, hlen]; exact k4, by omega, h⟩
theorem DPre.of_heap {n i : Nat} {hs : List En} (h : HeapB n hs) : DPre n hs i := by
  constructor
  · intro k h0 h1 h2 h3; exact h k h0 h1
  · intro k h0 h1 h2 h3
    have a := h k h0 h1
    have b := h i h3 (by omega)
    rw [h2] at a
    exact nlt_trans a b
theorem DPre.set {n i : Nat} {hs hs' : List En} (h : HeapB n hs) (he : ∀ k, k ≠ i → el hs' k = el hs k) : DPre n hs' i := by
  have h' := DPre.of_heap (i := i) h
  constructor
  · intro k h0 h1 h2 h3
    rw [he k h3, he _ h2]; exact h k h0 h1
  · intro k h0 h1 h2 h3
    rw [he k (by omega), he _ (by omega)]
    exact h'.kid k h0 h1 h2 h3
theorem HeapB.swap {n i : Nat} {hs : List En} (h : HeapB (n + 1) hs) (hl : hs.length = n + 1) (hi : i < n) : DPre n (swp hs i n) i := by
  have e : ∀ k, k < n → k ≠ i → el (swp hs i n) k = el hs k := fun k h1 h2 => by rw [el_swp (by omega) (by omega), if_neg (by omega), if_neg h2]
  have h' := DPre.of_heap (i := i) h
  constructor
  · intro k h0 h1 h2 h3
    rw [e k h1 h3, e _ (by omega) h2]; exact h k h0 (by omega)
  · intro k h0 h1 h2 h3
    rw [e k h1 (by omega), e _ (by omega) (by omega)]
    exact h'.kid k h0 (by omega) h2 h3
set_option maxHeartbeats 1000000 in
theorem HFix_c {i : Nat} (hS : St p w0 w (hsL gC gL now rm c hs r R)) (hi : i < hs.length) (hl : hs.length ≤ 300) (hD : DPre hs.length hs i) :
    Calls Tryz.prog 107 #[lnI gC, .int .i64 i] w fun e' w' => ∃ hs', e' = .returned (.tuple #[]) ∧ hs'.length = hs.length ∧ hs'.Perm hs ∧ HeapB hs'.length hs' ∧ St p w0 w' (hsL gC gL now rm c hs' r R) := by
  refine enter Tryz.func107 rfl Tryz.ntmps107 rfl hS ?_
  refine cR <| zM rfl <| zM rfl <| zM rfl <| WL.invoke rfl rfl rfl (m_Len (g := gC) rfl) ck_183 (.none rfl) rfl rfl <| ?_
  intro w hS
  refine Calls.then (Len_c w _ _ _) hS ?_
  refine zK ck_105 rfl ?_
  intro w1 hS
  refine (down_c hS (m := hs.length) (by omega) (by omega) (by omega) hD).mono ?_
  rintro e' w' ⟨h2, b, rfl, k1, k2, k3, k4, k5, hS'⟩
  refine ⟨_, _, rfl, hS', ?_⟩
  cases b
  refine zV (v_not rfl rfl rfl) rfl <| zN <| cT rfl <| WC.region <| zM rfl <| zM rfl <| zK ck_106 rfl <| ?_
  intro w1 hS
  obtain ⟨e2, hU⟩ := k5 rfl
  rw [e2] at hS
  refine (up_c hS (m := hs.length) (by omega) (by omega) (by omega) hU).mono ?_
  rintro e' w' ⟨h3, rfl, q1, q2, q3, q4, hS'⟩
  refine ⟨_, _, rfl, hS', ?_⟩
  refine WL.nil <| WE.ret0 (P := Tryz.prog) (.inr rfl) Tryz.results107  <| ?_
  exact fun w' h => ⟨h3, rfl, q1, q2, by rw [q1]; exact q4, h⟩
  refine zV (v_not rfl rfl rfl) rfl <| zN <| cF rfl <| cK <| WE.ret0 (P := Tryz.prog) (.inr rfl) Tryz.results107  <| ?_
  exact fun w' h => ⟨h2, rfl, k1, k2, by rw [k1]; exact k4 rfl, h⟩
set_option maxHeartbeats 1000000 in
theorem HRemove_c {n i : Nat} (hS : St p w0 w (hsL gC gL now rm c hs r R)) (hn : hs.length = n + 1) (hi : i ≤ n) (hl : hs.length ≤ 300) (hc : hs.length ≤ c) (hH : HeapB hs.length hs) :
    Calls Tryz.prog 81 #[lnI gC, .int .i64 i] w fun e' w' => ∃ hs', e' = .returned (.iface enT (ptr (el hs i))) ∧ hs'.length = n ∧ (hs' ++ [el hs i]).Perm hs ∧ HeapB hs'.length hs' ∧ St p w0 w' (hsL gC gL now rm c hs' (.pointer none :: r) (enR (el hs i) n :: R)) := by
  refine enter Tryz.func81 rfl Tryz.ntmps81 rfl hS ?_
  have hls := swp_len hs i n
  have hH' : HeapB (n + 1) hs := by rw [← hn]; exact hH
  refine cR <| zA rfl <| zR <| zM rfl <| WL.invoke rfl rfl rfl (m_Len (g := gC) rfl) ck_183 (.none rfl) rfl rfl <| ?_
  intro w hS
  refine Calls.then (Len_c w _ _ _) hS ?_
  refine zV (v_sub rfl rfl rfl ((by rw [hn, show ((n + 1 : Nat) : Int) - 1 = (n : Int) by omega]; exact w_i64 (by omega) (by omega) : _ = (n : Int)))) rfl ?_
  refine zA rfl <| zN <| cS <| cR <| zM rfl <| zM rfl <| ?_
  refine zT (v_neq rfl rfl rfl) rfl (fun h11 => ?_) (fun h11 => ?_)
  ·
   refine zN <| cT rfl <| cR <| zM rfl <| zM rfl <| zM rfl <| WL.invoke rfl rfl rfl (m_Swap (g := gC) rfl) ck_185 (.none rfl) rfl rfl <| ?_
   intro w hS
   refine Calls.thenS (Swap_h (i := i) (j := n) (by omega) (by omega) hS) ?_
   refine zR <| zM rfl <| zM rfl <| zM rfl <| zK ck_105 rfl <| ?_
   intro w1 hS
   refine (down_c hS (i0 := i) (m := n) (by omega) (by omega) (by omega) (HeapB.swap hH' hn (by omega))).mono ?_
   rintro e' w' ⟨h2, b, rfl, k1, k2, k3, k4, k5, hS'⟩
   refine ⟨_, _, rfl, hS', ?_⟩
   cases b
   refine zV (v_not rfl rfl rfl) rfl <| zN <| cT rfl <| WC.region <| zM rfl <| zM rfl <| zK ck_106 rfl <| ?_
   intro w1 hS
   obtain ⟨e2, hU⟩ := k5 rfl
   refine (up_c hS (m := n) (by omega) (by omega) (by omega) (by rw [e2]; exact hU)).mono ?_
   rintro e' w' ⟨h3, rfl, q1, q2, q3, q4, hS'⟩
   refine ⟨_, _, rfl, hS', ?_⟩
   refine zR <| zM rfl <| WL.invoke rfl rfl rfl (m_Pop) ck_186 (.none rfl) rfl rfl <| ?_
   intro w1 hS
   have hl2 : h3.length = n + 1 := (by omega)
   have ht : (h3.take n).length = n := (by rw [List.length_take]; omega)
   have hx : el h3 n = el hs i := (by rw [q3 _ (Nat.le_refl _), k3 _ (Nat.le_refl _), el_swp (by omega) (by omega), if_pos rfl])
   have hh := take_last hl2
   rw [hx] at hh
   rw [hh] at hS
   refine (LPop_c hS (by omega) (by omega)).mono ?_
   rintro e' w' ⟨rfl, hS'⟩
   refine ⟨_, _, rfl, hS', ?_⟩
   refine zA rfl <| zN <| cE <| tR Tryz.results81 rfl <| ?_
   refine fun w' h => ⟨h3.take n, rfl, ht, ?_, by rw [ht]; exact q4.take, by rw [ht] at h; exact h⟩
   rw [← hh]; exact q2.trans (k2.trans (swp_perm (by omega) (by omega)))
   refine zV (v_not rfl rfl rfl) rfl <| zN <| cF rfl <| cK <| eN <| cR <| zM rfl <| WL.invoke rfl rfl rfl (m_Pop) ck_186 (.none rfl) rfl rfl <| ?_
   intro w1 hS
   have hl2 : h2.length = n + 1 := (by omega)
   have ht : (h2.take n).length = n := (by rw [List.length_take]; omega)
   have hx : el h2 n = el hs i := (by rw [k3 _ (Nat.le_refl _), el_swp (by omega) (by omega), if_pos rfl])
   have hh := take_last hl2
   rw [hx] at hh
   rw [hh] at hS
   refine (LPop_c hS (by omega) (by omega)).mono ?_
   rintro e' w' ⟨rfl, hS'⟩
   refine ⟨_, _, rfl, hS', ?_⟩
   refine zA rfl <| zN <| cE <| tR Tryz.results81 rfl <| ?_
   refine fun w' h => ⟨h2.take n, rfl, ht, ?_, by rw [ht]; exact (k4 rfl).take, by rw [ht] at h; exact h⟩
   rw [← hh]; exact k2.trans (swp_perm (by omega) (by omega))
  refine zN <| cF rfl <| cK <| eN <| cR <| zM rfl <| WL.invoke rfl rfl rfl (m_Pop) ck_186 (.none rfl) rfl rfl <| ?_
  intro w1 hS
  have ht : (hs.take n).length = n := (by rw [List.length_take]; omega)
  have hh := take_last hn
  have hin : i = n := (by omega)
  rw [hh] at hS
  refine (LPop_c hS (by omega) (by omega)).mono ?_
  rintro e' w' ⟨rfl, hS'⟩
  refine ⟨_, _, rfl, hS', ?_⟩
  refine zA rfl <| zN <| cE <| tR Tryz.results81 rfl <| ?_
  refine fun w' h => ⟨hs.take n, by rw [hin], ht, by rw [hin, ← hh], by rw [ht]; exact HeapB.take (fun k h0 h1 => hH' k h0 (by omega)), by rw [ht] at h; rw [hin]; exact h⟩
end

/-! ### What the map of names holds -/
def Mine (m : Value → Option Value) (hs : List En) : Prop := ∀ x v, m x = some v ↔ ∃ e ∈ hs, x = .int .i64 e.name ∧ v = ptr e
def Nms (hs : List En) : Prop := (hs.map (·.name)).Nodup
theorem Mine.perm {m : Value → Option Value} {hs hs' : List En} (h : Mine m hs) (hp : hs'.Perm hs) : Mine m hs' := fun x v => by
  rw [h x v]; constructor
  · rintro ⟨e, he, k⟩; exact ⟨e, hp.symm.subset he, k⟩
  · rintro ⟨e, he, k⟩; exact ⟨e, hp.subset he, k⟩
theorem Nms.perm {hs hs' : List En} (h : Nms hs) (hp : hs'.Perm hs) : Nms hs' := (hp.map _).nodup_iff.2 h
theorem Mine.yes {m : Value → Option Value} {hs : List En} (h : Mine m hs) {e : En} (he : e ∈ hs) : m (.int .i64 e.name) = some (ptr e) := (h _ _).2 ⟨e, he, rfl, rfl⟩
theorem Mine.no {m : Value → Option Value} {hs : List En} (h : Mine m hs) {x : Int} (hx : ∀ e ∈ hs, e.name ≠ x) : m (.int .i64 x) = none := by
  cases hm : m (.int .i64 x) with
  | none => rfl
  | some v =>
    obtain ⟨e, he, k, _⟩ := (h _ _).1 hm
    simp only [Value.int.injEq, true_and] at k
    exact absurd k.symm (hx e he)
theorem Mine.del {m : Value → Option Value} {hs hs' : List En} {e : En} (h : Mine m hs) (hn : Nms hs) (hp : (hs' ++ [e]).Perm hs) : Mine (updM m (.int .i64 e.name) none) hs' ∧ Nms hs' ∧ ∀ a ∈ hs', a.name ≠ e.name := by
  have hn' : Nms (hs' ++ [e]) := hn.perm hp
  have hne : ∀ a ∈ hs', a.name ≠ e.name := fun a ha k => by
    have := hn'
    simp only [Nms, List.map_append, List.map_cons, List.map_nil, List.nodup_append] at this
    exact this.2.2 a.name (List.mem_map_of_mem ha) e.name (by simp) k
  refine ⟨fun x v => ?_, ?_, hne⟩
  · by_cases hx : x = .int .i64 e.name
    · subst hx
      rw [updM_eq]
      constructor
      · intro k; cases k
      · rintro ⟨a, ha, k, _⟩
        simp only [Value.int.injEq, true_and] at k
        exact absurd k.symm (hne a ha)
    · rw [updM_ne _ _ hx, h x v]
      constructor
      · rintro ⟨a, ha, k1, k2⟩
        rcases List.mem_append.1 (hp.symm.subset ha) with ha | ha
        · exact ⟨a, ha, k1, k2⟩
        · have : a = e := by simpa using ha
          subst this; exact absurd k1 hx
      · rintro ⟨a, ha, k1, k2⟩
        exact ⟨a, hp.subset (List.mem_append_left _ ha), k1, k2⟩
  · simp only [Nms, List.map_append, List.nodup_append] at hn'
    exact hn'.1
theorem Mine.add {m : Value → Option Value} {hs hs' : List En} {e : En} (h : Mine m hs) (hn : Nms hs) (hx : ∀ a ∈ hs, a.name ≠ e.name) (hp : hs'.Perm (hs ++ [e])) : Mine (updM m (.int .i64 e.name) (some (ptr e))) hs' ∧ Nms hs' := by
  refine ⟨fun x v => ?_, Nms.perm ?_ hp⟩
  · by_cases k : x = .int .i64 e.name
    · subst k
      rw [updM_eq]
      constructor
      · intro k; cases k; exact ⟨e, hp.symm.subset (by simp), rfl, rfl⟩
      · rintro ⟨a, ha, k1, k2⟩
        simp only [Value.int.injEq, true_and] at k1
        rcases List.mem_append.1 (hp.subset ha) with ha | ha
        · exact absurd k1.symm (hx a ha)
        · have : a = e := by simpa using ha
          subst this; rw [k2]
    · rw [updM_ne _ _ k, h x v]
      constructor
      · rintro ⟨a, ha, k1, k2⟩
        exact ⟨a, hp.symm.subset (List.mem_append_left _ ha), k1, k2⟩
      · rintro ⟨a, ha, k1, k2⟩
        rcases List.mem_append.1 (hp.subset ha) with ha | ha
        · exact ⟨a, ha, k1, k2⟩
        · have : a = e := by simpa using ha
          subst this; exact absurd k1 k
  · simp only [Nms, List.map_append, List.map_cons, List.map_nil, List.nodup_append]
    refine ⟨hn, by simp, ?_⟩
    intro a ha b hb k
    obtain ⟨y, hy, rfl⟩ := List.mem_map.1 ha
    have : b = e.name := by simpa using hb
    subst this
    exact hx y hy k

/-! ### The clock whole -/
structure Ck where
  hs : List En
  ad : Option Addr
  c : Nat
  E : List Ent
  gm : Nat
  es : Array MapEntry
  cl : Nat
  m : Value → Option Value
def Ck.L (d : Ck) (gC : Nat) (now : Int) (R : List Ent) : List Ent := clkL gC now d.ad d.c (some d.gm) d.hs d.E (.obj d.gm (.map d.es d.cl) :: R)
structure Ck.Ok (d : Ck) : Prop where
  vec : Vec 1 d.ad d.hs.length d.c (ptrs d.hs) d.E
  heap : HeapB d.hs.length d.hs
  len : d.hs.length ≤ 256
  map : IMap (KInt .i64) d.es d.m
  mine : Mine d.m d.hs
  nms : Nms d.hs
def nt (e : En) : Int × Int := (e.name, e.time)
def Ck.bag (d : Ck) : List (Int × Int) := d.hs.map nt
section
variable {p : Nat → Prop} {w0 w : World} {gC : Nat} {now : Int} {R : List Ent} {d : Ck}
instance : At (d.L gC now R) gC [.int .i64 now, .slice d.ad d.hs.length d.c, .map (some d.gm)] := ⟨List.mem_append_right _ (List.mem_append_right _ (List.mem_cons_self ..))⟩
theorem ck_map (hS : St p w0 w (d.L gC now R)) : MapW w (some d.gm) d.es := .inr ⟨d.gm, d.cl, rfl, (hS.holds (.obj d.gm (.map d.es d.cl)) (List.mem_append_right _ (List.mem_append_right _ (List.mem_cons_of_mem _ (List.mem_cons_self ..))))).1⟩
theorem ck_ent (hS : St p w0 w (d.L gC now R)) {i : Nat} (hi : i < d.hs.length) : Row w (el d.hs i).g (enL (el d.hs i) i) := by
  have h := ents_get d.hs 0 i _ (el_get hi)
  rw [Nat.zero_add] at h
  exact hS.holds (enR (el d.hs i) i) (List.mem_append_right _ (List.mem_append_left _ h))
theorem mem_el {hs : List En} {e : En} (h : e ∈ hs) : ∃ i, i < hs.length ∧ el hs i = e := by
  obtain ⟨i, hi⟩ := List.mem_iff_getElem?.1 h
  exact ⟨i, (List.getElem?_eq_some_iff.1 hi).1, by simp [el, List.getD, hi]⟩

theorem New_k (hS : St p w0 w R) : Calls Tryz.prog 49 #[] w fun e w' => ∃ gC d, e = .returned (.pointer (some ⟨gC, 0, none⟩)) ∧ Ck.Ok d ∧ d.hs = [] ∧ St p w0 w' (d.L gC 0 R) := by
  refine enter (vs := []) Tryz.func49 rfl Tryz.ntmps49 rfl hS ?_
  refine cR <| zA rfl <| zR <| WL.makeMap rfl (.none rfl) rfl rfl <| ?_
  intro g1 hg1
  refine zV (v_build rfl rfl zero_153 plc_153 rfl) rfl <| WL.box rfl rfl rfl (.none rfl) rfl rfl <| ?_
  intro g3 hg3
  refine zA rfl <| zN <| cE <| tR Tryz.results49 rfl <| ?_
  exact fun w' h => ⟨g3, ⟨[], none, 0, [], g1, #[], 0, fun _ => none⟩, rfl, ⟨Vec.nil 1, fun k h0 h1 => absurd h1 (by simp), by simp, IMap.empty _, fun x v => by simp, List.nodup_nil⟩, rfl, h⟩
theorem Now_k {v1 v2 : Value} (hR : Row w gC [.int .i64 now, v1, v2]) : Calls Tryz.prog 61 #[.pointer (some ⟨gC, 0, none⟩)] w fun e w' => e = .returned (.int .i64 now) ∧ Frm (fun _ => False) w w' := by
  refine enter Tryz.func61 rfl Tryz.ntmps61 rfl (St.start (fun _ => False) w) ?_
  refine cR <| zA rfl <| zN <| cS <| cR <| zM rfl <| zV (v_eql_nil false rfl rfl Tryz.underlying98 rfl) rfl <| zN <| cF rfl <| cK <| eN <| cS <| ?_
  refine WC.region <| zM rfl <| zC rfl <| zF rfl fld_153_0 <| zV (v_load1 rfl rfl one_3 (cellOld (fun h => h) (hR.cell rfl))) rfl <| zA rfl <| zN <| cE <| tR Tryz.results61 rfl <| ?_
  exact fun w' h => ⟨rfl, h.frm⟩
set_option maxRecDepth 8000 in
theorem Stop_no (hS : St p w0 w (d.L gC now R)) (hd : d.Ok) (x : Int) (hx : ∀ e ∈ d.hs, e.name ≠ x) : Calls Tryz.prog 52 #[.pointer (some ⟨gC, 0, none⟩), .int .i64 x] w fun e w' => e = .returned (.bool false) ∧ Frm (fun _ => False) w w' := by
  have hR := hS.row (g := gC)
  have hM := ck_map hS
  have hn := hd.mine.no hx
  refine enter Tryz.func52 rfl Tryz.ntmps52 rfl (St.start (fun _ => False) w) ?_
  refine cR <| zA rfl <| zN <| cS <| cR <| zM rfl <| zV (v_eql_nil false rfl rfl Tryz.underlying98 rfl) rfl <| zN <| cF rfl <| cK <| eN <| cS <| ?_
  refine WC.region <| zM rfl <| zC rfl <| zF rfl fld_153_2 <| zV (v_load1 rfl rfl one_149 (cellOld (fun h => h) (hR.cell rfl))) rfl <| zM rfl <| ?_
  refine zV ((v_lookup2 rfl rfl rfl Tryz.underlying149 (keyI Tryz.underlying3) (KInt.mk _ _) rfl (mapOld (fun _ h => h) hM) hd.map).eq (v := .tuple #[.pointer none, .bool false]) (by rw [hn]; rfl)) rfl ?_
  refine zM rfl <| zX rfl <| zX rfl <| zA rfl <| zA rfl <| zN <| cS <| cR <| zM rfl <| zV (v_not rfl rfl rfl) rfl <| zN <| cT rfl <| cS <| ?_
  refine WC.region <| zA rfl <| zN <| cE <| eR <| tR Tryz.results52 rfl <| ?_
  exact fun w' h => ⟨rfl, h.frm⟩
theorem ck_line (hd : d.Ok) (h : 0 < d.hs.length) : ∃ gL r, d.ad = some ⟨gL, 0, none⟩ ∧ d.E = [.row gL (ptrs d.hs ++ r)] ∧ d.hs.length + r.length = d.c := hd.vec.cells h
theorem vec_line {hs : List En} {gL : Nat} {r : List Value} {c : Nat} (h : hs.length + r.length = c) : Vec 1 (some ⟨gL, 0, none⟩) hs.length c (ptrs hs) [.row gL (ptrs hs ++ r)] := by
  have hl : (ptrs hs).length = hs.length := by simp [ptrs]
  exact Vec.row (by rw [Nat.mul_one, List.take_left' hl]) (by rw [List.length_append, hl]; omega) (by omega)
set_option maxHeartbeats 1000000 in
set_option maxRecDepth 8000 in
theorem Stop_k (hS : St p w0 w (d.L gC now R)) (hd : d.Ok) {e : En} (he : e ∈ d.hs) : Calls Tryz.prog 52 #[.pointer (some ⟨gC, 0, none⟩), .int .i64 e.name] w fun e' w' => ∃ d', e' = .returned (.bool true) ∧ Ck.Ok d' ∧ (d'.hs ++ [e]).Perm d.hs ∧ St p w0 w' (d'.L gC now R) := by
  have hn := hd.mine.yes he
  obtain ⟨i, hi, e1⟩ := mem_el he
  have hlen := hd.len
  obtain ⟨gL, r, q1, q2, q3⟩ := ck_line hd (by omega)
  obtain ⟨k, hk⟩ : ∃ k, d.hs.length = k + 1 := ⟨d.hs.length - 1, by omega⟩
  refine enter Tryz.func52 rfl Tryz.ntmps52 rfl hS ?_
  refine cR <| zA rfl <| zN <| cS <| cR <| zM rfl <| zV (v_eql_nil false rfl rfl Tryz.underlying98 rfl) rfl <| zN <| cF rfl <| cK <| eN <| cS <| ?_
  refine WC.region <| zM rfl <| zC rfl <| zF rfl fld_153_2 <| zL rfl one_149 rfl <| zM rfl <| ?_
  refine zV ((v_lookup2 rfl rfl rfl Tryz.underlying149 (keyI Tryz.underlying3) (KInt.mk _ _) rfl (fun w hS => ck_map hS) hd.map).eq (v := .tuple #[ptr e, .bool true]) (by rw [hn]; rfl)) rfl ?_
  refine zM rfl <| zX rfl <| zX rfl <| zA rfl <| zA rfl <| zN <| cS <| cR <| zM rfl <| zV (v_not rfl rfl rfl) rfl <| zN <| cF rfl <| cK <| ?_
  refine eN <| cS <| WC.orders mixed <| rF 2 [0, 1, 2, 3, 4, 5, 6] <| pV (v_move rfl rfl) rfl <| pV (v_nilCheck rfl rfl) rfl <| pV (v_fieldAddr0 rfl rfl fld_153_1) rfl <| pV (v_makeInterface rfl rfl Tryz.underlying157 rfl) rfl <| pV (v_move rfl rfl) rfl <| pV (v_nilCheck rfl rfl) rfl <| pV (v_fieldAddr0 rfl rfl fld_159_2) rfl <| WP.nil <| rA 1 [7] rfl <| ?_
  refine qV (v_load1 rfl rfl one_3 (fun w hS => by have := ck_ent hS hi; rw [e1] at this; exact this.cell rfl)) rfl ?_
  refine WQ.nilR <| rO 0 [8] <| zK ck_81 rfl <| ?_
  intro w1 hS
  have hS2 : St p w0 w1 (hsL gC gL now (some d.gm) d.c d.hs r (.obj d.gm (.map d.es d.cl) :: R)) := (by
    unfold Ck.L clkL at hS; rw [q1, q2] at hS; exact hS)
  refine (HRemove_c hS2 hk (i := i) (by omega) (by omega) (by omega) hd.heap).mono ?_
  rintro e' w' ⟨h2, rfl, k1, k2, k3, hS'⟩
  rw [e1] at k2 hS'
  obtain ⟨m1, m2, m3⟩ := hd.mine.del hd.nms k2
  refine ⟨_, .row gL (ptrs h2 ++ (.pointer none :: r)) :: (ents 0 h2 ++ (.row gC [.int .i64 now, .slice (some ⟨gL, 0, none⟩) h2.length d.c, .map (some d.gm)] :: (.obj d.gm (.map d.es d.cl) :: R))), rfl, ?_, ?_⟩
  · refine hS'.sub ?_
    exact List.Sublist.cons_cons _ (List.Sublist.append_left (.cons_cons _ (.cons _ (.refl _))) _)
  refine zH <| rD <| eN <| cR <| zM rfl <| zC rfl <| zF rfl fld_153_2 <| zL rfl one_149 rfl <| zM rfl <| WL.delete rfl rfl rfl Tryz.underlying149 (keyI Tryz.underlying3) (KInt.mk _ _) hd.map (.none rfl) rfl <| ?_
  intro esU hMU hsU
  refine zR <| zA rfl <| zN <| cE <| tR Tryz.results52 rfl <| ?_
  exact fun w' h => ⟨⟨h2, some ⟨gL, 0, none⟩, d.c, [.row gL (ptrs h2 ++ (.pointer none :: r))], d.gm, esU, d.cl, updM d.m (.int .i64 e.name) none⟩, rfl, ⟨vec_line (by simp; omega), k3, by simp only []; omega, hMU, m1, m2⟩, k2, h⟩
end

section
variable {p : Nat → Prop} {w0 w : World} {gC : Nat} {now : Int} {R : List Ent} {d : Ck}
theorem el_mid {A B : List En} {x y : En} {k : Nat} (h : k ≠ A.length) : el (A ++ (x :: B)) k = el (A ++ (y :: B)) k := by
  unfold el
  simp only [List.getD]
  by_cases h1 : k < A.length
  · rw [List.getElem?_append_left h1, List.getElem?_append_left h1]
  · rw [List.getElem?_append_right (by omega), List.getElem?_append_right (by omega)]
    cases hk : k - A.length with
    | zero => omega
    | succ j => rfl
theorem Mine.turn {m : Value → Option Value} {A B : List En} {e : En} {t : Int} (h : Mine m (A ++ (e :: B))) : Mine m (A ++ ({ e with time := t } :: B)) := fun x v => by
  rw [h x v]
  constructor
  · rintro ⟨a, ha, k1, k2⟩
    rcases List.mem_append.1 ha with ha | ha
    · exact ⟨a, List.mem_append_left _ ha, k1, k2⟩
    · rcases List.mem_cons.1 ha with ha | ha
      · subst ha; exact ⟨_, List.mem_append_right _ (List.mem_cons_self ..), k1, k2⟩
      · exact ⟨a, List.mem_append_right _ (List.mem_cons_of_mem _ ha), k1, k2⟩
  · rintro ⟨a, ha, k1, k2⟩
    rcases List.mem_append.1 ha with ha | ha
    · exact ⟨a, List.mem_append_left _ ha, k1, k2⟩
    · rcases List.mem_cons.1 ha with ha | ha
      · subst ha; exact ⟨e, List.mem_append_right _ (List.mem_cons_self ..), k1, k2⟩
      · exact ⟨a, List.mem_append_right _ (List.mem_cons_of_mem _ ha), k1, k2⟩
set_option maxHeartbeats 1000000 in
set_option maxRecDepth 8000 in
theorem Set_old (hS : St p w0 w (d.L gC now R)) (hd : d.Ok) {A B : List En} {e : En} (hh : d.hs = A ++ (e :: B)) (t : Int) (h0 : now ≤ t) (h1 : t ≤ 1073741824) :
    Calls Tryz.prog 82 #[.pointer (some ⟨gC, 0, none⟩), .int .i64 e.name, .int .i64 t] w fun e' w' => ∃ d', e' = .returned (.int .i64 0) ∧ Ck.Ok d' ∧ d'.hs.Perm (A ++ ({ e with time := t } :: B)) ∧ St p w0 w' (d'.L gC now R) := by
  have hn := hd.mine.yes (e := e) (by rw [hh]; simp)
  have hlen := hd.len
  have hl : d.hs.length = A.length + 1 + B.length := by rw [hh]; simp; omega
  have hl2 : (A ++ ({ e with time := t } :: B)).length = d.hs.length := by rw [hh]; simp
  obtain ⟨gL, r, q1, q2, q3⟩ := ck_line hd (by omega)
  have hD : DPre (A ++ ({ e with time := t } :: B)).length (A ++ ({ e with time := t } :: B)) A.length := by
    rw [hl2]
    exact DPre.set hd.heap (fun k hk => by rw [hh]; exact el_mid hk)
  have hP : ptrs d.hs = ptrs (A ++ ({ e with time := t } :: B)) := by rw [hh]; simp [ptrs, ptr]
  have hN : Nms (A ++ ({ e with time := t } :: B)) := by have := hd.nms; rw [hh] at this; simpa [Nms] using this
  have hMi : Mine d.m (A ++ ({ e with time := t } :: B)) := by have := hd.mine; rw [hh] at this; exact this.turn
  have hent : ents 0 d.hs = ents 0 A ++ (enR e A.length :: ents (A.length + 1) B) := by rw [hh, ents_append]; simp [ents]
  have hent2 : ents 0 (A ++ ({ e with time := t } :: B)) = ents 0 A ++ (.row e.g (enL { e with time := t } A.length) :: ents (A.length + 1) B) := by rw [ents_append]; simp [ents]
  have hS1 : St p w0 w (.row gL (ptrs d.hs ++ r) :: (ents 0 A ++ (enR e A.length :: (ents (A.length + 1) B ++ (.row gC [.int .i64 now, .slice (some ⟨gL, 0, none⟩) d.hs.length d.c, .map (some d.gm)] :: (.obj d.gm (.map d.es d.cl) :: R)))))) := by
    unfold Ck.L clkL at hS; rw [q1, q2, hent] at hS; simpa using hS
  refine enter Tryz.func82 rfl Tryz.ntmps82 rfl hS1 ?_
  refine cR <| zA rfl <| zN <| cS <| cR <| zM rfl <| zV (v_eql_nil false rfl rfl Tryz.underlying98 rfl) rfl <| zM rfl <| zS (v_move rfl rfl) rfl <| zS (v_move rfl rfl) rfl <| zS (v_nilCheck rfl rfl) rfl <| zS (v_fieldAddr0 rfl rfl fld_153_0) rfl <| ?_
  refine zS (v_load1 rfl rfl one_3 (cellAt rfl)) rfl ?_
  refine zS ((v_lss rfl rfl rfl).f (by omega)) rfl ?_
  refine zQ rfl <| zM rfl <| zS (v_move rfl rfl) rfl <| ?_
  refine zS ((v_gtr rfl rfl rfl).f (by omega)) rfl ?_
  refine zQ rfl <| zN <| cF rfl <| cK <| eN <| cS <| cR <| zM rfl <| zC rfl <| zF rfl fld_153_2 <| zL rfl one_149 rfl <| zM rfl <| ?_
  refine zV ((v_lookup2 rfl rfl rfl Tryz.underlying149 (keyI Tryz.underlying3) (KInt.mk _ _) rfl (mapBlk (es := d.es) (c := d.cl) d.gm (by simp)) hd.map).eq (v := .tuple #[ptr e, .bool true]) (by rw [hn]; rfl)) rfl ?_
  refine zM rfl <| zX rfl <| zX rfl <| zA rfl <| zA rfl <| zR <| zM rfl <| zN <| cT rfl <| cR <| zM rfl <| ?_
  refine zM rfl <| zC rfl <| zF rfl fld_159_1 <| zO one_3 rfl rfl <| zN <| cS <| WC.orders mixed <| rF 2 [0, 1, 2, 3, 4, 5, 6] <| pV (v_move rfl rfl) rfl <| pV (v_nilCheck rfl rfl) rfl <| pV (v_fieldAddr0 rfl rfl fld_153_1) rfl <| pV (v_makeInterface rfl rfl Tryz.underlying157 rfl) rfl <| pV (v_move rfl rfl) rfl <| pV (v_nilCheck rfl rfl) rfl <| ?_
  refine pV (v_fieldAddr0 rfl rfl fld_159_2) rfl <| WP.nil <| rA 1 [7] rfl <| qV (v_load1 rfl rfl one_3 (cellAt rfl)) rfl <| WQ.nilR <| rO 0 [8] <| zK ck_107 rfl <| ?_
  intro w1 hS
  have hS2 : St p w0 w1 (hsL gC gL now (some d.gm) d.c (A ++ ({ e with time := t } :: B)) r (.obj d.gm (.map d.es d.cl) :: R)) := (by
    unfold hsL; rw [hl2, ← hP, hent2]; simpa [enL] using hS)
  refine (HFix_c hS2 (i := A.length) (by rw [hl2]; omega) (by omega) hD).mono ?_
  rintro e' w' ⟨h2, rfl, k1, k2, k3, hS'⟩
  refine ⟨_, _, rfl, hS', ?_⟩
  refine zH <| rD <| eN <| cR <| zA rfl <| zN <| cE <| eR <| tR Tryz.results82 rfl <| ?_
  exact fun w' h => ⟨⟨h2, some ⟨gL, 0, none⟩, d.c, [.row gL (ptrs h2 ++ r)], d.gm, d.es, d.cl, d.m⟩, rfl, ⟨vec_line (show h2.length + r.length = d.c by omega), k3, by simp only []; omega, hd.map, hMi.perm k2, hN.perm k2⟩, k2, h⟩
set_option maxHeartbeats 1000000 in
set_option maxRecDepth 8000 in
theorem Set_new (hS : St p w0 w (d.L gC now R)) (hd : d.Ok) (x t : Int) (h0 : now ≤ t) (h1 : t ≤ 1073741824) (hx : ∀ e ∈ d.hs, e.name ≠ x) (hf : d.hs.length < 256) :
    Calls Tryz.prog 82 #[.pointer (some ⟨gC, 0, none⟩), .int .i64 x, .int .i64 t] w fun e' w' => ∃ d' g, e' = .returned (.int .i64 0) ∧ Ck.Ok d' ∧ d'.hs.Perm (d.hs ++ [⟨g, x, t⟩]) ∧ St p w0 w' (d'.L gC now R) := by
  have hn := hd.mine.no hx
  refine enter Tryz.func82 rfl Tryz.ntmps82 rfl hS ?_
  refine cR <| zA rfl <| zN <| cS <| cR <| zM rfl <| zV (v_eql_nil false rfl rfl Tryz.underlying98 rfl) rfl <| zM rfl <| zS (v_move rfl rfl) rfl <| zS (v_move rfl rfl) rfl <| zS (v_nilCheck rfl rfl) rfl <| zS (v_fieldAddr0 rfl rfl fld_153_0) rfl <| ?_
  refine zS (v_load1 rfl rfl one_3 (cellAt rfl)) rfl ?_
  refine zS ((v_lss rfl rfl rfl).f (by omega)) rfl ?_
  refine zQ rfl <| zM rfl <| zS (v_move rfl rfl) rfl <| ?_
  refine zS ((v_gtr rfl rfl rfl).f (by omega)) rfl ?_
  refine zQ rfl <| zN <| cF rfl <| cK <| eN <| cS <| cR <| zM rfl <| zC rfl <| zF rfl fld_153_2 <| zL rfl one_149 rfl <| zM rfl <| ?_
  refine zV ((v_lookup2 rfl rfl rfl Tryz.underlying149 (keyI Tryz.underlying3) (KInt.mk _ _) rfl (fun w hS => ck_map hS) hd.map).eq (v := .tuple #[.pointer none, .bool false]) (by rw [hn]; rfl)) rfl ?_
  refine zM rfl <| zX rfl <| zX rfl <| zA rfl <| zA rfl <| zR <| zM rfl <| zN <| cF rfl <| cK <| eN <| cS <| ?_
  refine cR <| zM rfl <| zC rfl <| zF rfl fld_153_1 <| zL rfl one_151 rfl <| zV (v_len_slice rfl rfl Tryz.underlying151) rfl <| ?_
  refine zV ((v_geq rfl rfl rfl).f (by omega)) rfl ?_
  refine zN <| cF rfl <| cK <| eN <| cS <| cR <| zM rfl <| zC rfl <| zF rfl fld_153_2 <| zL rfl one_149 rfl <| zV (v_eql_nil false rfl rfl Tryz.underlying149 rfl) rfl <| zN <| cF rfl <| ?_
  refine cK <| eN <| cR <| zM rfl <| zM rfl <| zV (v_build rfl rfl zero_159 plc_159 rfl) rfl <| WL.box rfl rfl rfl (.none rfl) rfl rfl <| ?_
  intro g65 hg65
  refine zA rfl <| zR <| zM rfl <| zC rfl <| zF rfl fld_153_1 <| zV (v_makeInterface rfl rfl Tryz.underlying157 rfl) rfl <| zM rfl <| zV (v_makeInterface rfl rfl Tryz.underlying154 rfl) rfl <| zK ck_108 rfl <| ?_
  intro w1 hS
  have hS2 : St p w0 w1 (clkL gC now d.ad d.c (some d.gm) d.hs d.E (.row g65 [.int .i64 x, .int .i64 t, .int .i64 0] :: (.obj d.gm (.map d.es d.cl) :: R))) := (by
    unfold Ck.L at hS
    unfold clkL at hS ⊢
    refine hS.perm ?_
    have e1 : ∀ (X : Ent) (E F : List Ent) (Y : Ent) (G : List Ent), (E ++ (F ++ (Y :: X :: G))).Perm (X :: (E ++ (F ++ (Y :: G)))) := fun X E F Y G => by
      refine (List.Perm.append_left _ ((List.Perm.append_left _ (List.Perm.swap _ _ _)).trans List.perm_middle)).trans List.perm_middle
    exact e1 _ _ _ _ _)
  refine (HPush_c (e := ⟨g65, x, t⟩) hS2 hd.vec (by omega) hd.heap).mono ?_
  rintro e' w' ⟨gL, r, c', h2, rfl, k1, k2, k3, k4, hS'⟩
  obtain ⟨m1, m2⟩ := hd.mine.add hd.nms hx k2
  refine ⟨_, .row gL (ptrs h2 ++ r) :: (ents 0 h2 ++ (.row gC [.int .i64 now, .slice (some ⟨gL, 0, none⟩) h2.length c', .map (some d.gm)] :: (.obj d.gm (.map d.es d.cl) :: R))), rfl, hS', ?_⟩
  refine zR <| zM rfl <| zC rfl <| zF rfl fld_153_2 <| zL rfl one_149 rfl <| zM rfl <| zM rfl <| WL.mapUpdate rfl rfl rfl rfl Tryz.underlying149 (keyI Tryz.underlying3) (KInt.mk _ _) hd.map (.none rfl) rfl <| ?_
  intro esU cU hMU hsU
  refine zR <| zA rfl <| zN <| cE <| tR Tryz.results82 rfl <| ?_
  exact fun w' h => ⟨⟨h2, some ⟨gL, 0, none⟩, c', [.row gL (ptrs h2 ++ r)], d.gm, esU, cU, updM d.m (.int .i64 x) (some (ptr ⟨g65, x, t⟩))⟩, g65, rfl, ⟨vec_line k4, k3, by simp only []; omega, hMU, m1, m2⟩, k2, h⟩
end

def Bag (d : Ck) (S : List (Int × Int)) : Prop := d.Ok ∧ (d.hs.map nt).Perm S
theorem Bag.perm {d : Ck} {S S' : List (Int × Int)} (h : Bag d S) (hp : S.Perm S') : Bag d S' := ⟨h.1, h.2.trans hp⟩
theorem Bag.len {d : Ck} {S : List (Int × Int)} (h : Bag d S) : d.hs.length = S.length := by have := h.2.length_eq; simpa using this
def ltp (a b : Int × Int) : Prop := a.2 < b.2 ∨ (a.2 = b.2 ∧ a.1 < b.1)
instance (a b : Int × Int) : Decidable (ltp a b) := by unfold ltp; infer_instance
theorem Bag.get {d : Ck} {S : List (Int × Int)} (h : Bag d S) {x t : Int} (hx : (x, t) ∈ S) : ∃ e ∈ d.hs, e.name = x ∧ e.time = t := by
  obtain ⟨e, he, k⟩ := List.mem_map.1 (h.2.symm.subset hx)
  simp only [nt, Prod.mk.injEq] at k
  exact ⟨e, he, k.1, k.2⟩
theorem Bag.mem {d : Ck} {S : List (Int × Int)} (h : Bag d S) {e : En} (he : e ∈ d.hs) : (e.name, e.time) ∈ S := h.2.subset (List.mem_map.2 ⟨e, he, rfl⟩)
theorem Bag.no {d : Ck} {S : List (Int × Int)} (h : Bag d S) {x : Int} (hx : ∀ y ∈ S, y.1 ≠ x) : ∀ e ∈ d.hs, e.name ≠ x := fun _ he => hx _ (h.mem he)
section
variable {p : Nat → Prop} {w0 w : World} {gC : Nat} {now : Int} {R : List Ent} {d : Ck} {S : List (Int × Int)}
theorem New_b (hS : St p w0 w R) : Calls Tryz.prog 49 #[] w fun e w' => ∃ gC d, e = .returned (.pointer (some ⟨gC, 0, none⟩)) ∧ Bag d [] ∧ St p w0 w' (d.L gC 0 R) :=
  (New_k hS).mono fun _ _ ⟨gC, d, he, h1, h2, h3⟩ => ⟨gC, d, he, ⟨h1, by rw [h2]; exact List.Perm.nil⟩, h3⟩
theorem Set_b (hS : St p w0 w (d.L gC now R)) (hb : Bag d S) (x t : Int) (h0 : now ≤ t) (h1 : t ≤ 1073741824) (hx : ∀ y ∈ S, y.1 ≠ x) (hf : S.length < 256) :
    Calls Tryz.prog 82 #[.pointer (some ⟨gC, 0, none⟩), .int .i64 x, .int .i64 t] w fun e' w' => ∃ d', e' = .returned (.int .i64 0) ∧ Bag d' (S ++ [(x, t)]) ∧ St p w0 w' (d'.L gC now R) := by
  refine (Set_new hS hb.1 x t h0 h1 (hb.no hx) (by rw [hb.len]; exact hf)).mono ?_
  rintro e' w' ⟨d', g, rfl, hd, hp, hS'⟩
  refine ⟨d', rfl, ⟨hd, (hp.map nt).trans ?_⟩, hS'⟩
  simp only [List.map_append, List.map_cons, List.map_nil]
  exact List.Perm.append_right _ hb.2
theorem Set_bo {A B : List (Int × Int)} {t0 : Int} (hS : St p w0 w (d.L gC now R)) (x t : Int) (hb : Bag d (A ++ ((x, t0) :: B))) (h0 : now ≤ t) (h1 : t ≤ 1073741824) :
    Calls Tryz.prog 82 #[.pointer (some ⟨gC, 0, none⟩), .int .i64 x, .int .i64 t] w fun e' w' => ∃ d', e' = .returned (.int .i64 0) ∧ Bag d' (A ++ ((x, t) :: B)) ∧ St p w0 w' (d'.L gC now R) := by
  obtain ⟨e, he, k1, k2⟩ := hb.get (x := x) (t := t0) (by simp)
  obtain ⟨A', B', hh⟩ := List.append_of_mem he
  subst k1
  refine (Set_old hS hb.1 hh t h0 h1).mono ?_
  rintro e' w' ⟨d', rfl, hd, hp, hS'⟩
  refine ⟨d', rfl, ⟨hd, (hp.map nt).trans ?_⟩, hS'⟩
  have h2 := hb.2
  rw [hh] at h2
  simp only [List.map_append, List.map_cons] at h2 ⊢
  have e1 : nt e = (e.name, t0) := by simp [nt, k2]
  rw [e1] at h2
  have h3 : (List.map nt A' ++ List.map nt B').Perm (A ++ B) := (List.perm_cons (e.name, t0)).1 (List.perm_middle.symm.trans (h2.trans List.perm_middle))
  exact List.perm_middle.trans ((List.Perm.cons (e.name, t) h3).trans List.perm_middle.symm)
theorem Stop_b {A B : List (Int × Int)} {t : Int} (hS : St p w0 w (d.L gC now R)) (x : Int) (hb : Bag d (A ++ ((x, t) :: B))) :
    Calls Tryz.prog 52 #[.pointer (some ⟨gC, 0, none⟩), .int .i64 x] w fun e' w' => ∃ d', e' = .returned (.bool true) ∧ Bag d' (A ++ B) ∧ St p w0 w' (d'.L gC now R) := by
  obtain ⟨e, he, k1, k2⟩ := hb.get (x := x) (t := t) (by simp)
  subst k1
  refine (Stop_k hS hb.1 he).mono ?_
  rintro e' w' ⟨d', rfl, hd, hp, hS'⟩
  refine ⟨d', rfl, ⟨hd, ?_⟩, hS'⟩
  have h2 := (hp.map nt).trans hb.2
  simp only [List.map_append, List.map_cons, List.map_nil] at h2
  have e1 : nt e = (e.name, t) := by simp [nt, k2]
  rw [e1] at h2
  exact (List.perm_cons (e.name, t)).1 (((List.perm_append_comm (l₁ := [(e.name, t)])).trans h2).trans List.perm_middle)
theorem Stop_bn (hS : St p w0 w (d.L gC now R)) (hb : Bag d S) (x : Int) (hx : ∀ y ∈ S, y.1 ≠ x) :
    Calls Tryz.prog 52 #[.pointer (some ⟨gC, 0, none⟩), .int .i64 x] w fun e' w' => e' = .returned (.bool false) ∧ Frm (fun _ => False) w w' := Stop_no hS hb.1 x (hb.no hx)
end


def dueF : Int → List Int → List (Int × Int)
  | _, [] => []
  | k, t :: ts => (if 0 ≤ t then [(k, t)] else []) ++ dueF (k + 1) ts
theorem dueF_app : ∀ (xs ys : List Int) (k : Int), dueF k (xs ++ ys) = dueF k xs ++ dueF (k + xs.length) ys
  | [], ys, k => by rw [List.nil_append, show k + (([] : List Int).length : Int) = k by simp]; rfl
  | x :: xs, ys, k => by
    rw [List.cons_append]
    unfold dueF
    rw [dueF_app xs ys (k + 1), List.append_assoc, List.length_cons, show k + 1 + (xs.length : Int) = k + ((xs.length + 1 : Nat) : Int) by omega]
    cases xs ++ ys <;> cases ys <;> rfl
theorem dueF_mem : ∀ {ts : List Int} {k : Int} {y : Int × Int}, y ∈ dueF k ts → k ≤ y.1 ∧ y.1 < k + ts.length ∧ 0 ≤ y.2
  | [], k, y, h => by unfold dueF at h; cases h
  | t :: ts, k, y, h => by
    unfold dueF at h
    rw [List.length_cons]
    rcases List.mem_append.1 h with h | h
    · split at h
      · obtain rfl := List.mem_singleton.1 h
        exact ⟨Int.le_refl _, by dsimp only; omega, by assumption⟩
      · cases h
    · have := dueF_mem h
      omega
theorem dueF_len : ∀ (ts : List Int) (k : Int), (dueF k ts).length ≤ ts.length
  | [], _ => Nat.le_refl _
  | t :: ts, k => by
    unfold dueF
    have := dueF_len ts (k + 1)
    rw [List.length_append, List.length_cons]
    split
    · rw [List.length_singleton]; omega
    · rw [List.length_nil]; omega
theorem part_at {α : Type} {D : List α} {n : Nat} (h : n < D.length) : ∃ A t B, D = A ++ (t :: B) ∧ A.length = n ∧ D[n]? = some t ∧ ∀ u, D.set n u = A ++ (u :: B) := by
  have hl : (D.take n).length = n := by rw [List.length_take]; omega
  refine ⟨D.take n, D[n], D.drop (n + 1), ?_, hl, List.getElem?_eq_getElem h, fun u => ?_⟩
  · rw [List.getElem_cons_drop, List.take_append_drop]
  · rw [List.set_eq_take_append_cons_drop, if_pos h]
theorem dueF_yes {A B : List Int} {t : Int} (h : 0 ≤ t) : dueF 0 (A ++ (t :: B)) = dueF 0 A ++ (((A.length : Int), t) :: dueF (A.length + 1) B) := by
  rw [dueF_app, Int.zero_add]
  show _ ++ ((if 0 ≤ t then _ else _) ++ _) = _
  rw [if_pos h]; rfl
theorem dueF_no {A B : List Int} {t : Int} (h : t < 0) : dueF 0 (A ++ (t :: B)) = dueF 0 A ++ dueF (A.length + 1) B := by
  rw [dueF_app, Int.zero_add]
  show _ ++ ((if 0 ≤ t then _ else _) ++ _) = _
  rw [if_neg (by omega)]; rfl
theorem dueF_ne {A B : List Int} : ∀ y ∈ dueF 0 A ++ dueF (A.length + 1) B, y.1 ≠ (A.length : Int) := fun y hy => by
  rcases List.mem_append.1 hy with h | h
  · have := dueF_mem h; omega
  · have := dueF_mem h; omega
section
variable {w0 w : World} {gC : Nat} {now : Int} {R : List Ent} {d : Ck} {D : List Int}
theorem Set_d (hS : St (fun _ => False) w0 w (d.L gC now R)) (hb : Bag d (dueF 0 D)) (n : Nat) (hn : n < D.length) (hl : D.length ≤ 100) (t : Int) (h0 : now ≤ t) (h1 : t ≤ 1073741824) (ht : 0 ≤ t) :
    Calls Tryz.prog 82 #[.pointer (some ⟨gC, 0, none⟩), .int .i64 n, .int .i64 t] w fun e' w' => ∃ d', e' = .returned (.int .i64 0) ∧ Bag d' (dueF 0 (D.set n t)) ∧ St (fun _ => False) w0 w' (d'.L gC now R) := by
  obtain ⟨A, t0, B, rfl, rfl, _, hs⟩ := part_at hn
  rw [hs, dueF_yes ht]
  by_cases h : 0 ≤ t0
  · rw [dueF_yes h] at hb
    exact Set_bo hS _ t hb h0 h1
  · rw [dueF_no (by omega)] at hb
    have hlen := dueF_len (A ++ (t0 :: B)) 0
    rw [dueF_no (by omega)] at hlen
    refine (Set_b hS hb _ t h0 h1 dueF_ne (by omega)).mono ?_
    rintro e' w' ⟨d', rfl, hb', hS'⟩
    exact ⟨d', rfl, hb'.perm ((List.perm_append_singleton _ _).trans List.perm_middle.symm), hS'⟩
theorem Stop_d (hS : St (fun _ => False) w0 w (d.L gC now R)) (hb : Bag d (dueF 0 D)) (n : Nat) (hn : n < D.length) :
    Calls Tryz.prog 52 #[.pointer (some ⟨gC, 0, none⟩), .int .i64 n] w fun e' w' => ∃ b d', e' = .returned (.bool b) ∧ Bag d' (dueF 0 (D.set n (-1))) ∧ St (fun _ => False) w0 w' (d'.L gC now R) := by
  obtain ⟨A, t0, B, rfl, rfl, _, hs⟩ := part_at hn
  rw [hs, dueF_no (by decide)]
  by_cases h : 0 ≤ t0
  · rw [dueF_yes h] at hb
    refine (Stop_b hS _ hb).mono ?_
    rintro e' w' ⟨d', rfl, hb', hS'⟩
    exact ⟨true, d', rfl, hb', hS'⟩
  · rw [dueF_no (by omega)] at hb
    refine (Stop_bn hS hb _ dueF_ne).mono ?_
    rintro e' w' ⟨rfl, hF⟩
    exact ⟨false, d, rfl, hb, hS.ext hF⟩
def FirstD (D : List Int) (u : Int) (n : Nat) (t : Int) : Prop := D[n]? = some t ∧ 0 ≤ t ∧ t ≤ u ∧ ∀ (k : Nat) (y : Int), k ≠ n → D[k]? = some y → 0 ≤ y → ltp ((n : Int), t) ((k : Int), y)
end

theorem laid_tail {P : Program} {x : String × DataW Unit} {r : List (String × DataW Unit)} {w : World} (h : laidMet P (x :: r) w) : laidMet P r w := by
  obtain ⟨ps, ⟨g, t, cs, fuel, p, q, _, _, _, _, hq, rfl⟩, hn, hc⟩ := h
  exact ⟨q, hq, (List.nodup_append.1 hn).2.1, fun b off hm => hc b off (List.mem_append_right _ hm)⟩
theorem laid_attr {w : World} (hL : laidMet Tryz.prog [("carrefour/attr.flags", Rows.laid_carrefour_attr_flags), ("carrefour/attr.sizes", Rows.laid_carrefour_attr_sizes)] w) : GF w ∧ GZ w := by
  constructor
  · have hT := Lib.tabIs_of_head (zs := [0, 64, 64, 64, 128, 64, 64, 192, 192]) (k := .i64) (show Tryz.prog.globalNamed "carrefour/attr.flags" = some 0 by kernel_rfl) (show (Tryz.prog.globals[0]?).map (·.type) = some 179 by kernel_rfl) Tryz.underlying179 Tryz.underlying3 (by kernel_rfl) (by kernel_rfl) hL
    intro i hi
    have := hT.cell (show Tryz.prog.globalNamed "carrefour/attr.flags" = some 0 by kernel_rfl) i hi
    match i, hi with
    | 0, _ | 1, _ | 2, _ | 3, _ | 4, _ | 5, _ | 6, _ | 7, _ | 8, _ => exact this
  · have hT := Lib.tabIs_of_head (zs := [0, 1, -1, 4, 4, 4, 0, 6, -1]) (k := .i64) (show Tryz.prog.globalNamed "carrefour/attr.sizes" = some 2 by kernel_rfl) (show (Tryz.prog.globals[2]?).map (·.type) = some 179 by kernel_rfl) Tryz.underlying179 Tryz.underlying3 (by kernel_rfl) (by kernel_rfl) (laid_tail hL)
    intro i hi
    have := hT.cell (show Tryz.prog.globalNamed "carrefour/attr.sizes" = some 2 by kernel_rfl) i hi
    match i, hi with
    | 0, _ | 1, _ | 2, _ | 3, _ | 4, _ | 5, _ | 6, _ | 7, _ | 8, _ => exact this

structure CnL where
  st : Int
  rd : RdL
  hold : Int
  id : Int
structure PeL where
  asn : Int
  id : Int
  their : Int
  hold : Int
  retry : Int
  gC : Nat
  base : Int
  c0 : CnL
  c1 : CnL
def PeL.cells (p : PeL) : List Value := [.int .i64 p.asn, .int .u32 p.id, .int .i64 p.their, .int .i64 p.hold, .int .i64 p.retry, .pointer (some ⟨p.gC, 0, none⟩), .int .i64 p.base,
  .int .i64 p.c0.st, .slice p.c0.rd.ad p.c0.rd.wait.length p.c0.rd.cap, .int .i64 p.c0.rd.count, .int .i64 p.c0.rd.fc, .int .i64 p.c0.rd.fs, .string p.c0.rd.fd, .int .i64 p.c0.hold, .int .u32 p.c0.id,
  .int .i64 p.c1.st, .slice p.c1.rd.ad p.c1.rd.wait.length p.c1.rd.cap, .int .i64 p.c1.rd.count, .int .i64 p.c1.rd.fc, .int .i64 p.c1.rd.fs, .string p.c1.rd.fd, .int .i64 p.c1.hold, .int .u32 p.c1.id]
structure CnM where
  st : Int
  wait : List Int
  count : Int
  fc : Int
  fs : Int
  fd : ByteArray
  hold : Int
  id : Int
def CnM.zero : CnM := ⟨0, [], 0, 0, 0, ⟨#[]⟩, 0, 0⟩
structure Se where
  asn : Int
  id : Int
  their : Int
  hold : Int
  retry : Int
  base : Int
  c0 : CnM
  c1 : CnM
  now : Int
  D : List Int
def CnL.m (c : CnL) : CnM := ⟨c.st, c.rd.wait, c.rd.count, c.rd.fc, c.rd.fs, c.rd.fd, c.hold, c.id⟩
def PeL.se (p : PeL) (now : Int) (D : List Int) : Se := ⟨p.asn, p.id, p.their, p.hold, p.retry, p.base, p.c0.m, p.c1.m, now, D⟩
def Se.c (s : Se) (n : Nat) : CnM := if n = 0 then s.c0 else s.c1
def Se.set (s : Se) (n : Nat) (c : CnM) : Se := if n = 0 then { s with c0 := c } else { s with c1 := c }
structure EfD where
  kind : Int
  conn : Int
  bs : List Int
  m : MsD
structure EfL where
  kind : Int
  conn : Int
  ad : Option Addr
  cap : Nat
  bs : List Int
  m : MsL
def EfL.d (e : EfL) : EfD := ⟨e.kind, e.conn, e.bs, e.m.d⟩
def EfL.cells (e : EfL) : List Value := .int .i64 e.kind :: .int .i64 e.conn :: .slice e.ad e.bs.length e.cap :: e.m.cells
def efsL (es : List EfL) : List Value := es.flatMap EfL.cells
structure EfOwn (K : List Ent) (e : EfL) : Prop where
  bytes : ∃ E, BV e.ad e.cap e.bs E ∧ ∀ x ∈ E, x ∈ K
def ef (k c : Int) : EfD := ⟨k, c, [], (MsL.zero 0).d⟩
def maxT : Int := 1073741824
def Se.due (s : Se) (n : Nat) (later : Int) : Se := { s with D := s.D.set n (if maxT ≤ s.now ∧ n ≠ 1 ∧ n ≠ 2 then -1 else min (s.now + later) maxT) }
def Se.dial (s : Se) : Se := { s with base := 1 }.due 0 s.retry
def Se.cut (s : Se) (n : Nat) : Se := { s.set n CnM.zero with D := (s.D.set (1 + n) (-1)).set (3 + n) (-1) }
def Se.gone (s : Se) (n : Nat) : Se := if s.base ≠ 0 ∧ (s.c (1 - n)).st = 0 then { s.cut n with base := if s.base = 1 then 1 else 2 }.due 0 s.retry else s.cut n
def goneE (s : Se) (n : Nat) : List EfD := if (s.c n).st = 5 then [ef 5 0] else []
def sendE (n : Int) (m : MsL) : List EfD := if msgC m = 0 then [⟨2, n, msgB m, (MsL.zero 0).d⟩] else []
def closeE (s : Se) (n : Nat) : List EfD := ef 3 n :: goneE s n
def noteM (C S : Int) (d : ByteArray) : MsL := { MsL.zero 3 with fc := C, fs := S, fd := d }
def endE (s : Se) (n : Nat) (C S : Int) (d : ByteArray) : List EfD := (if C = 0 then [] else sendE n (noteM C S d)) ++ closeE s n
def Se.Ok (s : Se) : Prop := (1 ≤ s.retry ∧ s.retry ≤ 65535) ∧ (0 ≤ s.hold ∧ s.hold ≤ 65535) ∧ (0 ≤ s.base ∧ s.base ≤ 2) ∧ (0 ≤ s.now ∧ s.now ≤ maxT) ∧ s.D.length = 5 ∧ (∀ t ∈ s.D, t = -1 ∨ s.now ≤ t ∧ t ≤ maxT) ∧ U32 s.id
def CnM.Ok (c : CnM) : Prop := (c.st = 0 ∨ 3 ≤ c.st ∧ c.st ≤ 5) ∧ c.wait.length ≤ 4096 ∧ (0 ≤ c.count ∧ c.count ≤ 4000000000000000000) ∧ (0 ≤ c.hold ∧ c.hold ≤ 65535) ∧ U32 c.id
structure PeAt (g : Nat) (p : PeL) (s : Se) (E0 E1 : List Ent) (d : Ck) : Prop where
  eq : p.se s.now s.D = s
  ok : s.Ok
  ok0 : s.c0.Ok
  ok1 : s.c1.Ok
  v0 : BV p.c0.rd.ad p.c0.rd.cap p.c0.rd.wait E0
  v1 : BV p.c1.rd.ad p.c1.rd.cap p.c1.rd.wait E1
  b0 : Bys p.c0.rd.wait
  b1 : Bys p.c1.rd.wait
  bag : Bag d (dueF 0 s.D)
def EfsV (ad : Option Addr) (c : Nat) (es : List EfL) (E K : List Ent) : Prop := Vec 23 ad es.length c (efsL es) E ∧ ∀ e ∈ es, EfOwn K e
structure PS where
  p : PeL
  E0 : List Ent
  E1 : List Ent
  d : Ck
  ad : Option Addr
  c : Nat
  fs : List EfL
  E : List Ent
  K : List Ent
def PS.L (y : PS) (g : Nat) (now : Int) (L : List Ent) : List Ent := y.E ++ (y.K ++ (.row g y.p.cells :: (y.E0 ++ (y.E1 ++ y.d.L y.p.gC now L))))
theorem St.permK {p : Nat → Prop} {w0 w : World} {L L' : List Ent} (hS : St p w0 w L) (h : ∀ (c : Ent → List Ent → Nat) (k : Ent → Ent → Nat), (∀ e a l, c e (a :: l) = c e l + k e a) → (∀ e l r, c e (l ++ r) = c e l + c e r) → (∀ e, c e [] = 0) → ∀ e, c e L = c e L' := by intro c k h1 h2 h3 e; simp only [PS.L, Ck.L, clkL, h1, h2, h3] <;> omega) : St p w0 w L' := hS.perm (by
  classical
  exact List.perm_iff_count.2 fun e => (h (fun e l => l.count e) (fun e a => if a == e then 1 else 0) (fun _ _ _ => List.count_cons) (fun _ _ _ => List.count_append) (fun _ => List.count_nil) e).symm)
theorem St.dropK {p : Nat → Prop} {w0 w : World} {L L' : List Ent} (Z : List Ent) (hS : St p w0 w L) (h : ∀ (c : Ent → List Ent → Nat) (k : Ent → Ent → Nat), (∀ e a l, c e (a :: l) = c e l + k e a) → (∀ e l r, c e (l ++ r) = c e l + c e r) → (∀ e, c e [] = 0) → ∀ e, c e L = c e (L' ++ Z) := by intro c k h1 h2 h3 e; simp only [PS.L, Ck.L, clkL, h1, h2, h3] <;> omega) : St p w0 w L' :=
  (hS.permK (L' := L' ++ Z) h).sub (List.sublist_append_left _ _)
theorem Se.due_D (s : Se) (n : Nat) (later : Int) : (s.due n later).D = s.D.set n (if maxT ≤ s.now ∧ n ≠ 1 ∧ n ≠ 2 then -1 else min (s.now + later) maxT) := rfl
theorem due_ok {s : Se} (h : s.Ok) (n : Nat) (later : Int) (hl : 0 ≤ later) : (s.due n later).Ok := by
  obtain ⟨h1, h2, h3, h4, h5, h6, h7⟩ := h
  refine ⟨h1, h2, h3, h4, (List.length_set ..).trans h5, fun t ht => ?_, h7⟩
  rcases List.mem_or_eq_of_mem_set ht with h | h
  · exact h6 t h
  · have e : (s.due n later).now = s.now := rfl
    rw [e, h]
    unfold maxT at *
    split
    · exact .inl rfl
    · right; omega

theorem PeAt.due {g : Nat} {p : PeL} {s : Se} {E0 E1 : List Ent} {d d' : Ck} (hA : PeAt g p s E0 E1 d) (n : Nat) (later : Int) (hl : 0 ≤ later) (hb : Bag d' (dueF 0 (s.due n later).D)) : PeAt g p (s.due n later) E0 E1 d' :=
  ⟨congrArg (fun z : Se => { z with D := (s.due n later).D }) hA.eq, due_ok hA.ok n later hl, hA.ok0, hA.ok1, hA.v0, hA.v1, hA.b0, hA.b1, hb⟩
theorem due_c (w0 w : World) (g : Nat) (p : PeL) (s : Se) (E0 E1 L : List Ent) (d : Ck) (hA : PeAt g p s E0 E1 d) (hS0 : St (fun _ => False) w0 w (.row g p.cells :: (E0 ++ (E1 ++ d.L p.gC s.now L)))) (n : Nat) (hn : n < 5) (later : Int) (hl : 0 ≤ later ∧ later ≤ 65535) :
    Calls Tryz.prog 53 #[.pointer (some ⟨g, 0, none⟩), .int .i64 n, .int .i64 later] w fun e w' => ∃ d', e = .returned (.tuple #[]) ∧ PeAt g p (s.due n later) E0 E1 d' ∧ St (fun _ => False) w0 w' (.row g p.cells :: (E0 ++ (E1 ++ d'.L p.gC s.now L))) := by
  have hnow := hA.ok.2.2.2.1
  have hD5 := hA.ok.2.2.2.2.1
  unfold maxT at hnow
  refine enter Tryz.func53 rfl Tryz.ntmps53 rfl hS0 ?_
  refine cR <| zM rfl <| zC rfl <| zF rfl fld_106_1 <| zL rfl one_98 rfl <| zK ck_61 rfl <| ?_
  intro w hS
  refine Calls.then (Now_k (hS.row (g := p.gC))) hS ?_
  refine zA rfl <| zR <| zM rfl <| ?_
  refine zT (v_eql rfl rfl rfl) rfl (fun h14 => ?_) (fun h14 => ?_)
  refine zM rfl ?_
  iterate 2 refine WL.sk rfl ?_
  refine zP rfl <| zA rfl <| zN <| cS <| cR <| zM rfl <| ?_
  refine zT (v_geq rfl rfl rfl) rfl (fun h20 => ?_) (fun h20 => ?_)
  refine zM rfl <| zS (v_move rfl rfl) rfl <| zS (v_not rfl rfl rfl) rfl <| zP rfl <| zN <| cF rfl <| cK <| eN <| WC.region <| zM rfl <| zC rfl <| zF rfl fld_106_1 <| zL rfl one_98 rfl <| zM rfl <| ?_
  refine zM rfl <| zM rfl <| ?_
  refine zV (v_add rfl rfl rfl (w_i64 (by omega) (by omega))) rfl ?_
  refine zV (v_min rfl rfl rfl) rfl <| zK ck_82 rfl <| ?_
  intro w1 hS
  refine (Set_d (now := s.now) (R := .row g p.cells :: (E0 ++ (E1 ++ L))) (hS.permK) hA.bag n (by omega) (by omega) (min (s.now + later) 1073741824) (by omega) (by omega) (by omega)).mono ?_
  rintro e w' ⟨d', rfl, hb', hS'⟩
  refine ⟨_, .row g p.cells :: (E0 ++ (E1 ++ d'.L p.gC s.now L)), rfl, hS'.permK, ?_⟩
  refine WL.nil <| WE.ret0 (P := Tryz.prog) (.inr rfl) Tryz.results53  <| ?_
  have e0 : (s.due n later).D = s.D.set n (min (s.now + later) 1073741824) := (by rw [Se.due_D, if_neg (by unfold maxT; omega)]; rfl)
  exact fun w' h => ⟨d', rfl, hA.due n later hl.1 (by rw [e0]; exact hb'), h⟩
  refine zM rfl ?_
  iterate 2 refine WL.sk rfl ?_
  refine zQ rfl <| zN <| cF rfl <| cK <| eN <| WC.region <| zM rfl <| zC rfl <| zF rfl fld_106_1 <| zL rfl one_98 rfl <| zM rfl <| zM rfl <| zM rfl <| ?_
  refine zV (v_add rfl rfl rfl (w_i64 (by omega) (by omega))) rfl ?_
  refine zV (v_min rfl rfl rfl) rfl <| zK ck_82 rfl <| ?_
  intro w1 hS
  refine (Set_d (now := s.now) (R := .row g p.cells :: (E0 ++ (E1 ++ L))) (hS.permK) hA.bag n (by omega) (by omega) (min (s.now + later) 1073741824) (by omega) (by omega) (by omega)).mono ?_
  rintro e w' ⟨d', rfl, hb', hS'⟩
  refine ⟨_, .row g p.cells :: (E0 ++ (E1 ++ d'.L p.gC s.now L)), rfl, hS'.permK, ?_⟩
  refine WL.nil <| WE.ret0 (P := Tryz.prog) (.inr rfl) Tryz.results53  <| ?_
  have e0 : (s.due n later).D = s.D.set n (min (s.now + later) 1073741824) := (by rw [Se.due_D, if_neg (by unfold maxT; omega)]; rfl)
  exact fun w' h => ⟨d', rfl, hA.due n later hl.1 (by rw [e0]; exact hb'), h⟩
  refine zM rfl <| zS (v_move rfl rfl) rfl <| ?_
  refine WL.test (v_eql rfl rfl rfl) (.some rfl rfl rfl) rfl rfl (fun h17 => ?_) (fun h17 => ?_)
  refine zQ rfl <| zA rfl <| zN <| cS <| cR <| zM rfl <| ?_
  refine zT (v_geq rfl rfl rfl) rfl (fun h20 => ?_) (fun h20 => ?_)
  refine zM rfl <| zS (v_move rfl rfl) rfl <| zS (v_not rfl rfl rfl) rfl <| zP rfl <| zN <| cF rfl <| cK <| eN <| WC.region <| zM rfl <| zC rfl <| zF rfl fld_106_1 <| zL rfl one_98 rfl <| zM rfl <| ?_
  refine zM rfl <| zM rfl <| ?_
  refine zV (v_add rfl rfl rfl (w_i64 (by omega) (by omega))) rfl ?_
  refine zV (v_min rfl rfl rfl) rfl <| zK ck_82 rfl <| ?_
  intro w1 hS
  refine (Set_d (now := s.now) (R := .row g p.cells :: (E0 ++ (E1 ++ L))) (hS.permK) hA.bag n (by omega) (by omega) (min (s.now + later) 1073741824) (by omega) (by omega) (by omega)).mono ?_
  rintro e w' ⟨d', rfl, hb', hS'⟩
  refine ⟨_, .row g p.cells :: (E0 ++ (E1 ++ d'.L p.gC s.now L)), rfl, hS'.permK, ?_⟩
  refine WL.nil <| WE.ret0 (P := Tryz.prog) (.inr rfl) Tryz.results53  <| ?_
  have e0 : (s.due n later).D = s.D.set n (min (s.now + later) 1073741824) := (by rw [Se.due_D, if_neg (by unfold maxT; omega)]; rfl)
  exact fun w' h => ⟨d', rfl, hA.due n later hl.1 (by rw [e0]; exact hb'), h⟩
  refine zM rfl ?_
  iterate 2 refine WL.sk rfl ?_
  refine zQ rfl <| zN <| cF rfl <| cK <| eN <| WC.region <| zM rfl <| zC rfl <| zF rfl fld_106_1 <| zL rfl one_98 rfl <| zM rfl <| zM rfl <| zM rfl <| ?_
  refine zV (v_add rfl rfl rfl (w_i64 (by omega) (by omega))) rfl ?_
  refine zV (v_min rfl rfl rfl) rfl <| zK ck_82 rfl <| ?_
  intro w1 hS
  refine (Set_d (now := s.now) (R := .row g p.cells :: (E0 ++ (E1 ++ L))) (hS.permK) hA.bag n (by omega) (by omega) (min (s.now + later) 1073741824) (by omega) (by omega) (by omega)).mono ?_
  rintro e w' ⟨d', rfl, hb', hS'⟩
  refine ⟨_, .row g p.cells :: (E0 ++ (E1 ++ d'.L p.gC s.now L)), rfl, hS'.permK, ?_⟩
  refine WL.nil <| WE.ret0 (P := Tryz.prog) (.inr rfl) Tryz.results53  <| ?_
  have e0 : (s.due n later).D = s.D.set n (min (s.now + later) 1073741824) := (by rw [Se.due_D, if_neg (by unfold maxT; omega)]; rfl)
  exact fun w' h => ⟨d', rfl, hA.due n later hl.1 (by rw [e0]; exact hb'), h⟩
  refine zQ rfl <| zA rfl <| zN <| cS <| cR <| zM rfl <| ?_
  refine zT (v_geq rfl rfl rfl) rfl (fun h20 => ?_) (fun h20 => ?_)
  refine zM rfl <| zS (v_move rfl rfl) rfl <| zS (v_not rfl rfl rfl) rfl <| zP rfl <| zN <| cT rfl <| cR <| zM rfl <| zC rfl <| zF rfl fld_106_1 <| zL rfl one_98 rfl <| zM rfl <| zK ck_52 rfl <| ?_
  intro w1 hS
  refine (Stop_d (now := s.now) (R := .row g p.cells :: (E0 ++ (E1 ++ L))) (hS.permK) hA.bag n (by omega)).mono ?_
  rintro e w' ⟨b, d', rfl, hb', hS'⟩
  refine ⟨_, .row g p.cells :: (E0 ++ (E1 ++ d'.L p.gC s.now L)), rfl, hS'.permK, ?_⟩
  refine zN <| cE <| eR <| WE.ret0 (P := Tryz.prog) (.inl rfl) Tryz.results53  <| ?_
  have e0 : (s.due n later).D = s.D.set n (-1) := (by rw [Se.due_D, if_pos (by unfold maxT; omega)])
  exact fun w' h => ⟨d', rfl, hA.due n later hl.1 (by rw [e0]; exact hb'), h⟩
  refine zM rfl ?_
  iterate 2 refine WL.sk rfl ?_
  refine zQ rfl <| zN <| cF rfl <| cK <| eN <| WC.region <| zM rfl <| zC rfl <| zF rfl fld_106_1 <| zL rfl one_98 rfl <| zM rfl <| zM rfl <| zM rfl <| ?_
  refine zV (v_add rfl rfl rfl (w_i64 (by omega) (by omega))) rfl ?_
  refine zV (v_min rfl rfl rfl) rfl <| zK ck_82 rfl <| ?_
  intro w1 hS
  refine (Set_d (now := s.now) (R := .row g p.cells :: (E0 ++ (E1 ++ L))) (hS.permK) hA.bag n (by omega) (by omega) (min (s.now + later) 1073741824) (by omega) (by omega) (by omega)).mono ?_
  rintro e w' ⟨d', rfl, hb', hS'⟩
  refine ⟨_, .row g p.cells :: (E0 ++ (E1 ++ d'.L p.gC s.now L)), rfl, hS'.permK, ?_⟩
  refine WL.nil <| WE.ret0 (P := Tryz.prog) (.inr rfl) Tryz.results53  <| ?_
  have e0 : (s.due n later).D = s.D.set n (min (s.now + later) 1073741824) := (by rw [Se.due_D, if_neg (by unfold maxT; omega)]; rfl)
  exact fun w' h => ⟨d', rfl, hA.due n later hl.1 (by rw [e0]; exact hb'), h⟩
def efZ (k c : Int) : EfL := ⟨k, c, none, 0, [], MsL.zero 0⟩
theorem efZ_own (K : List Ent) (k c : Int) : EfOwn K (efZ k c) := ⟨⟨[], Vec.nil 1, fun _ h => by cases h⟩⟩
theorem efZ_one {g : Nat} (k c : Int) : EfsV (some ⟨g, 0, none⟩) 1 [efZ k c] [.row g (efZ k c).cells] [] := ⟨Vec.row (k := 1) (c := 1) rfl rfl (Nat.le_refl _), fun e he => by
  obtain rfl := List.mem_singleton.1 he
  exact efZ_own _ _ _⟩
def EffC (w0 w' : World) (g : Nat) (es : List EfD) (s' : Se) (L : List Ent) (e : Ending) : Prop :=
  ∃ ad c fs E K p' E0' E1' d', e = .returned (.slice ad fs.length c) ∧ EfsV ad c fs E K ∧ fs.map EfL.d = es ∧ PeAt g p' s' E0' E1' d' ∧ St (fun _ => False) w0 w' (E ++ (K ++ (.row g p'.cells :: (E0' ++ (E1' ++ d'.L p'.gC s'.now L)))))
theorem dial_c (w0 w : World) (g : Nat) (p : PeL) (s : Se) (E0 E1 L : List Ent) (d : Ck) (hA : PeAt g p s E0 E1 d) (hS0 : St (fun _ => False) w0 w (.row g p.cells :: (E0 ++ (E1 ++ d.L p.gC s.now L)))) :
    Calls Tryz.prog 50 #[.pointer (some ⟨g, 0, none⟩)] w fun e w' => EffC w0 w' g [ef 1 0] s.dial L e := by
  have hretry := hA.ok.1
  have hr0 : p.retry = s.retry := (congrArg Se.retry hA.eq :)
  refine enter Tryz.func50 rfl Tryz.ntmps50 rfl hS0 ?_
  refine cR <| zA rfl <| zR <| zM rfl <| zC rfl <| zF rfl fld_106_2 <| zO one_3 rfl rfl <| WL.as (L' := .row g ({ p with base := 1 } : PeL).cells :: (E0 ++ (E1 ++ d.L p.gC s.now L))) rfl <| ?_
  have hA1 : PeAt g { p with base := 1 } { s with base := 1 } E0 E1 d := ⟨congrArg (fun z : Se => { z with base := 1 }) hA.eq, ⟨hA.ok.1, hA.ok.2.1, by dsimp only; omega, hA.ok.2.2.2⟩, hA.ok0, hA.ok1, hA.v0, hA.v1, hA.b0, hA.b1, hA.bag⟩
  refine zR <| zM rfl <| zM rfl <| zC rfl <| zF rfl fld_106_0 <| zF rfl fld_44_4 <| zL rfl one_3 rfl <| zK ck_53 rfl <| ?_
  intro w1 hS
  refine (due_c w0 w1 g { p with base := 1 } { s with base := 1 } E0 E1 L d hA1 hS 0 (by omega) p.retry (by omega)).mono ?_
  rintro e w' ⟨d', rfl, hA', hS'⟩
  refine ⟨_, _, rfl, hS', ?_⟩
  refine zR <| zV (v_build rfl rfl zero_54 plc_54 rfl) rfl <| zB Tryz.underlying46 sz_54 zero_54 rfl rfl <| ?_
  intro g14 hg14
  refine zA rfl <| zN <| cE <| tR Tryz.results50 rfl <| ?_
  refine fun w' h => ⟨_, 1, [efZ 1 0], _, [], _, E0, E1, d', rfl, efZ_one 1 0, rfl, ?_, h⟩
  have key : ({ s with base := 1 } : Se).due 0 p.retry = s.dial := (by unfold Se.dial; rw [hr0])
  rw [key] at hA'
  exact hA'

def PeL.c (p : PeL) (n : Nat) : CnL := if n = 0 then p.c0 else p.c1
def CnL.zero : CnL := ⟨0, ⟨none, 0, [], 0, 0, 0, ⟨#[]⟩⟩, 0, 0⟩
def PeL.cutN (p : PeL) (n : Nat) : PeL := if n = 0 then { p with c0 := CnL.zero } else { p with c1 := CnL.zero }
theorem there_c (w : World) (g : Nat) (p : PeL) (hR : Row w g p.cells) (n : Nat) (hn : n < 2) : Calls Tryz.prog 51 #[.pointer (some ⟨g, 0, none⟩), .int .i64 n] w fun e w' => e = .returned (.bool (decide ((p.c n).st ≠ 0))) ∧ Frm (fun _ => False) w w' := by
  have hst : p.cells[7 + n * 8]? = some (.int .i64 (p.c n).st) := by
    match n, hn with
    | 0, _ => rfl
    | 1, _ => rfl
  refine enter Tryz.func51 rfl Tryz.ntmps51 rfl (St.start (fun _ => False) w) ?_
  refine cR <| zA rfl <| zR <| zM rfl <| zV (v_neq_nil true rfl rfl Tryz.underlying40 rfl) rfl <| zM rfl <| zS (v_move rfl rfl) rfl <| ?_
  refine WL.test (v_eql rfl rfl rfl) (.some rfl rfl rfl) rfl rfl (fun h9 => ?_) (fun h9 => ?_)
  refine zS (v_move rfl rfl) rfl ?_
  iterate 2 refine WL.sk rfl ?_
  refine zS (v_pick_t rfl rfl rfl) rfl <| zP rfl <| zM rfl <| zS (v_move rfl rfl) rfl <| zS (v_move rfl rfl) rfl <| zS (v_nilCheck rfl rfl) rfl <| zS (v_fieldAddr0 rfl rfl fld_106_3) rfl <| ?_
  refine zS (v_indexAddrA (lo := n) rfl rfl rfl Tryz.underlying104 sz_103 (by omega) (by omega)) rfl ?_
  refine zS (v_fieldAddr rfl rfl fld_103_0) rfl <| zS (v_load1 rfl rfl one_3 (cellOld (fun h => h) (hR.cell hst))) rfl <| ?_
  refine WL.test (v_neq rfl rfl rfl) (.some rfl rfl rfl) rfl rfl (fun h23 => ?_) (fun h23 => ?_)
  refine zP rfl <| zA rfl <| zN <| cE <| tR Tryz.results51 rfl <| ?_
  exact fun w' h => ⟨by rw [decide_eq_true h23], h.frm⟩
  refine zP rfl <| zA rfl <| zN <| cE <| tR Tryz.results51 rfl <| ?_
  exact fun w' h => ⟨by rw [decide_eq_false h23], h.frm⟩
  refine zS (v_move rfl rfl) rfl <| zS (v_move rfl rfl) rfl <| ?_
  refine zS ((v_eql rfl rfl rfl).t ((by omega))) rfl ?_
  refine zS (v_pick_f rfl rfl rfl) rfl <| zP rfl <| zM rfl <| zS (v_move rfl rfl) rfl <| zS (v_move rfl rfl) rfl <| zS (v_nilCheck rfl rfl) rfl <| zS (v_fieldAddr0 rfl rfl fld_106_3) rfl <| ?_
  refine zS (v_indexAddrA (lo := n) rfl rfl rfl Tryz.underlying104 sz_103 (by omega) (by omega)) rfl ?_
  refine zS (v_fieldAddr rfl rfl fld_103_0) rfl <| zS (v_load1 rfl rfl one_3 (cellOld (fun h => h) (hR.cell hst))) rfl <| ?_
  refine WL.test (v_neq rfl rfl rfl) (.some rfl rfl rfl) rfl rfl (fun h23 => ?_) (fun h23 => ?_)
  refine zP rfl <| zA rfl <| zN <| cE <| tR Tryz.results51 rfl <| ?_
  exact fun w' h => ⟨by rw [decide_eq_true h23], h.frm⟩
  refine zP rfl <| zA rfl <| zN <| cE <| tR Tryz.results51 rfl <| ?_
  exact fun w' h => ⟨by rw [decide_eq_false h23], h.frm⟩
theorem there_out (w : World) (g : Nat) (n : Int) (hn : n ≠ 0 ∧ n ≠ 1) : Calls Tryz.prog 51 #[.pointer (some ⟨g, 0, none⟩), .int .i64 n] w fun e w' => e = .returned (.bool false) ∧ Frm (fun _ => False) w w' := by
  refine enter Tryz.func51 rfl Tryz.ntmps51 rfl (St.start (fun _ => False) w) ?_
  refine cR <| zA rfl <| zR <| zM rfl <| zV (v_neq_nil true rfl rfl Tryz.underlying40 rfl) rfl <| zM rfl <| zS (v_move rfl rfl) rfl <| zS ((v_eql rfl rfl rfl).f (hn.1)) rfl <| zS (v_move rfl rfl) rfl <| zS (v_move rfl rfl) rfl <| zS ((v_eql rfl rfl rfl).f (hn.2)) rfl <| ?_
  refine zS (v_pick_f rfl rfl rfl) rfl <| zP rfl <| zM rfl <| ?_
  iterate 8 refine WL.sk rfl ?_
  refine zQ rfl <| zA rfl <| zN <| cE <| tR Tryz.results51 rfl <| ?_
  exact fun w' h => ⟨rfl, h.frm⟩
theorem cut_ok {s : Se} (h : s.Ok) (n : Nat) (_hn : n < 2) : (s.cut n).Ok := by
  obtain ⟨h1, h2, h3, h4, h5, h6, h7⟩ := h
  have e : (s.cut n).retry = s.retry ∧ (s.cut n).hold = s.hold ∧ (s.cut n).base = s.base ∧ (s.cut n).now = s.now ∧ (s.cut n).id = s.id := by
    unfold Se.cut Se.set
    split <;> exact ⟨rfl, rfl, rfl, rfl, rfl⟩
  have eD : (s.cut n).D = (s.D.set (1 + n) (-1)).set (3 + n) (-1) := rfl
  obtain ⟨e1, e2, e3, e4, e5⟩ := e
  unfold Se.Ok
  rw [e1, e2, e3, e4, e5, eD]
  refine ⟨h1, h2, h3, h4, by rw [List.length_set, List.length_set]; exact h5, fun t ht => ?_, h7⟩
  rcases List.mem_or_eq_of_mem_set ht with h | h
  · rcases List.mem_or_eq_of_mem_set h with h | h
    · exact h6 t h
    · exact .inl h
  · exact .inl h
theorem Se.base_eta {s : Se} {b : Int} (h : s.base = b) : { s with base := b } = s := by subst h; rfl
theorem cut_base (s : Se) (n : Nat) : (s.cut n).base = s.base ∧ (s.cut n).now = s.now ∧ (s.cut n).retry = s.retry := by
  unfold Se.cut Se.set
  split <;> exact ⟨rfl, rfl, rfl⟩
theorem gone_yes {s : Se} {n : Nat} (h1 : s.base ≠ 0) (h2 : (s.c (1 - n)).st = 0) : s.gone n = ({ s.cut n with base := if s.base = 1 then 1 else 2 } : Se).due 0 s.retry := if_pos ⟨h1, h2⟩
theorem gone_no {s : Se} {n : Nat} (h : ¬ (s.base ≠ 0 ∧ (s.c (1 - n)).st = 0)) : s.gone n = s.cut n := if_neg h
theorem gone_now (s : Se) (n : Nat) : (s.gone n).now = s.now := by
  unfold Se.gone
  split
  · exact (cut_base s n).2.1
  · exact (cut_base s n).2.1
theorem PeAt.base {g : Nat} {p : PeL} {s : Se} {E0 E1 : List Ent} {d : Ck} (hA : PeAt g p s E0 E1 d) (b : Int) (hb : 0 ≤ b ∧ b ≤ 2) : PeAt g { p with base := b } { s with base := b } E0 E1 d :=
  ⟨congrArg (fun z : Se => { z with base := b }) hA.eq, ⟨hA.ok.1, hA.ok.2.1, hb, hA.ok.2.2.2⟩, hA.ok0, hA.ok1, hA.v0, hA.v1, hA.b0, hA.b1, hA.bag⟩
theorem zero_okC : CnM.zero.Ok := ⟨.inl rfl, Nat.zero_le _, ⟨Int.le_refl _, by decide⟩, ⟨Int.le_refl _, by decide⟩, ⟨Int.le_refl _, by decide⟩⟩
set_option maxHeartbeats 1000000 in
theorem gone0_c (w0 w : World) (g : Nat) (p : PeL) (s : Se) (E0 E1 L : List Ent) (d : Ck) (hA : PeAt g p s E0 E1 d) (hS0 : St (fun _ => False) w0 w (.row g p.cells :: (E0 ++ (E1 ++ d.L p.gC s.now L)))) :
    Calls Tryz.prog 59 #[.pointer (some ⟨g, 0, none⟩), .int .i64 0] w fun e w' => EffC w0 w' g (goneE s 0) (s.gone 0) L e := by
  have hretry := hA.ok.1
  have hbase := hA.ok.2.2.1
  have hD5 := hA.ok.2.2.2.2.1
  have hr0 : p.retry = s.retry := (congrArg Se.retry hA.eq :)
  have hb0 : p.base = s.base := (congrArg Se.base hA.eq :)
  have hc0 : p.c0.m = s.c0 := (congrArg Se.c0 hA.eq :)
  have hc1 : p.c1.m = s.c1 := (congrArg Se.c1 hA.eq :)
  have hstn : p.c0.st = (s.c 0).st := (congrArg CnM.st hc0 :)
  have hstm : p.c1.st = (s.c 1).st := (congrArg CnM.st hc1 :)
  refine enter Tryz.func59 rfl Tryz.ntmps59 rfl hS0 ?_
  refine cR <| zA rfl <| zR <| zM rfl <| zM rfl <| zC rfl <| zF rfl fld_106_3 <| ?_
  refine zV (v_indexAddrA (lo := 0) rfl rfl rfl Tryz.underlying104 sz_103 (by omega) (by omega)) rfl ?_
  refine zV (v_fieldAddr rfl rfl fld_103_0) rfl <| zV (v_load1 rfl rfl one_3 (cellAt (v := .int .i64 p.c0.st) rfl)) rfl <| zA rfl <| zR <| zM rfl <| zM rfl <| zV (v_build rfl rfl zero_103 plc_103 rfl) rfl <| zC rfl <| zF rfl fld_106_3 <| ?_
  refine zV (v_indexAddrA (lo := 0) rfl rfl rfl Tryz.underlying104 sz_103 (by omega) (by omega)) rfl ?_
  refine WL.storeN rfl rfl rfl rfl many_103 rfl (by first | exact Nat.le_of_ble_eq_true rfl | simp) (.none rfl) rfl ?_
  refine WL.as (L' := .row g (p.cutN 0).cells :: (E0 ++ (E1 ++ d.L p.gC s.now L))) rfl <| zR <| zM rfl <| zC rfl <| zF rfl fld_106_1 <| zL rfl one_98 rfl <| zM rfl <| ?_
  refine zV (v_add rfl rfl rfl (show _ = (1 : Int) from w_i64 (by decide) (by decide))) rfl ?_
  refine zK ck_52 rfl ?_
  intro w1 hS
  refine (Stop_d (gC := p.gC) (now := s.now) (R := .row g (p.cutN 0).cells :: (E0 ++ (E1 ++ L))) (hS.permK ) hA.bag 1 (by omega)).mono ?_
  rintro e w' ⟨b1, d1, rfl, hb1, hS'⟩
  refine ⟨_, .row g (p.cutN 0).cells :: (E0 ++ (E1 ++ d1.L p.gC s.now L)), rfl, hS'.permK , ?_⟩
  refine zR <| zM rfl <| zC rfl <| zF rfl fld_106_1 <| zL rfl one_98 rfl <| zM rfl <| ?_
  refine zV (v_add rfl rfl rfl (show _ = (3 : Int) from w_i64 (by decide) (by decide))) rfl ?_
  refine zK ck_52 rfl ?_
  intro w1 hS
  refine (Stop_d (gC := p.gC) (now := s.now) (R := .row g (p.cutN 0).cells :: (E0 ++ (E1 ++ L))) (hS.permK ) hb1 3 (by rw [List.length_set]; omega)).mono ?_
  rintro e w' ⟨b2, d2, rfl, hb2, hS'⟩
  refine ⟨_, .row g (p.cutN 0).cells :: ([] ++ (E1 ++ d2.L p.gC s.now L)), rfl, St.dropK E0 hS' , ?_⟩
  have hA2 : PeAt g (p.cutN 0) (s.cut 0) [] E1 d2 := (by
    refine ⟨?_, cut_ok hA.ok 0 (by decide), ?_, ?_, ?_, ?_, ?_, ?_, hb2⟩
    · have := congrArg (fun z : Se => z.cut 0) hA.eq
      exact this
    all_goals first | exact zero_okC | exact hA.ok0 | exact hA.ok1 | exact Vec.nil 1 | exact hA.v0 | exact hA.v1 | exact Bys.nil | exact hA.b0 | exact hA.b1)
  refine zN ?_
  refine WC.cut (fun _ : PeL × Ck => [(5, .int .i64 p.c0.st)]) (fun y => .row g y.1.cells :: ([] ++ (E1 ++ y.2.L y.1.gC s.now L))) (fun y => PeAt g y.1 (s.gone 0) [] E1 y.2) ?_ ?_
  refine cR <| zM rfl <| zC rfl <| zF rfl fld_106_2 <| zL rfl one_3 rfl <| ?_
  refine zT (v_neq rfl rfl rfl) rfl (fun h37 => ?_) (fun h37 => ?_)
  refine zM rfl <| zS (v_move rfl rfl) rfl <| zS (v_move rfl rfl) rfl <| ?_
  refine zS (v_sub rfl rfl rfl (show _ = (1 : Int) from w_i64 (by decide) (by decide))) rfl ?_
  refine WL.call rfl rfl ck_51 (.some rfl rfl rfl) rfl rfl ?_
  intro w hS
  refine Calls.then (there_c w g (p.cutN 0) (hS.row (g := g)) 1 (by decide)) hS ?_
  generalize hth : decide (((p.cutN 0).c 1).st ≠ 0) = b42
  cases b42
  refine zS (v_not rfl rfl rfl) rfl <| zP rfl <| zN <| cT rfl <| cS <| cR <| zM rfl <| zC rfl <| zF rfl fld_106_2 <| zL rfl one_3 rfl <| ?_
  refine zT (v_neq rfl rfl rfl) rfl (fun h49 => ?_) (fun h49 => ?_)
  refine zN <| cT rfl <| WC.region <| zM rfl <| zC rfl <| zF rfl fld_106_2 <| zO one_3 rfl rfl <| WL.as (L' := .row g ({ p.cutN 0 with base := 2 } : PeL).cells :: ([] ++ (E1 ++ d2.L p.gC s.now L))) rfl <| zN <| WC.region <| zM rfl <| zM rfl <| zC rfl <| zF rfl fld_106_0 <| ?_
  refine zF rfl fld_44_4 <| zL rfl one_3 rfl <| zK ck_53 rfl <| ?_
  intro w1 hS
  have hcb := cut_base s 0
  have hz : (s.c 1).st = 0 := hstm.symm.trans (Decidable.of_not_not (of_decide_eq_false hth))
  have hb1 : s.base ≠ 1 := (by rw [← hb0]; exact h49)
  have hbz : s.base ≠ 0 := (by rw [← hb0]; exact h37)
  have h := due_c w0 w1 g { p.cutN 0 with base := 2 } { s.cut 0 with base := 2 } [] E1 L d2 (hA2.base 2 (by omega)) (by show St _ _ _ (_ :: (_ ++ (_ ++ d2.L p.gC (s.cut 0).now L))); rw [hcb.2.1]; exact hS) 0 (by omega) p.retry (by omega)
  refine h.mono ?_
  rintro e w' ⟨d3, rfl, hA3, hS'⟩
  rw [hr0, show ({ s.cut 0 with base := 2 } : Se).due 0 s.retry = s.gone 0 by rw [gone_yes hbz hz, if_neg hb1]] at hA3
  refine ⟨_, .row g ({ p.cutN 0 with base := 2 } : PeL).cells :: ([] ++ (E1 ++ d3.L p.gC s.now L)), rfl, (by rw [← hcb.2.1]; exact hS'), ?_⟩
  refine WL.nil ?_
  exact WE.mid ({ p.cutN 0 with base := 2 }, d3) hA3 (.cons rfl .nil) (.refl _)
  refine zN <| cF rfl <| cK <| eN <| WC.region <| zM rfl <| zM rfl <| zC rfl <| zF rfl fld_106_0 <| zF rfl fld_44_4 <| zL rfl one_3 rfl <| zK ck_53 rfl <| ?_
  intro w1 hS
  have hcb := cut_base s 0
  have hz : (s.c 1).st = 0 := hstm.symm.trans (Decidable.of_not_not (of_decide_eq_false hth))
  have hb1 : s.base = 1 := (by rw [← hb0]; exact Decidable.of_not_not h49)
  have h := due_c w0 w1 g (p.cutN 0) (s.cut 0) [] E1 L d2 hA2 (by rw [hcb.2.1]; exact hS) 0 (by omega) p.retry (by omega)
  refine h.mono ?_
  rintro e w' ⟨d3, rfl, hA3, hS'⟩
  rw [hr0, show (s.cut 0).due 0 s.retry = s.gone 0 by rw [gone_yes (by omega) hz, if_pos hb1, Se.base_eta (hcb.1.trans hb1)]] at hA3
  refine ⟨_, .row g (p.cutN 0).cells :: ([] ++ (E1 ++ d3.L p.gC s.now L)), rfl, (by rw [← hcb.2.1]; exact hS'), ?_⟩
  refine WL.nil ?_
  exact WE.mid (p.cutN 0, d3) hA3 (.cons rfl .nil) (.refl _)
  refine zS (v_not rfl rfl rfl) rfl <| zP rfl <| zN <| cF rfl <| cK <| ?_
  exact WE.mid (p.cutN 0, d2) (by dsimp only; rw [gone_no (fun hh => of_decide_eq_true hth (hstm.trans hh.2))]; exact hA2) (.cons rfl .nil) (.refl _)
  refine zM rfl ?_
  iterate 4 refine WL.sk rfl ?_
  generalize hth : decide (((p.cutN 0).c 1).st ≠ 0) = b42
  cases b42
  refine WL.sk rfl <| zQ rfl <| zN <| cF rfl <| cK <| ?_
  exact WE.mid (p.cutN 0, d2) (by dsimp only; rw [gone_no (fun hh => h37 (by rw [← hb0] at hh; exact hh.1))]; exact hA2) (.cons rfl .nil) (.refl _)
  refine WL.sk rfl <| zQ rfl <| zN <| cF rfl <| cK <| ?_
  exact WE.mid (p.cutN 0, d2) (by dsimp only; rw [gone_no (fun hh => h37 (by rw [← hb0] at hh; exact hh.1))]; exact hA2) (.cons rfl .nil) (.refl _)
  rintro ⟨p3, d3⟩ hA3
  dsimp only at hA3
  dsimp only
  refine cS <| cR <| zM rfl <| ?_
  refine zT (v_neq rfl rfl rfl) rfl (fun h61 => ?_) (fun h61 => ?_)
  refine zN <| cT rfl <| cR <| zA rfl <| zN <| cE <| eR <| tR Tryz.results59 rfl <| ?_
  exact fun w' h => ⟨none, 0, [], [], [], p3, [], E1, d3, rfl, ⟨Vec.nil 23, fun e he => by cases he⟩, by unfold goneE; rw [if_neg (by omega)]; rfl, hA3, by rw [gone_now]; exact h⟩
  refine zN <| cF rfl <| cK <| eN <| cR <| zV (v_build rfl rfl zero_54 plc_54 rfl) rfl <| zB Tryz.underlying46 sz_54 zero_54 rfl rfl <| ?_
  intro g63 hg63
  refine zA rfl <| zN <| cE <| tR Tryz.results59 rfl <| ?_
  exact fun w' h => ⟨_, 1, [efZ 5 0], _, [], p3, [], E1, d3, rfl, efZ_one 5 0, by unfold goneE; rw [if_pos (by omega)]; rfl, hA3, by rw [gone_now]; exact h⟩
set_option maxHeartbeats 1000000 in
theorem gone1_c (w0 w : World) (g : Nat) (p : PeL) (s : Se) (E0 E1 L : List Ent) (d : Ck) (hA : PeAt g p s E0 E1 d) (hS0 : St (fun _ => False) w0 w (.row g p.cells :: (E0 ++ (E1 ++ d.L p.gC s.now L)))) :
    Calls Tryz.prog 59 #[.pointer (some ⟨g, 0, none⟩), .int .i64 1] w fun e w' => EffC w0 w' g (goneE s 1) (s.gone 1) L e := by
  have hretry := hA.ok.1
  have hbase := hA.ok.2.2.1
  have hD5 := hA.ok.2.2.2.2.1
  have hr0 : p.retry = s.retry := (congrArg Se.retry hA.eq :)
  have hb0 : p.base = s.base := (congrArg Se.base hA.eq :)
  have hc0 : p.c0.m = s.c0 := (congrArg Se.c0 hA.eq :)
  have hc1 : p.c1.m = s.c1 := (congrArg Se.c1 hA.eq :)
  have hstn : p.c1.st = (s.c 1).st := (congrArg CnM.st hc1 :)
  have hstm : p.c0.st = (s.c 0).st := (congrArg CnM.st hc0 :)
  refine enter Tryz.func59 rfl Tryz.ntmps59 rfl hS0 ?_
  refine cR <| zA rfl <| zR <| zM rfl <| zM rfl <| zC rfl <| zF rfl fld_106_3 <| ?_
  refine zV (v_indexAddrA (lo := 1) rfl rfl rfl Tryz.underlying104 sz_103 (by omega) (by omega)) rfl ?_
  refine zV (v_fieldAddr rfl rfl fld_103_0) rfl <| zV (v_load1 rfl rfl one_3 (cellAt (v := .int .i64 p.c1.st) rfl)) rfl <| zA rfl <| zR <| zM rfl <| zM rfl <| zV (v_build rfl rfl zero_103 plc_103 rfl) rfl <| zC rfl <| zF rfl fld_106_3 <| ?_
  refine zV (v_indexAddrA (lo := 1) rfl rfl rfl Tryz.underlying104 sz_103 (by omega) (by omega)) rfl ?_
  refine WL.storeN rfl rfl rfl rfl many_103 rfl (by first | exact Nat.le_of_ble_eq_true rfl | simp) (.none rfl) rfl ?_
  refine WL.as (L' := .row g (p.cutN 1).cells :: (E0 ++ (E1 ++ d.L p.gC s.now L))) rfl <| zR <| zM rfl <| zC rfl <| zF rfl fld_106_1 <| zL rfl one_98 rfl <| zM rfl <| ?_
  refine zV (v_add rfl rfl rfl (show _ = (2 : Int) from w_i64 (by decide) (by decide))) rfl ?_
  refine zK ck_52 rfl ?_
  intro w1 hS
  refine (Stop_d (gC := p.gC) (now := s.now) (R := .row g (p.cutN 1).cells :: (E0 ++ (E1 ++ L))) (hS.permK ) hA.bag 2 (by omega)).mono ?_
  rintro e w' ⟨b1, d1, rfl, hb1, hS'⟩
  refine ⟨_, .row g (p.cutN 1).cells :: (E0 ++ (E1 ++ d1.L p.gC s.now L)), rfl, hS'.permK , ?_⟩
  refine zR <| zM rfl <| zC rfl <| zF rfl fld_106_1 <| zL rfl one_98 rfl <| zM rfl <| ?_
  refine zV (v_add rfl rfl rfl (show _ = (4 : Int) from w_i64 (by decide) (by decide))) rfl ?_
  refine zK ck_52 rfl ?_
  intro w1 hS
  refine (Stop_d (gC := p.gC) (now := s.now) (R := .row g (p.cutN 1).cells :: (E0 ++ (E1 ++ L))) (hS.permK ) hb1 4 (by rw [List.length_set]; omega)).mono ?_
  rintro e w' ⟨b2, d2, rfl, hb2, hS'⟩
  refine ⟨_, .row g (p.cutN 1).cells :: (E0 ++ ([] ++ d2.L p.gC s.now L)), rfl, St.dropK E1 hS' , ?_⟩
  have hA2 : PeAt g (p.cutN 1) (s.cut 1) E0 [] d2 := (by
    refine ⟨?_, cut_ok hA.ok 1 (by decide), ?_, ?_, ?_, ?_, ?_, ?_, hb2⟩
    · have := congrArg (fun z : Se => z.cut 1) hA.eq
      exact this
    all_goals first | exact zero_okC | exact hA.ok0 | exact hA.ok1 | exact Vec.nil 1 | exact hA.v0 | exact hA.v1 | exact Bys.nil | exact hA.b0 | exact hA.b1)
  refine zN ?_
  refine WC.cut (fun _ : PeL × Ck => [(5, .int .i64 p.c1.st)]) (fun y => .row g y.1.cells :: (E0 ++ ([] ++ y.2.L y.1.gC s.now L))) (fun y => PeAt g y.1 (s.gone 1) E0 [] y.2) ?_ ?_
  refine cR <| zM rfl <| zC rfl <| zF rfl fld_106_2 <| zL rfl one_3 rfl <| ?_
  refine zT (v_neq rfl rfl rfl) rfl (fun h37 => ?_) (fun h37 => ?_)
  refine zM rfl <| zS (v_move rfl rfl) rfl <| zS (v_move rfl rfl) rfl <| ?_
  refine zS (v_sub rfl rfl rfl (show _ = (0 : Int) from w_i64 (by decide) (by decide))) rfl ?_
  refine WL.call rfl rfl ck_51 (.some rfl rfl rfl) rfl rfl ?_
  intro w hS
  refine Calls.then (there_c w g (p.cutN 1) (hS.row (g := g)) 0 (by decide)) hS ?_
  generalize hth : decide (((p.cutN 1).c 0).st ≠ 0) = b42
  cases b42
  refine zS (v_not rfl rfl rfl) rfl <| zP rfl <| zN <| cT rfl <| cS <| cR <| zM rfl <| zC rfl <| zF rfl fld_106_2 <| zL rfl one_3 rfl <| ?_
  refine zT (v_neq rfl rfl rfl) rfl (fun h49 => ?_) (fun h49 => ?_)
  refine zN <| cT rfl <| WC.region <| zM rfl <| zC rfl <| zF rfl fld_106_2 <| zO one_3 rfl rfl <| WL.as (L' := .row g ({ p.cutN 1 with base := 2 } : PeL).cells :: (E0 ++ ([] ++ d2.L p.gC s.now L))) rfl <| zN <| WC.region <| zM rfl <| zM rfl <| zC rfl <| zF rfl fld_106_0 <| ?_
  refine zF rfl fld_44_4 <| zL rfl one_3 rfl <| zK ck_53 rfl <| ?_
  intro w1 hS
  have hcb := cut_base s 1
  have hz : (s.c 0).st = 0 := hstm.symm.trans (Decidable.of_not_not (of_decide_eq_false hth))
  have hb1 : s.base ≠ 1 := (by rw [← hb0]; exact h49)
  have hbz : s.base ≠ 0 := (by rw [← hb0]; exact h37)
  have h := due_c w0 w1 g { p.cutN 1 with base := 2 } { s.cut 1 with base := 2 } E0 [] L d2 (hA2.base 2 (by omega)) (by show St _ _ _ (_ :: (_ ++ (_ ++ d2.L p.gC (s.cut 1).now L))); rw [hcb.2.1]; exact hS) 0 (by omega) p.retry (by omega)
  refine h.mono ?_
  rintro e w' ⟨d3, rfl, hA3, hS'⟩
  rw [hr0, show ({ s.cut 1 with base := 2 } : Se).due 0 s.retry = s.gone 1 by rw [gone_yes hbz hz, if_neg hb1]] at hA3
  refine ⟨_, .row g ({ p.cutN 1 with base := 2 } : PeL).cells :: (E0 ++ ([] ++ d3.L p.gC s.now L)), rfl, (by rw [← hcb.2.1]; exact hS'), ?_⟩
  refine WL.nil ?_
  exact WE.mid ({ p.cutN 1 with base := 2 }, d3) hA3 (.cons rfl .nil) (.refl _)
  refine zN <| cF rfl <| cK <| eN <| WC.region <| zM rfl <| zM rfl <| zC rfl <| zF rfl fld_106_0 <| zF rfl fld_44_4 <| zL rfl one_3 rfl <| zK ck_53 rfl <| ?_
  intro w1 hS
  have hcb := cut_base s 1
  have hz : (s.c 0).st = 0 := hstm.symm.trans (Decidable.of_not_not (of_decide_eq_false hth))
  have hb1 : s.base = 1 := (by rw [← hb0]; exact Decidable.of_not_not h49)
  have h := due_c w0 w1 g (p.cutN 1) (s.cut 1) E0 [] L d2 hA2 (by rw [hcb.2.1]; exact hS) 0 (by omega) p.retry (by omega)
  refine h.mono ?_
  rintro e w' ⟨d3, rfl, hA3, hS'⟩
  rw [hr0, show (s.cut 1).due 0 s.retry = s.gone 1 by rw [gone_yes (by omega) hz, if_pos hb1, Se.base_eta (hcb.1.trans hb1)]] at hA3
  refine ⟨_, .row g (p.cutN 1).cells :: (E0 ++ ([] ++ d3.L p.gC s.now L)), rfl, (by rw [← hcb.2.1]; exact hS'), ?_⟩
  refine WL.nil ?_
  exact WE.mid (p.cutN 1, d3) hA3 (.cons rfl .nil) (.refl _)
  refine zS (v_not rfl rfl rfl) rfl <| zP rfl <| zN <| cF rfl <| cK <| ?_
  exact WE.mid (p.cutN 1, d2) (by dsimp only; rw [gone_no (fun hh => of_decide_eq_true hth (hstm.trans hh.2))]; exact hA2) (.cons rfl .nil) (.refl _)
  refine zM rfl ?_
  iterate 4 refine WL.sk rfl ?_
  generalize hth : decide (((p.cutN 1).c 0).st ≠ 0) = b42
  cases b42
  refine WL.sk rfl <| zQ rfl <| zN <| cF rfl <| cK <| ?_
  exact WE.mid (p.cutN 1, d2) (by dsimp only; rw [gone_no (fun hh => h37 (by rw [← hb0] at hh; exact hh.1))]; exact hA2) (.cons rfl .nil) (.refl _)
  refine WL.sk rfl <| zQ rfl <| zN <| cF rfl <| cK <| ?_
  exact WE.mid (p.cutN 1, d2) (by dsimp only; rw [gone_no (fun hh => h37 (by rw [← hb0] at hh; exact hh.1))]; exact hA2) (.cons rfl .nil) (.refl _)
  rintro ⟨p3, d3⟩ hA3
  dsimp only at hA3
  dsimp only
  refine cS <| cR <| zM rfl <| ?_
  refine zT (v_neq rfl rfl rfl) rfl (fun h61 => ?_) (fun h61 => ?_)
  refine zN <| cT rfl <| cR <| zA rfl <| zN <| cE <| eR <| tR Tryz.results59 rfl <| ?_
  exact fun w' h => ⟨none, 0, [], [], [], p3, E0, [], d3, rfl, ⟨Vec.nil 23, fun e he => by cases he⟩, by unfold goneE; rw [if_neg (by omega)]; rfl, hA3, by rw [gone_now]; exact h⟩
  refine zN <| cF rfl <| cK <| eN <| cR <| zV (v_build rfl rfl zero_54 plc_54 rfl) rfl <| zB Tryz.underlying46 sz_54 zero_54 rfl rfl <| ?_
  intro g63 hg63
  refine zA rfl <| zN <| cE <| tR Tryz.results59 rfl <| ?_
  exact fun w' h => ⟨_, 1, [efZ 5 0], _, [], p3, E0, [], d3, rfl, efZ_one 5 0, by unfold goneE; rw [if_pos (by omega)]; rfl, hA3, by rw [gone_now]; exact h⟩

theorem numB4 (a : Int) : numB a 4 = [a / 16777216 % 256, a / 65536 % 256, a / 256 % 256, a % 256] := by
  show [a / 2 ^ 24 % 256, a / 2 ^ 16 % 256, a / 2 ^ 8 % 256, a / 2 ^ 0 % 256] = _
  rw [show (2 : Int) ^ 24 = 16777216 by decide, show (2 : Int) ^ 16 = 65536 by decide, show (2 : Int) ^ 8 = 256 by decide, show (2 : Int) ^ 0 = 1 by decide, Int.ediv_one]
set_option maxHeartbeats 4000000 in
theorem netJ (k : Nat) (h1 : 1 ≤ k) (h2 : k ≤ 32) (a J : Int) (ha : 0 ≤ a ∧ a ≤ 4294967295) (hc : a = cutI a k) (hJ : 0 ≤ J ∧ J < 2 ^ (8 - ((k - 1) % 8 + 1))) :
    fOf (addrB a ((k + 7) / 8)) ((k + 7) / 8 - 1) % 2 ^ (8 - ((k - 1) % 8 + 1)) = 0 ∧ cutI (addrI ((addrB a ((k + 7) / 8)).set ((k + 7) / 8 - 1) (fOf (addrB a ((k + 7) / 8)) ((k + 7) / 8 - 1) + J))) k = a := by
  unfold addrB
  rw [numB4]
  obtain rfl | rfl | rfl | rfl | rfl | rfl | rfl | rfl | rfl | rfl | rfl | rfl | rfl | rfl | rfl | rfl | rfl | rfl | rfl | rfl | rfl | rfl | rfl | rfl | rfl | rfl | rfl | rfl | rfl | rfl | rfl | rfl : k = 1 ∨ k = 2 ∨ k = 3 ∨ k = 4 ∨ k = 5 ∨ k = 6 ∨ k = 7 ∨ k = 8 ∨ k = 9 ∨ k = 10 ∨ k = 11 ∨ k = 12 ∨ k = 13 ∨ k = 14 ∨ k = 15 ∨ k = 16 ∨ k = 17 ∨ k = 18 ∨ k = 19 ∨ k = 20 ∨ k = 21 ∨ k = 22 ∨ k = 23 ∨ k = 24 ∨ k = 25 ∨ k = 26 ∨ k = 27 ∨ k = 28 ∨ k = 29 ∨ k = 30 ∨ k = 31 ∨ k = 32 := by omega
  · have e1 : ∀ x : Int, cutI x ((1 : Nat) : Int) = x - x % 2147483648 := fun _ => rfl
    have hJ2 : 0 ≤ J ∧ J < 128 := hJ
    rw [e1] at hc
    rw [e1]
    show (a / 16777216 % 256) % 128 = 0 ∧ ((a / 16777216 % 256 + J) * 16777216 + 0 * 65536 + 0 * 256 + 0) - ((a / 16777216 % 256 + J) * 16777216 + 0 * 65536 + 0 * 256 + 0) % 2147483648 = a
    omega
  · have e1 : ∀ x : Int, cutI x ((2 : Nat) : Int) = x - x % 1073741824 := fun _ => rfl
    have hJ2 : 0 ≤ J ∧ J < 64 := hJ
    rw [e1] at hc
    rw [e1]
    show (a / 16777216 % 256) % 64 = 0 ∧ ((a / 16777216 % 256 + J) * 16777216 + 0 * 65536 + 0 * 256 + 0) - ((a / 16777216 % 256 + J) * 16777216 + 0 * 65536 + 0 * 256 + 0) % 1073741824 = a
    omega
  · have e1 : ∀ x : Int, cutI x ((3 : Nat) : Int) = x - x % 536870912 := fun _ => rfl
    have hJ2 : 0 ≤ J ∧ J < 32 := hJ
    rw [e1] at hc
    rw [e1]
    show (a / 16777216 % 256) % 32 = 0 ∧ ((a / 16777216 % 256 + J) * 16777216 + 0 * 65536 + 0 * 256 + 0) - ((a / 16777216 % 256 + J) * 16777216 + 0 * 65536 + 0 * 256 + 0) % 536870912 = a
    omega
  · have e1 : ∀ x : Int, cutI x ((4 : Nat) : Int) = x - x % 268435456 := fun _ => rfl
    have hJ2 : 0 ≤ J ∧ J < 16 := hJ
    rw [e1] at hc
    rw [e1]
    show (a / 16777216 % 256) % 16 = 0 ∧ ((a / 16777216 % 256 + J) * 16777216 + 0 * 65536 + 0 * 256 + 0) - ((a / 16777216 % 256 + J) * 16777216 + 0 * 65536 + 0 * 256 + 0) % 268435456 = a
    omega
  · have e1 : ∀ x : Int, cutI x ((5 : Nat) : Int) = x - x % 134217728 := fun _ => rfl
    have hJ2 : 0 ≤ J ∧ J < 8 := hJ
    rw [e1] at hc
    rw [e1]
    show (a / 16777216 % 256) % 8 = 0 ∧ ((a / 16777216 % 256 + J) * 16777216 + 0 * 65536 + 0 * 256 + 0) - ((a / 16777216 % 256 + J) * 16777216 + 0 * 65536 + 0 * 256 + 0) % 134217728 = a
    omega
  · have e1 : ∀ x : Int, cutI x ((6 : Nat) : Int) = x - x % 67108864 := fun _ => rfl
    have hJ2 : 0 ≤ J ∧ J < 4 := hJ
    rw [e1] at hc
    rw [e1]
    show (a / 16777216 % 256) % 4 = 0 ∧ ((a / 16777216 % 256 + J) * 16777216 + 0 * 65536 + 0 * 256 + 0) - ((a / 16777216 % 256 + J) * 16777216 + 0 * 65536 + 0 * 256 + 0) % 67108864 = a
    omega
  · have e1 : ∀ x : Int, cutI x ((7 : Nat) : Int) = x - x % 33554432 := fun _ => rfl
    have hJ2 : 0 ≤ J ∧ J < 2 := hJ
    rw [e1] at hc
    rw [e1]
    show (a / 16777216 % 256) % 2 = 0 ∧ ((a / 16777216 % 256 + J) * 16777216 + 0 * 65536 + 0 * 256 + 0) - ((a / 16777216 % 256 + J) * 16777216 + 0 * 65536 + 0 * 256 + 0) % 33554432 = a
    omega
  · have e1 : ∀ x : Int, cutI x ((8 : Nat) : Int) = x - x % 16777216 := fun _ => rfl
    have hJ2 : 0 ≤ J ∧ J < 1 := hJ
    rw [e1] at hc
    rw [e1]
    show (a / 16777216 % 256) % 1 = 0 ∧ ((a / 16777216 % 256 + J) * 16777216 + 0 * 65536 + 0 * 256 + 0) - ((a / 16777216 % 256 + J) * 16777216 + 0 * 65536 + 0 * 256 + 0) % 16777216 = a
    omega
  · have e1 : ∀ x : Int, cutI x ((9 : Nat) : Int) = x - x % 8388608 := fun _ => rfl
    have hJ2 : 0 ≤ J ∧ J < 128 := hJ
    rw [e1] at hc
    rw [e1]
    show (a / 65536 % 256) % 128 = 0 ∧ ((a / 16777216 % 256) * 16777216 + (a / 65536 % 256 + J) * 65536 + 0 * 256 + 0) - ((a / 16777216 % 256) * 16777216 + (a / 65536 % 256 + J) * 65536 + 0 * 256 + 0) % 8388608 = a
    omega
  · have e1 : ∀ x : Int, cutI x ((10 : Nat) : Int) = x - x % 4194304 := fun _ => rfl
    have hJ2 : 0 ≤ J ∧ J < 64 := hJ
    rw [e1] at hc
    rw [e1]
    show (a / 65536 % 256) % 64 = 0 ∧ ((a / 16777216 % 256) * 16777216 + (a / 65536 % 256 + J) * 65536 + 0 * 256 + 0) - ((a / 16777216 % 256) * 16777216 + (a / 65536 % 256 + J) * 65536 + 0 * 256 + 0) % 4194304 = a
    omega
  · have e1 : ∀ x : Int, cutI x ((11 : Nat) : Int) = x - x % 2097152 := fun _ => rfl
    have hJ2 : 0 ≤ J ∧ J < 32 := hJ
    rw [e1] at hc
    rw [e1]
    show (a / 65536 % 256) % 32 = 0 ∧ ((a / 16777216 % 256) * 16777216 + (a / 65536 % 256 + J) * 65536 + 0 * 256 + 0) - ((a / 16777216 % 256) * 16777216 + (a / 65536 % 256 + J) * 65536 + 0 * 256 + 0) % 2097152 = a
    omega
  · have e1 : ∀ x : Int, cutI x ((12 : Nat) : Int) = x - x % 1048576 := fun _ => rfl
    have hJ2 : 0 ≤ J ∧ J < 16 := hJ
    rw [e1] at hc
    rw [e1]
    show (a / 65536 % 256) % 16 = 0 ∧ ((a / 16777216 % 256) * 16777216 + (a / 65536 % 256 + J) * 65536 + 0 * 256 + 0) - ((a / 16777216 % 256) * 16777216 + (a / 65536 % 256 + J) * 65536 + 0 * 256 + 0) % 1048576 = a
    omega
  · have e1 : ∀ x : Int, cutI x ((13 : Nat) : Int) = x - x % 524288 := fun _ => rfl
    have hJ2 : 0 ≤ J ∧ J < 8 := hJ
    rw [e1] at hc
    rw [e1]
    show (a / 65536 % 256) % 8 = 0 ∧ ((a / 16777216 % 256) * 16777216 + (a / 65536 % 256 + J) * 65536 + 0 * 256 + 0) - ((a / 16777216 % 256) * 16777216 + (a / 65536 % 256 + J) * 65536 + 0 * 256 + 0) % 524288 = a
    omega
  · have e1 : ∀ x : Int, cutI x ((14 : Nat) : Int) = x - x % 262144 := fun _ => rfl
    have hJ2 : 0 ≤ J ∧ J < 4 := hJ
    rw [e1] at hc
    rw [e1]
    show (a / 65536 % 256) % 4 = 0 ∧ ((a / 16777216 % 256) * 16777216 + (a / 65536 % 256 + J) * 65536 + 0 * 256 + 0) - ((a / 16777216 % 256) * 16777216 + (a / 65536 % 256 + J) * 65536 + 0 * 256 + 0) % 262144 = a
    omega
  · have e1 : ∀ x : Int, cutI x ((15 : Nat) : Int) = x - x % 131072 := fun _ => rfl
    have hJ2 : 0 ≤ J ∧ J < 2 := hJ
    rw [e1] at hc
    rw [e1]
    show (a / 65536 % 256) % 2 = 0 ∧ ((a / 16777216 % 256) * 16777216 + (a / 65536 % 256 + J) * 65536 + 0 * 256 + 0) - ((a / 16777216 % 256) * 16777216 + (a / 65536 % 256 + J) * 65536 + 0 * 256 + 0) % 131072 = a
    omega
  · have e1 : ∀ x : Int, cutI x ((16 : Nat) : Int) = x - x % 65536 := fun _ => rfl
    have hJ2 : 0 ≤ J ∧ J < 1 := hJ
    rw [e1] at hc
    rw [e1]
    show (a / 65536 % 256) % 1 = 0 ∧ ((a / 16777216 % 256) * 16777216 + (a / 65536 % 256 + J) * 65536 + 0 * 256 + 0) - ((a / 16777216 % 256) * 16777216 + (a / 65536 % 256 + J) * 65536 + 0 * 256 + 0) % 65536 = a
    omega
  · have e1 : ∀ x : Int, cutI x ((17 : Nat) : Int) = x - x % 32768 := fun _ => rfl
    have hJ2 : 0 ≤ J ∧ J < 128 := hJ
    rw [e1] at hc
    rw [e1]
    show (a / 256 % 256) % 128 = 0 ∧ ((a / 16777216 % 256) * 16777216 + (a / 65536 % 256) * 65536 + (a / 256 % 256 + J) * 256 + 0) - ((a / 16777216 % 256) * 16777216 + (a / 65536 % 256) * 65536 + (a / 256 % 256 + J) * 256 + 0) % 32768 = a
    omega
  · have e1 : ∀ x : Int, cutI x ((18 : Nat) : Int) = x - x % 16384 := fun _ => rfl
    have hJ2 : 0 ≤ J ∧ J < 64 := hJ
    rw [e1] at hc
    rw [e1]
    show (a / 256 % 256) % 64 = 0 ∧ ((a / 16777216 % 256) * 16777216 + (a / 65536 % 256) * 65536 + (a / 256 % 256 + J) * 256 + 0) - ((a / 16777216 % 256) * 16777216 + (a / 65536 % 256) * 65536 + (a / 256 % 256 + J) * 256 + 0) % 16384 = a
    omega
  · have e1 : ∀ x : Int, cutI x ((19 : Nat) : Int) = x - x % 8192 := fun _ => rfl
    have hJ2 : 0 ≤ J ∧ J < 32 := hJ
    rw [e1] at hc
    rw [e1]
    show (a / 256 % 256) % 32 = 0 ∧ ((a / 16777216 % 256) * 16777216 + (a / 65536 % 256) * 65536 + (a / 256 % 256 + J) * 256 + 0) - ((a / 16777216 % 256) * 16777216 + (a / 65536 % 256) * 65536 + (a / 256 % 256 + J) * 256 + 0) % 8192 = a
    omega
  · have e1 : ∀ x : Int, cutI x ((20 : Nat) : Int) = x - x % 4096 := fun _ => rfl
    have hJ2 : 0 ≤ J ∧ J < 16 := hJ
    rw [e1] at hc
    rw [e1]
    show (a / 256 % 256) % 16 = 0 ∧ ((a / 16777216 % 256) * 16777216 + (a / 65536 % 256) * 65536 + (a / 256 % 256 + J) * 256 + 0) - ((a / 16777216 % 256) * 16777216 + (a / 65536 % 256) * 65536 + (a / 256 % 256 + J) * 256 + 0) % 4096 = a
    omega
  · have e1 : ∀ x : Int, cutI x ((21 : Nat) : Int) = x - x % 2048 := fun _ => rfl
    have hJ2 : 0 ≤ J ∧ J < 8 := hJ
    rw [e1] at hc
    rw [e1]
    show (a / 256 % 256) % 8 = 0 ∧ ((a / 16777216 % 256) * 16777216 + (a / 65536 % 256) * 65536 + (a / 256 % 256 + J) * 256 + 0) - ((a / 16777216 % 256) * 16777216 + (a / 65536 % 256) * 65536 + (a / 256 % 256 + J) * 256 + 0) % 2048 = a
    omega
  · have e1 : ∀ x : Int, cutI x ((22 : Nat) : Int) = x - x % 1024 := fun _ => rfl
    have hJ2 : 0 ≤ J ∧ J < 4 := hJ
    rw [e1] at hc
    rw [e1]
    show (a / 256 % 256) % 4 = 0 ∧ ((a / 16777216 % 256) * 16777216 + (a / 65536 % 256) * 65536 + (a / 256 % 256 + J) * 256 + 0) - ((a / 16777216 % 256) * 16777216 + (a / 65536 % 256) * 65536 + (a / 256 % 256 + J) * 256 + 0) % 1024 = a
    omega
  · have e1 : ∀ x : Int, cutI x ((23 : Nat) : Int) = x - x % 512 := fun _ => rfl
    have hJ2 : 0 ≤ J ∧ J < 2 := hJ
    rw [e1] at hc
    rw [e1]
    show (a / 256 % 256) % 2 = 0 ∧ ((a / 16777216 % 256) * 16777216 + (a / 65536 % 256) * 65536 + (a / 256 % 256 + J) * 256 + 0) - ((a / 16777216 % 256) * 16777216 + (a / 65536 % 256) * 65536 + (a / 256 % 256 + J) * 256 + 0) % 512 = a
    omega
  · have e1 : ∀ x : Int, cutI x ((24 : Nat) : Int) = x - x % 256 := fun _ => rfl
    have hJ2 : 0 ≤ J ∧ J < 1 := hJ
    rw [e1] at hc
    rw [e1]
    show (a / 256 % 256) % 1 = 0 ∧ ((a / 16777216 % 256) * 16777216 + (a / 65536 % 256) * 65536 + (a / 256 % 256 + J) * 256 + 0) - ((a / 16777216 % 256) * 16777216 + (a / 65536 % 256) * 65536 + (a / 256 % 256 + J) * 256 + 0) % 256 = a
    omega
  · have e1 : ∀ x : Int, cutI x ((25 : Nat) : Int) = x - x % 128 := fun _ => rfl
    have hJ2 : 0 ≤ J ∧ J < 128 := hJ
    rw [e1] at hc
    rw [e1]
    show (a % 256) % 128 = 0 ∧ ((a / 16777216 % 256) * 16777216 + (a / 65536 % 256) * 65536 + (a / 256 % 256) * 256 + (a % 256 + J)) - ((a / 16777216 % 256) * 16777216 + (a / 65536 % 256) * 65536 + (a / 256 % 256) * 256 + (a % 256 + J)) % 128 = a
    omega
  · have e1 : ∀ x : Int, cutI x ((26 : Nat) : Int) = x - x % 64 := fun _ => rfl
    have hJ2 : 0 ≤ J ∧ J < 64 := hJ
    rw [e1] at hc
    rw [e1]
    show (a % 256) % 64 = 0 ∧ ((a / 16777216 % 256) * 16777216 + (a / 65536 % 256) * 65536 + (a / 256 % 256) * 256 + (a % 256 + J)) - ((a / 16777216 % 256) * 16777216 + (a / 65536 % 256) * 65536 + (a / 256 % 256) * 256 + (a % 256 + J)) % 64 = a
    omega
  · have e1 : ∀ x : Int, cutI x ((27 : Nat) : Int) = x - x % 32 := fun _ => rfl
    have hJ2 : 0 ≤ J ∧ J < 32 := hJ
    rw [e1] at hc
    rw [e1]
    show (a % 256) % 32 = 0 ∧ ((a / 16777216 % 256) * 16777216 + (a / 65536 % 256) * 65536 + (a / 256 % 256) * 256 + (a % 256 + J)) - ((a / 16777216 % 256) * 16777216 + (a / 65536 % 256) * 65536 + (a / 256 % 256) * 256 + (a % 256 + J)) % 32 = a
    omega
  · have e1 : ∀ x : Int, cutI x ((28 : Nat) : Int) = x - x % 16 := fun _ => rfl
    have hJ2 : 0 ≤ J ∧ J < 16 := hJ
    rw [e1] at hc
    rw [e1]
    show (a % 256) % 16 = 0 ∧ ((a / 16777216 % 256) * 16777216 + (a / 65536 % 256) * 65536 + (a / 256 % 256) * 256 + (a % 256 + J)) - ((a / 16777216 % 256) * 16777216 + (a / 65536 % 256) * 65536 + (a / 256 % 256) * 256 + (a % 256 + J)) % 16 = a
    omega
  · have e1 : ∀ x : Int, cutI x ((29 : Nat) : Int) = x - x % 8 := fun _ => rfl
    have hJ2 : 0 ≤ J ∧ J < 8 := hJ
    rw [e1] at hc
    rw [e1]
    show (a % 256) % 8 = 0 ∧ ((a / 16777216 % 256) * 16777216 + (a / 65536 % 256) * 65536 + (a / 256 % 256) * 256 + (a % 256 + J)) - ((a / 16777216 % 256) * 16777216 + (a / 65536 % 256) * 65536 + (a / 256 % 256) * 256 + (a % 256 + J)) % 8 = a
    omega
  · have e1 : ∀ x : Int, cutI x ((30 : Nat) : Int) = x - x % 4 := fun _ => rfl
    have hJ2 : 0 ≤ J ∧ J < 4 := hJ
    rw [e1] at hc
    rw [e1]
    show (a % 256) % 4 = 0 ∧ ((a / 16777216 % 256) * 16777216 + (a / 65536 % 256) * 65536 + (a / 256 % 256) * 256 + (a % 256 + J)) - ((a / 16777216 % 256) * 16777216 + (a / 65536 % 256) * 65536 + (a / 256 % 256) * 256 + (a % 256 + J)) % 4 = a
    omega
  · have e1 : ∀ x : Int, cutI x ((31 : Nat) : Int) = x - x % 2 := fun _ => rfl
    have hJ2 : 0 ≤ J ∧ J < 2 := hJ
    rw [e1] at hc
    rw [e1]
    show (a % 256) % 2 = 0 ∧ ((a / 16777216 % 256) * 16777216 + (a / 65536 % 256) * 65536 + (a / 256 % 256) * 256 + (a % 256 + J)) - ((a / 16777216 % 256) * 16777216 + (a / 65536 % 256) * 65536 + (a / 256 % 256) * 256 + (a % 256 + J)) % 2 = a
    omega
  · have e1 : ∀ x : Int, cutI x ((32 : Nat) : Int) = x - x % 1 := fun _ => rfl
    have hJ2 : 0 ≤ J ∧ J < 1 := hJ
    rw [e1] at hc
    rw [e1]
    show (a % 256) % 1 = 0 ∧ ((a / 16777216 % 256) * 16777216 + (a / 65536 % 256) * 65536 + (a / 256 % 256) * 256 + (a % 256 + J)) - ((a / 16777216 % 256) * 16777216 + (a / 65536 % 256) * 65536 + (a / 256 % 256) * 256 + (a % 256 + J)) % 1 = a
    omega
def msgOf (k : Int) (body : List Int) : List Int := List.replicate 16 255 ++ numB (19 + body.length : Nat) 2 ++ [k] ++ body
theorem msgB_of (m : MsL) : msgB m = msgOf m.kind (bodB m) := rfl
theorem msgOf_len (k : Int) (body : List Int) : (msgOf k body).length = 19 + body.length := by unfold msgOf; simp only [List.length_append, List.length_replicate, numB_len, List.length_cons, List.length_nil]
theorem msgOf_head {k : Int} {body : List Int} {i : Nat} (hi : i < 19) : (msgOf k body)[i]? = if i < 16 then some 255 else if i = 16 then some (((19 + body.length : Nat) : Int) / 256 % 256) else if i = 17 then some (((19 + body.length : Nat) : Int) % 256) else some k := by
  unfold msgOf
  rw [show numB (((19 + body.length : Nat) : Int)) 2 = [((19 + body.length : Nat) : Int) / 256 % 256, ((19 + body.length : Nat) : Int) % 256] by
    show [_ / 2 ^ 8 % 256, _ / 2 ^ 0 % 256] = _
    rw [show (2 : Int) ^ 8 = 256 by decide, show (2 : Int) ^ 0 = 1 by decide, Int.ediv_one]]
  by_cases h : i < 16
  · rw [if_pos h, List.getElem?_append_left (by simp; omega), List.getElem?_append_left (by simp; omega), List.getElem?_append_left (by simp; omega), List.getElem?_replicate, if_pos h]
  · rw [if_neg h]
    have : i = 16 ∨ i = 17 ∨ i = 18 := by omega
    rcases this with rfl | rfl | rfl <;> rfl
theorem msgOf_drop (k : Int) (body : List Int) : (msgOf k body).drop 19 = body := by
  unfold msgOf
  exact List.drop_left' (by simp [numB_len])
theorem decM_of (k : Int) (body : List Int) (hk : 1 ≤ k ∧ k ≤ 4) (hl : 19 + body.length ≤ 4096) (hle : leastI k ≤ 19 + body.length) (h4 : k = 4 → body = []) : decM (msgOf k body) = bodyM k body := by
  have hh := head_of (zs := msgOf k body) (L := 19 + body.length) (k := k) (fun i hi => msgOf_head hi) (by omega)
  have hs : sizeR (msgOf k body).length (fOf (msgOf k body)) = (((msgOf k body).length : Int), 0, 0, ⟨#[]⟩) := by
    rw [msgOf_len, sizeR_on (by omega) hh.1, hh.2.1, hh.2.2, if_neg (by omega), if_neg (fun h => leastI_zero.1 h hk), if_neg (by
      rintro (h | ⟨h, h'⟩)
      · omega
      · rw [h4 h] at h'; exact h' rfl)]
  unfold decM
  rw [hs, msgOf_drop, hh.2.2]
  dsimp only
  rw [if_neg (by simp), if_neg (by simp)]


theorem zero_i : I64 0 := ⟨(by show (-9223372036854775808 : Int) ≤ 0; decide), (by show (0 : Int) ≤ 9223372036854775807; decide)⟩
theorem zero_u : U32 0 := ⟨(by show (0 : Int) ≤ 0; decide), (by show (0 : Int) ≤ 4294967295; decide)⟩
theorem AtL.zero_in : AtL.zero.In := ⟨zero_i, zero_i, zero_u, zero_i, zero_i, zero_i, zero_u, (fun c hc => by cases hc), (fun c hc => by cases hc), (fun c hc => by cases hc), ⟨Nat.zero_le _, Nat.zero_le _, Nat.zero_le _⟩⟩

theorem numB1 (a : Int) : numB a 1 = [a % 256] := by
  show [a / 2 ^ 0 % 256] = _
  rw [show (2 : Int) ^ 0 = 1 by decide, Int.ediv_one]
theorem numB2 (a : Int) : numB a 2 = [a / 256 % 256, a % 256] := by
  show [a / 2 ^ 8 % 256, a / 2 ^ 0 % 256] = _
  rw [show (2 : Int) ^ 8 = 256 by decide, show (2 : Int) ^ 0 = 1 by decide, Int.ediv_one]
theorem read1 {a : Int} (h : 0 ≤ a ∧ a ≤ 255) : readI (numB a 1) = a := by rw [numB1]; show 0 * 256 + a % 256 = a; omega
theorem read2 {a : Int} (h : 0 ≤ a ∧ a ≤ 65535) : readI (numB a 2) = a := by rw [numB2]; show (0 * 256 + a / 256 % 256) * 256 + a % 256 = a; omega
theorem read4 {a : Int} (h : 0 ≤ a ∧ a ≤ 4294967295) : readI (numB a 4) = a := by
  rw [numB4]; show (((0 * 256 + a / 16777216 % 256) * 256 + a / 65536 % 256) * 256 + a / 256 % 256) * 256 + a % 256 = a; omega
theorem fours_flat : ∀ (cs : List Int), (∀ c ∈ cs, 0 ≤ c ∧ c ≤ 4294967295) → fours (cs.flatMap fun x => numB x 4) = cs
  | [], _ => rfl
  | c :: cs, h => by
    have e := fours_flat cs fun x hx => h x (List.mem_cons_of_mem _ hx)
    have r := read4 (h c (List.mem_cons_self ..))
    rw [List.flatMap_cons, numB4]
    rw [numB4] at r
    show readI _ :: fours (cs.flatMap fun x => numB x 4) = _
    rw [r, e]
theorem flat2_get : ∀ (xs rest : List Int) (i : Nat) (x : Int), xs[i]? = some x → ((xs.flatMap (fun x => numB x 2) ++ rest).drop (2 * i)).take 2 = numB x 2
  | [], _, i, x, h => by simp at h
  | y :: xs, rest, 0, x, h => by
    simp only [List.getElem?_cons_zero, Option.some.injEq] at h
    subst h
    rw [List.flatMap_cons, Nat.mul_zero, List.drop_zero, List.append_assoc, List.take_left' (numB_len _ _)]
  | y :: xs, rest, i + 1, x, h => by
    rw [List.getElem?_cons_succ] at h
    rw [List.flatMap_cons, show 2 * (i + 1) = 2 + 2 * i by omega, ← List.drop_drop, List.append_assoc, List.drop_left' (numB_len _ _)]
    exact flat2_get xs rest i x h
theorem sys_flat (xs rest : List Int) (h : ∀ x ∈ xs, 0 ≤ x ∧ x ≤ 65535) : ((List.range xs.length).map fun i => readI (((xs.flatMap (fun x => numB x 2) ++ rest).drop (2 * i)).take 2)) = xs := by
  apply List.ext_getElem?
  intro i
  by_cases hi : i < xs.length
  · rw [List.getElem?_map, List.getElem?_range hi, List.getElem?_eq_getElem hi]
    simp only [Option.map_some]
    rw [flat2_get xs rest i _ (List.getElem?_eq_getElem hi), read2 (h _ (List.getElem_mem _))]
  · rw [List.getElem?_eq_none (by simp; omega), List.getElem?_eq_none (by omega)]
theorem segB_iff {s : SegL} (h : segB s = true) : 1 ≤ s.asl.length ∧ s.asl.length ≤ 255 ∧ ∀ x ∈ s.asl, 1 ≤ x ∧ x ≤ 65535 := by
  unfold segB at h
  rw [Bool.and_eq_true] at h
  have h1 := of_decide_eq_true h.1
  exact ⟨h1.1, h1.2, fun x hx => of_decide_eq_true (List.all_eq_true.1 h.2 x hx)⟩
theorem pathR_flat : ∀ (ss : List SegL), ss.all segB = true → pathR (ss.flatMap segE) = some (ss.map segD)
  | [], _ => by rw [List.flatMap_nil, pathR]; rfl
  | s :: ss, h => by
    rw [List.all_cons, Bool.and_eq_true] at h
    obtain ⟨h1, h2, h3⟩ := segB_iff h.1
    have ih := pathR_flat ss h.2
    have hk : (if s.set then (1 : Int) else 2) % 256 = if s.set then 1 else 2 := by cases s.set <;> decide
    have hn : ((s.asl.length : Int) % 256).toNat = s.asl.length := by omega
    have e : (s :: ss).flatMap segE = (if s.set then (1 : Int) else 2) :: ((s.asl.length : Int) % 256) :: (s.asl.flatMap (fun x => numB x 2) ++ ss.flatMap segE) := by
      rw [List.flatMap_cons]
      unfold segE
      rw [numB1, numB1, hk]
      simp
    have hl : (s.asl.flatMap fun x => numB x 2).length = 2 * s.asl.length := flat_len2 _ _
    rw [e, pathR_cons, hn, if_neg (by
      rintro (h | h)
      · cases s.set <;> simp at h
      · rw [List.length_append, hl] at h; omega), List.drop_left' hl, ih, sys_flat _ _ fun x hx => by have := h3 x hx; omega]
    show some (_ :: _) = some (_ :: _)
    congr 2
    unfold segD
    congr 1
    cases s.set <;> decide
end Go.Proofs.YtcmpamnhegndnaaGreatDoor
