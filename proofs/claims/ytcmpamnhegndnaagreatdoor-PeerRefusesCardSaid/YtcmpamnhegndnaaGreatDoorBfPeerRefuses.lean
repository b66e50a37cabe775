/- Texts joined: engine, contracts and laws, in the order in which they build. -/
import Derived.Test.YtcmpamnhegndnaaGreatDoorBePeerRefuses
namespace Go.Proofs.YtcmpamnhegndnaaGreatDoor
open Go.RowKit

def lowB (x : Int) : Nat → List Int
  | 0 => []
  | i + 1 => (x / 2 ^ i % 2) :: lowB x i
theorem lowB_len (x : Int) : ∀ i, (lowB x i).length = i
  | 0 => rfl
  | i + 1 => by rw [lowB, List.length_cons, lowB_len x i]
theorem lowB_bits (x : Int) : ∀ i, Bits (lowB x i)
  | 0 => fun b h => by cases h
  | i + 1 => fun b h => by
    rw [lowB] at h
    rcases List.mem_cons.1 h with rfl | h
    · omega
    · exact lowB_bits x i b h
theorem bitsN_low {x : Int} (h : 0 ≤ x ∧ x ≤ 255) : bitsN (lowB x 8) = x := by
  show 2 * (2 * (2 * (2 * (2 * (2 * (2 * (2 * 0 + x / 2 ^ 7 % 2) + x / 2 ^ 6 % 2) + x / 2 ^ 5 % 2) + x / 2 ^ 4 % 2) + x / 2 ^ 3 % 2) + x / 2 ^ 2 % 2) + x / 2 ^ 1 % 2) + x / 2 ^ 0 % 2 = x
  omega
def bytesB (zs : List Int) : List Int := zs.flatMap fun x => lowB x 8
theorem bytesB_len (zs : List Int) : (bytesB zs).length = 8 * zs.length := by
  induction zs with
  | nil => rfl
  | cons z zs ih => unfold bytesB at ih ⊢; rw [List.flatMap_cons, List.length_append, ih, lowB_len, List.length_cons]; omega
theorem bytesB_bits (zs : List Int) : Bits (bytesB zs) := fun b h => by
  obtain ⟨z, _, hz⟩ := List.mem_flatMap.1 h
  exact lowB_bits z 8 b hz
theorem Bits.app {xs ys : List Int} (h1 : Bits xs) (h2 : Bits ys) : Bits (xs ++ ys) := fun b h => (List.mem_append.1 h).elim (h1 b) (h2 b)
theorem Bits.zeros (n : Nat) : Bits (List.replicate n 0) := fun _ h => .inl (List.eq_of_mem_replicate h)
theorem bitsN_zeros : ∀ n : Nat, bitsN (List.replicate n 0) = 0
  | 0 => rfl
  | n + 1 => by rw [List.replicate_succ', bitsN_snoc, bitsN_zeros n]; rfl
def b32 (zs : List Int) : List Int := bytesB zs ++ List.replicate (32 - 8 * zs.length) 0
theorem b32_len {zs : List Int} (h : zs.length ≤ 4) : (b32 zs).length = 32 := by unfold b32; rw [List.length_append, bytesB_len, List.length_replicate]; omega
theorem b32_bits (zs : List Int) : Bits (b32 zs) := (bytesB_bits zs).app (Bits.zeros _)
theorem b32_num {zs : List Int} (hB : Bys zs) (h : zs.length ≤ 4) : bitsN (b32 zs) = addrI zs := by
  unfold b32
  rw [bitsN_app, bitsN_zeros, List.length_replicate, Int.add_zero]
  match zs, h with
  | [], _ => rfl
  | [a], _ =>
    have ha := bitsN_low (hB a (by simp))
    rw [show bytesB [a] = lowB a 8 from List.append_nil _, ha]
    show a * 2 ^ 24 = a * 16777216 + 0 * 65536 + 0 * 256 + 0
    omega
  | [a, b], _ =>
    have ha := bitsN_low (hB a (by simp))
    have hb := bitsN_low (hB b (by simp))
    rw [show bytesB [a, b] = lowB a 8 ++ lowB b 8 by unfold bytesB; simp, bitsN_app, ha, hb, lowB_len]
    show (a * 2 ^ 8 + b) * 2 ^ 16 = a * 16777216 + b * 65536 + 0 * 256 + 0
    omega
  | [a, b, c], _ =>
    have ha := bitsN_low (hB a (by simp))
    have hb := bitsN_low (hB b (by simp))
    have hc := bitsN_low (hB c (by simp))
    rw [show bytesB [a, b, c] = lowB a 8 ++ lowB b 8 ++ lowB c 8 by unfold bytesB; simp, bitsN_app, bitsN_app, ha, hb, hc, lowB_len, lowB_len]
    show ((a * 2 ^ 8 + b) * 2 ^ 8 + c) * 2 ^ 8 = a * 16777216 + b * 65536 + c * 256 + 0
    omega
  | [a, b, c, d], _ =>
    have ha := bitsN_low (hB a (by simp))
    have hb := bitsN_low (hB b (by simp))
    have hc := bitsN_low (hB c (by simp))
    have hd := bitsN_low (hB d (by simp))
    rw [show bytesB [a, b, c, d] = lowB a 8 ++ lowB b 8 ++ lowB c 8 ++ lowB d 8 by unfold bytesB; simp, bitsN_app, bitsN_app, bitsN_app, ha, hb, hc, hd, lowB_len, lowB_len, lowB_len]
    show (((a * 2 ^ 8 + b) * 2 ^ 8 + c) * 2 ^ 8 + d) * 2 ^ 0 = a * 16777216 + b * 65536 + c * 256 + d
    omega
theorem cut_bits {zs : List Int} (hB : Bys zs) (h : zs.length ≤ 4) (n : Nat) (hn : n ≤ 32) : bitsN ((b32 zs).take n ++ List.replicate (32 - n) 0) = cutI (addrI zs) n := by
  rw [← b32_num hB h]
  have hl := b32_len h
  have e := bitsN_app ((b32 zs).take n) ((b32 zs).drop n)
  rw [List.take_append_drop, List.length_drop, hl] at e
  have hb := bitsN_b (bs := (b32 zs).drop n) fun b hb => b32_bits zs b (List.mem_of_mem_drop hb)
  rw [List.length_drop, hl] at hb
  rw [bitsN_app, bitsN_zeros, List.length_replicate, Int.add_zero]
  unfold cutI
  have hi : inI (n : Int) = n := by unfold inI; omega
  rw [hi, show (32 - (n : Int)).toNat = 32 - n by omega, show (((2 ^ (32 - n) : Nat)) : Int) = (2 : Int) ^ (32 - n) by simp]
  rw [e]
  generalize (2 : Int) ^ (32 - n) = M at *
  generalize bitsN ((b32 zs).take n) = A at *
  generalize bitsN ((b32 zs).drop n) = B at *
  rw [Int.add_comm (A * M) B, Int.add_mul_emod_self_right, Int.emod_eq_of_lt hb.1 hb.2]
  omega

theorem half_pow {z : Int} {i : Nat} (hi : i < 8) (h : 0 ≤ z) : (z / 2 ^ i).tdiv 2 = z / 2 ^ (i + 1) ∧ (z / 2 ^ i).tmod 2 = z / 2 ^ i % 2 ∧ 0 ≤ z / 2 ^ i := by
  have h0 : 0 ≤ z / 2 ^ i := Int.ediv_nonneg h (by have := Nat.two_pow_pos i; have e : (2 : Int) ^ i = ((2 ^ i : Nat) : Int) := by simp
                                                   omega)
  refine ⟨?_, Int.tmod_eq_emod_of_nonneg h0, h0⟩
  rw [Int.tdiv_eq_ediv_of_nonneg h0]
  have : i = 0 ∨ i = 1 ∨ i = 2 ∨ i = 3 ∨ i = 4 ∨ i = 5 ∨ i = 6 ∨ i = 7 := by omega
  rcases this with rfl | rfl | rfl | rfl | rfl | rfl | rfl | rfl <;> omega
theorem bytesB_snoc (zs : List Int) (z : Int) : bytesB (zs ++ [z]) = bytesB zs ++ lowB z 8 := by unfold bytesB; rw [List.flatMap_append, List.flatMap_cons, List.flatMap_nil, List.append_nil]
def ReadP (w w' : World) (xs : List Int) (e : Ending) : Prop :=
  match netsR xs with
  | none => e = .returned (.tuple #[.slice none 0 0, .bool false]) ∧ Frm (fun _ => False) w w'
  | some ps => ∃ ad c E, e = .returned (.tuple #[.slice ad ps.length c, .bool true]) ∧ Vec 2 ad ps.length c (pfsL ps) E ∧ St (fun _ => False) w w' E
theorem ReadP.no {w w' : World} {v : List Int} {L : List Ent} (h : netsR v = none) (hS : St (fun _ => False) w w' L) : ReadP w w' v (.returned (.tuple #[.slice none 0 0, .bool false])) := by
  unfold ReadP
  rw [h]
  exact ⟨rfl, hS.frm⟩
theorem RNumV_c (w : World) (g hc : Nat) (bs : List Int) (cs : List Value) (hV : Vec 1 (some ⟨g, 0, none⟩) 32 hc (i64s bs) [.row g cs]) (hl : bs.length = 32) (hB : Bits bs) (hw : (Ent.row g cs).holds w) :
    Calls Tryz.prog 115 #[.slice (some ⟨g, 0, none⟩) 32 hc] w fun e w' => e = .returned (.int .u32 (bitsN bs)) ∧ Frm (fun _ => False) w w' := by
  obtain ⟨b, o, e, hr⟩ := hV.src2 (by rw [i64s_len]; omega)
  cases e
  have h := RNum01_c w g 0 hc bs (hr w fun e he => by rw [List.mem_singleton.1 he]; exact hw) hB (by omega)
  rw [hl] at h
  exact h
set_option maxHeartbeats 8000000 in
theorem RRead_c (w : World) (b o cv : Nat) (xs : List Int) (hW : Win w b o cv xs) (hn : xs.length ≤ 100000) :
    Calls Tryz.prog 92 #[.slice (some ⟨b, o, none⟩) xs.length cv] w fun e w' => ReadP w w' xs e := by
  have hle := hW.le
  refine enter Tryz.func92 rfl Tryz.ntmps92 rfl (St.start (fun _ => False) w) ?_
  refine cR <| zA rfl <| zA rfl <| zR <| zB Tryz.underlying115 sz_199 zero_199 rfl rfl <| ?_
  intro g12 hg12
  refine zA rfl <| zR <| zA rfl <| zN <| cS <| cB <| ?_
  refine WC.loop (fun y : Nat × List PfL × Option Addr × Nat × List Ent => [(5, .int .i64 y.1), (4, .slice y.2.2.1 y.2.1.length y.2.2.2.1), (0, .slice (some ⟨b, o, none⟩) xs.length cv)]) (fun y => y.2.2.2.2 ++ []) (fun y => y.1 ≤ xs.length ∧ netsR xs = (netsR (xs.drop y.1)).map (y.2.1 ++ ·) ∧ Vec 2 y.2.2.1 y.2.1.length y.2.2.2.1 (pfsL y.2.1) y.2.2.2.2 ∧ y.2.1.length ≤ y.1) (fun y => xs.length - y.1) (0, [], some ⟨g12, 0, none⟩, 0, [.row g12 []]) ⟨Nat.zero_le _, by dsimp only; rw [List.drop_zero]; cases netsR xs <;> rfl, Vec.row (k := 0) rfl rfl (Nat.le_refl _), Nat.zero_le _⟩ (.cons rfl (.cons rfl (.cons rfl .nil))) (.refl _) ?_
  rintro ⟨k, ps, ad, c, E⟩ ⟨hk, hp, hV, hpl⟩
  dsimp only at hk hp hV hpl
  dsimp only
  refine cS <| cR <| zM rfl <| zM rfl <| zV (v_len_slice rfl rfl Tryz.underlying25) rfl <| ?_
  refine zT (v_lss rfl rfl rfl) rfl (fun h16 => ?_) (fun h16 => ?_)
  refine zN <| cT rfl <| cK <| eN <| cB <| cR <| ?_
  obtain ⟨x, hx⟩ : ∃ x, xs[k]? = some x := ⟨xs[k]'(by omega), List.getElem?_eq_getElem _⟩
  have hbx := hW.bys x (List.mem_of_getElem? hx)
  obtain ⟨m, rfl⟩ := Int.eq_ofNat_of_zero_le hbx.1
  rw [drop_cons' hx, netsR_cons] at hp
  have hnm : needN (m : Int) = (m + 7) / 8 := (by unfold needN; rw [Int.toNat_natCast])
  have hdl : (xs.drop (k + 1)).length = xs.length - (k + 1) := List.length_drop ..
  refine zM rfl <| zM rfl <| ?_
  refine zV (v_indexAddr (lo := k) rfl rfl rfl Tryz.underlying25 sz_5 (by omega) (by omega)) rfl ?_
  refine zV (v_load1 rfl rfl one_5 (cellOld (fun h => h) (hW.get hx))) rfl ?_
  refine zV (v_conv rfl rfl Tryz.underlying3 Tryz.underlying5 (w_i64 (by omega) (by omega))) rfl ?_
  refine zA rfl <| zR <| zM rfl <| ?_
  refine zV (v_add rfl rfl rfl (w_i64 (by omega) (by omega))) rfl ?_
  refine zA rfl <| zN <| cS <| cR <| zM rfl <| ?_
  refine zT (v_gtr rfl rfl rfl) rfl (fun h25 => ?_) (fun h25 => ?_)
  refine zN <| cT rfl <| cR <| zA rfl <| zA rfl <| zN <| cE <| eR <| eB <| eR <| eB <| eR <| WE.ret2 (P := Tryz.prog) (.inl rfl) Tryz.results92 rfl rfl <| ?_
  have e0 : netsR xs = none := (by rw [hp, if_pos (.inl (by omega))]; rfl)
  exact fun w' h => ReadP.no e0 h
  refine zN <| cF rfl <| cK <| eN <| cR <| zB Tryz.underlying32 sz_3 zero_3 rfl rfl <| ?_
  intro g26 hg26
  refine zA rfl <| zN <| cS <| cB <| ?_
  refine WC.loop (fun y : Nat × Option Addr × Nat × List Ent => [(7, .slice y.2.1 (8 * y.1) y.2.2.1), (6, .int .i64 m), (5, .int .i64 (k + 1 + y.1 : Nat)), (4, .slice ad ps.length c), (0, .slice (some ⟨b, o, none⟩) xs.length cv)]) (fun y => y.2.2.2 ++ (E ++ [])) (fun y => k + 1 + y.1 ≤ xs.length ∧ 8 * y.1 < m + 8 ∧ Vec 1 y.2.1 (8 * y.1) y.2.2.1 (i64s (bytesB ((xs.drop (k + 1)).take y.1))) y.2.2.2) (fun y => xs.length - y.1) (0, some ⟨g26, 0, none⟩, 0, [.row g26 []]) ⟨by dsimp only; omega, by dsimp only; omega, Vec.row (k := 0) rfl rfl (Nat.le_refl _)⟩ (.cons rfl (.cons rfl (.int rfl (by dsimp only; omega) (.cons rfl (.cons rfl .nil))))) (.refl _) ?_
  rintro ⟨j, bd, bc, F⟩ ⟨hj, hj8, hF⟩
  dsimp only at hj hj8 hF
  dsimp only
  refine cS <| cR <| zM rfl <| zV (v_len_slice rfl rfl Tryz.underlying32) rfl <| ?_
  refine zV (v_mul rfl rfl rfl (w_i64 (by omega) (by omega))) rfl ?_
  refine zM rfl ?_
  refine zV (v_mul rfl rfl rfl (w_i64 (by omega) (by omega))) rfl ?_
  refine zT (v_lss rfl rfl rfl) rfl (fun h32 => ?_) (fun h32 => ?_)
  refine zN <| cT rfl <| cK <| eN <| cB <| cS <| cR <| zM rfl <| zM rfl <| zV (v_len_slice rfl rfl Tryz.underlying25) rfl <| ?_
  refine zT (v_geq rfl rfl rfl) rfl (fun h36 => ?_) (fun h36 => ?_)
  refine zN <| cT rfl <| cR <| zA rfl <| zA rfl <| zN <| cE <| eR <| eB <| eR <| eB <| eR <| eB <| ?_
  refine eR <| eB <| eR <| WE.ret2 (P := Tryz.prog) (.inl rfl) Tryz.results92 rfl rfl <| ?_
  have e0 : netsR xs = none := (by rw [hp, if_pos (.inr (by rw [hdl, hnm]; omega))]; rfl)
  exact fun w' h => ReadP.no e0 h
  refine zN <| cF rfl <| cK <| eN <| cR <| ?_
  obtain ⟨z, hz⟩ : ∃ z, xs[k + 1 + j]? = some z := ⟨xs[k + 1 + j]'(by omega), List.getElem?_eq_getElem _⟩
  have hbz := hW.bys z (List.mem_of_getElem? hz)
  have hzd : (xs.drop (k + 1))[j]? = some z := (by rw [List.getElem?_drop]; exact hz)
  refine zM rfl <| zM rfl <| ?_
  refine zV (v_indexAddr (lo := k + 1 + j) rfl rfl rfl Tryz.underlying25 sz_5 (by omega) (by omega)) rfl ?_
  refine zV (v_load1 rfl rfl one_5 (cellOld (fun h => h) (hW.get hz))) rfl ?_
  refine zV (v_conv rfl rfl Tryz.underlying3 Tryz.underlying5 (w_i64 (by omega) (by omega))) rfl ?_
  refine zA rfl <| zR <| zM rfl <| ?_
  refine zV (v_add rfl rfl rfl (w_i64 (by omega) (by omega))) rfl ?_
  refine zA rfl <| zR <| zB Tryz.underlying32 sz_3 zero_3 rfl rfl <| ?_
  intro g44 hg44
  refine zA rfl <| zN <| cS <| cR <| zA rfl <| zN <| cB <| ?_
  refine WC.loop (fun y : Nat × Option Addr × Nat × List Ent => [(10, .int .i64 y.1), (9, .slice y.2.1 y.1 y.2.2.1), (8, .int .i64 (z / 2 ^ y.1)), (7, .slice bd (8 * j) bc), (6, .int .i64 m), (5, .int .i64 (k + 1 + j + 1 : Nat)), (4, .slice ad ps.length c), (0, .slice (some ⟨b, o, none⟩) xs.length cv)]) (fun y => y.2.2.2 ++ (F ++ (E ++ []))) (fun y => y.1 ≤ 8 ∧ Vec 1 y.2.1 y.1 y.2.2.1 (i64s (lowB z y.1)) y.2.2.2) (fun y => 8 - y.1) (0, some ⟨g44, 0, none⟩, 0, [.row g44 []]) ⟨by dsimp only; omega, Vec.row (k := 0) rfl rfl (Nat.le_refl _)⟩ (.cons rfl (.cons rfl (.int rfl (by first | omega | (dsimp only; omega)) (.cons rfl (.cons rfl (.int rfl (by first | omega | (dsimp only; omega)) (.cons rfl (.cons rfl .nil)))))))) (.refl _) ?_
  rintro ⟨i, ed, ec, G⟩ ⟨hi, hG⟩
  dsimp only at hi hG
  dsimp only
  refine cS <| cR <| zM rfl <| ?_
  refine zT (v_lss rfl rfl rfl) rfl (fun h46 => ?_) (fun h46 => ?_)
  refine zN <| cT rfl <| cK <| eN <| cS <| cB <| cR <| ?_
  obtain ⟨hq1, hq2, hq3⟩ := half_pow (z := z) (i := i) (by omega) hbz.1
  have hq4 := Int.ediv_le_self (a := z) (2 ^ (i + 1)) hbz.1
  have hq5 := (half_pow (z := z) (i := i) (by omega) hbz.1).1
  have hq6 : 0 ≤ z / 2 ^ (i + 1) := (by rw [← hq5, Int.tdiv_eq_ediv_of_nonneg hq3]; omega)
  refine zM rfl ?_
  refine zV (v_remT rfl rfl rfl (by decide)) rfl ?_
  rw [hq2]
  refine zB Tryz.underlying32 sz_3 zero_3 rfl rfl ?_
  intro g51 hg51
  refine zM rfl ?_
  refine WL.appendL rfl rfl rfl Tryz.underlying32 Tryz.underlying32 sz_3 by_3 zero_3 rfl rfl (Vec.row (g := g51) (k := 1) (c := 1) (s := 1) (cs := [.int .i64 (z / 2 ^ i % 2)]) (xs := [.int .i64 (z / 2 ^ i % 2)]) rfl rfl (Nat.le_refl _)) (new := i64s (lowB z i)) (fun h => by obtain ⟨b', o', e, hr'⟩ := hG.src (L := .row g51 [.int .i64 (z / 2 ^ i % 2)] :: (G ++ (F ++ (E ++ [])))) (fun e he => List.mem_cons_of_mem _ (List.mem_append_left _ he)) (by rw [i64s_len, lowB_len]; exact h); exact ⟨b', o', e, fun w hS => hr' _ _ w hS⟩) (by rw [i64s_len, lowB_len, Nat.mul_one]) (i64s_one _) (by omega) (.none rfl) rfl rfl ?_
  intro ad53 c53 E53 hV53 hr53
  rw [Nat.add_comm 1 i] at hV53 ⊢
  refine zA rfl <| zN <| WC.region <| zM rfl <| ?_
  refine zV (v_quoT rfl rfl rfl (by decide) (show _ = z / 2 ^ (i + 1) from by rw [hq1]; exact w_i64 (by omega) (by omega))) rfl ?_
  refine zA rfl <| WL.nil <| eb <| eN <| WC.region <| zM rfl <| ?_
  refine zV (v_add rfl rfl rfl (w_i64 (by omega) (by omega))) rfl ?_
  refine zA rfl <| WL.nil <| ?_
  exact WE.next (i + 1, ad53, c53, E53) (by dsimp only; omega) ⟨by dsimp only; omega, hV53⟩ (.int rfl (by dsimp only; omega) (.cons rfl (.cons rfl (.cons rfl (.cons rfl (.cons rfl (.cons rfl (.cons rfl .nil)))))))) (List.Sublist.append_left (List.sublist_append_right G _) _)
  refine zN <| cF rfl <| cX <| eX <| eX <| eH <| eN <| WC.region <| ?_
  have hi8 : i = 8 := (by omega)
  rw [hi8] at hG
  rw [hi8]
  refine WL.to (L' := F ++ (G ++ (E ++ []))) (fun w hS => St.front (R := F) G hS) <| zM rfl <| zM rfl <| ?_
  refine WL.appendL rfl rfl rfl Tryz.underlying32 Tryz.underlying32 sz_3 by_3 zero_3 rfl rfl hF (new := i64s (lowB z 8)) (fun h => by obtain ⟨b', o', e, hr'⟩ := hG.src (L := F ++ (G ++ (E ++ []))) (fun e he => List.mem_append_right _ (List.mem_append_left _ he)) (by rw [i64s_len, lowB_len]; exact h); exact ⟨b', o', e, fun w hS => hr' _ _ w hS⟩) (by rw [i64s_len, lowB_len]) (i64s_one _) (by omega) (.none rfl) rfl rfl ?_
  intro ad58 c58 E58 hV58 hr58
  rw [← i64s_app, ← bytesB_snoc, ← take_succ_get hzd, show 8 * j + 8 = 8 * (j + 1) by omega] at hV58
  rw [show 8 * j + 8 = 8 * (j + 1) by omega]
  refine zA rfl <| WL.nil <| eb <| ?_
  exact WE.next (j + 1, ad58, c58, E58) (by dsimp only; omega) ⟨by dsimp only; omega, by dsimp only; omega, hV58⟩ (.cons rfl (.cons rfl (.cons rfl (.cons rfl (.cons rfl .nil))))) (List.Sublist.append_left (List.sublist_append_right G _) _)
  refine zN <| cF rfl <| cX <| eX <| eX <| eH <| eN <| cS <| cB <| ?_
  refine WC.loop (fun y : Nat × Option Addr × Nat × List Ent => [(7, .slice y.2.1 (8 * j + y.1) y.2.2.1), (6, .int .i64 m), (5, .int .i64 (k + 1 + j : Nat)), (4, .slice ad ps.length c), (0, .slice (some ⟨b, o, none⟩) xs.length cv)]) (fun y => y.2.2.2 ++ (E ++ [])) (fun y => 8 * j + y.1 ≤ 32 ∧ Vec 1 y.2.1 (8 * j + y.1) y.2.2.1 (i64s (bytesB ((xs.drop (k + 1)).take j) ++ List.replicate y.1 0)) y.2.2.2) (fun y => 32 - y.1) (0, bd, bc, F) ⟨by dsimp only; omega, by dsimp only; rw [show List.replicate 0 (0 : Int) = [] from rfl, List.append_nil]; exact hF⟩ (.cons rfl (.cons rfl (.cons rfl (.cons rfl (.cons rfl .nil))))) (.refl _) ?_
  rintro ⟨t, hd, hc, H⟩ ⟨ht, hH⟩
  dsimp only at ht hH
  dsimp only
  refine cS <| cR <| zM rfl <| zV (v_len_slice rfl rfl Tryz.underlying32) rfl <| ?_
  refine zT (v_lss rfl rfl rfl) rfl (fun h61 => ?_) (fun h61 => ?_)
  refine zN <| cT rfl <| cK <| eN <| cB <| WC.region <| zM rfl <| zB Tryz.underlying32 sz_3 zero_3 rfl rfl <| ?_
  intro g63 hg63
  refine WL.to (L' := H ++ (.row g63 [.int .i64 0] :: (E ++ []))) (fun w hS => St.front (R := H) (L := E ++ []) [.row g63 [.int .i64 0]] hS) ?_
  refine WL.appendL rfl rfl rfl Tryz.underlying32 Tryz.underlying32 sz_3 by_3 zero_3 rfl rfl hH (new := [.int .i64 0]) (fun _ => ⟨g63, 0, rfl, fun w hS => allAt (g := g63) w hS⟩) rfl rfl (by omega) (.none rfl) rfl rfl ?_
  intro ad64 c64 E64 hV64 hr64
  have hrep : i64s (bytesB ((xs.drop (k + 1)).take j) ++ List.replicate t 0) ++ [.int .i64 0] = i64s (bytesB ((xs.drop (k + 1)).take j) ++ List.replicate (t + 1) 0) := (by rw [List.replicate_succ', ← List.append_assoc, i64s_app _ [0]]; rfl)
  rw [hrep, Nat.add_assoc] at hV64
  rw [Nat.add_assoc]
  refine zA rfl <| WL.nil <| eb <| ?_
  exact WE.next (t + 1, ad64, c64, E64) (by dsimp only; omega) ⟨by dsimp only; omega, hV64⟩ (.cons rfl (.cons rfl (.cons rfl (.cons rfl (.cons rfl .nil))))) (List.Sublist.append_left (.cons _ (.refl _)) _)
  refine zN <| cF rfl <| cX <| eX <| eX <| eH <| eN <| cS <| cR <| ?_
  have hzl : ((xs.drop (k + 1)).take j).length = j := (by rw [List.length_take]; omega)
  have hb4 : ((xs.drop (k + 1)).take j).length ≤ 4 := (by omega)
  have ht32 : 8 * j + t = 32 := (by omega)
  have hbe : bytesB ((xs.drop (k + 1)).take j) ++ List.replicate t 0 = b32 ((xs.drop (k + 1)).take j) := (by unfold b32; rw [hzl, show t = 32 - 8 * j by omega])
  rw [hbe, ht32] at hH
  rw [ht32]
  rcases hH with ⟨_, h0, _⟩ | ⟨g, cs, rfl, rfl, hx2, hcl, hkc⟩
  · omega
  refine WL.as (L' := .row g cs :: (E ++ [])) rfl <| zM rfl <| zA rfl <| zN <| cB <| ?_
  refine WC.loop (fun y : Nat × List Value => [(11, .int .i64 y.1), (7, .slice (some ⟨g, 0, none⟩) 32 hc), (6, .int .i64 m), (5, .int .i64 (k + 1 + j : Nat)), (4, .slice ad ps.length c), (0, .slice (some ⟨b, o, none⟩) xs.length cv)]) (fun y => .row g y.2 :: (E ++ [])) (fun y => m ≤ y.1 ∧ y.1 ≤ 32 ∧ y.2.length = hc * 1 ∧ ∃ bs : List Int, y.2.take 32 = i64s bs ∧ bs.length = 32 ∧ ∀ q : Nat, q < 32 → bs[q]? = if m ≤ q ∧ q < y.1 then some 0 else (b32 ((xs.drop (k + 1)).take j))[q]?) (fun y => 32 - y.1) (m, cs) ⟨Nat.le_refl _, by dsimp only; omega, hcl, b32 ((xs.drop (k + 1)).take j), by rw [← hx2], b32_len hb4, fun q _ => by rw [if_neg (by dsimp only; omega)]⟩ (.cons rfl (.cons rfl (.cons rfl (.cons rfl (.cons rfl (.cons rfl .nil)))))) (.refl _) ?_
  rintro ⟨i, cs2⟩ ⟨him, hi32, hcl2, bs, hbs, hbl, hbq⟩
  dsimp only at him hi32 hcl2 hbs hbq
  dsimp only
  refine cS <| cR <| zM rfl <| ?_
  refine zT (v_lss rfl rfl rfl) rfl (fun h67 => ?_) (fun h67 => ?_)
  refine zN <| cT rfl <| cK <| eN <| cS <| cB <| WC.region <| zM rfl <| zM rfl <| ?_
  refine zV (v_indexAddr (lo := i) rfl rfl rfl Tryz.underlying32 sz_3 (by omega) (by omega)) rfl ?_
  refine WL.store1 rfl rfl rfl rfl one_3 (by omega) (.none rfl) rfl ?_
  refine WL.nil <| eb <| eN <| WC.region <| zM rfl <| ?_
  refine zV (v_add rfl rfl rfl (w_i64 (by omega) (by omega))) rfl ?_
  refine zA rfl <| WL.nil <| ?_
  exact WE.next (i + 1, cs2.set (0 + i * 1) (.int .i64 0)) (by dsimp only; omega) ⟨by dsimp only; omega, by dsimp only; omega, by rw [List.length_set]; exact hcl2, bs.set i 0, by
  dsimp only
  rw [List.take_set, hbs, show 0 + i * 1 = i by omega]
  unfold i64s
  rw [List.map_set], by rw [List.length_set]; exact hbl, fun q hq => by
  rw [List.getElem?_set]
  dsimp only
  by_cases e : i = q
  · subst e
    rw [if_pos rfl, if_pos (by omega), if_pos (by omega)]
  · rw [if_neg e, hbq q hq]
    by_cases h : m ≤ q ∧ q < i
    · rw [if_pos h, if_pos (by omega)]
    · rw [if_neg h, if_neg (by omega)]⟩ (.int rfl (by dsimp only; omega) (.cons rfl (.cons rfl (.cons rfl (.cons rfl (.cons rfl .nil)))))) (.refl _)
  refine zN <| cF rfl <| cX <| eX <| eX <| eH <| eN <| WC.region <| zM rfl <| zM rfl <| ?_
  have hl32 := b32_len hb4
  have hbl2 : bs = (b32 ((xs.drop (k + 1)).take j)).take m ++ List.replicate (32 - m) 0 := List.ext_getElem? fun q => (by
    by_cases hq : q < 32
    · rw [hbq q hq]
      by_cases h : m ≤ q ∧ q < i
      · rw [if_pos h, List.getElem?_append_right (by rw [List.length_take, hl32]; omega), List.getElem?_replicate, if_pos (by rw [List.length_take, hl32]; omega)]
      · rw [if_neg h, List.getElem?_append_left (by rw [List.length_take, hl32]; omega), List.getElem?_take, if_pos (by omega)]
    · rw [List.getElem?_eq_none (by omega), List.getElem?_eq_none (by rw [List.length_append, List.length_take, List.length_replicate, hl32]; omega)])
  have hBy : Bys ((xs.drop (k + 1)).take j) := fun y hy => hW.bys y (List.mem_of_mem_drop (List.mem_of_mem_take hy))
  have hnum : bitsN bs = cutI (addrI ((xs.drop (k + 1)).take j)) m := (by rw [hbl2, cut_bits hBy hb4 m (by omega)])
  have hbits : Bits bs := (by rw [hbl2]; exact Bits.app (fun y hy => b32_bits _ y (List.mem_of_mem_take hy)) (Bits.zeros _))
  have hVb : Vec 1 (some ⟨g, 0, none⟩) 32 hc (i64s bs) [.row g cs2] := Vec.row (by rw [← hbs]) hcl2 hkc
  have hnj : needN (m : Int) = j := (by rw [hnm]; omega)
  obtain ⟨p, hpe⟩ : ∃ p : PfL, p = ⟨cutI (addrI ((xs.drop (k + 1)).take j)) m, inI m⟩ := ⟨_, rfl⟩
  have hpc : [Value.int .u32 (bitsN bs), .int .i64 m] = p.cells := (by rw [hpe, hnum]; unfold PfL.cells inI; dsimp only; rw [show min (max (m : Int) 0) 32 = m by omega])
  refine zK ck_115 rfl ?_
  intro w hS
  refine Calls.then (RNumV_c _ g hc bs cs2 hVb hbl hbits (hS.holds _ (by simp))) hS ?_
  refine zM rfl <| zV (v_build rfl rfl zero_199 plc_199 rfl) rfl <| zB Tryz.underlying115 sz_199 zero_199 rfl rfl <| ?_
  intro g78 hg78
  refine WL.rowAs (g := g78) (cs' := p.cells) hpc ?_
  refine WL.to (L' := E ++ (.row g78 p.cells :: [.row g cs2])) (fun w hS => hS.permC (by intro c h1 h2 h3 e; have h0 := h3 e [] []; rw [List.append_nil] at h0; simp only [h1, h2, h3]; omega)) ?_
  refine WL.appendL rfl rfl rfl Tryz.underlying115 Tryz.underlying115 sz_199 by_199 zero_199 rfl rfl hV (new := p.cells) (fun _ => ⟨g78, 0, rfl, fun w hS => allAt (g := g78) w hS⟩) rfl rfl (by omega) (.none rfl) rfl rfl ?_
  intro ad79 c79 E79 hV79 hr79
  rw [← pfsL_snoc, show ps.length + 1 = (ps ++ [p]).length by rw [List.length_append]; rfl] at hV79
  rw [show ps.length + 1 = (ps ++ [p]).length by rw [List.length_append]; rfl]
  refine zA rfl <| WL.nil <| eb <| ?_
  exact WE.next (k + 1 + j, ps ++ [p], ad79, c79, E79) (by dsimp only; omega) ⟨by dsimp only; omega, by
  dsimp only
  rw [hp, if_neg (by rw [hdl, hnj]; omega), hnj, List.drop_drop]
  cases netsR (xs.drop (k + 1 + j)) with
  | none => rfl
  | some q =>
    show some (ps ++ _ :: q) = some ((ps ++ [p]) ++ q)
    rw [hpe, List.append_assoc]; rfl, hV79, by dsimp only; rw [List.length_append]; show ps.length + 1 ≤ _; omega⟩ (.cons rfl (.cons rfl (.cons rfl .nil))) (List.Sublist.append_left (List.nil_sublist _) _)
  refine zN <| cF rfl <| cX <| eX <| eX <| eH <| eN <| cR <| zM rfl <| zA rfl <| zA rfl <| zN <| cE <| ?_
  refine WE.ret2 (P := Tryz.prog) (.inl rfl) Tryz.results92 rfl rfl ?_
  have e0 : netsR xs = some ps := (by
    rw [hp, List.drop_eq_nil_of_le (by omega), netsR]
    show some (_ ++ []) = _
    rw [List.append_nil])
  exact fun w' h => by
    unfold ReadP
    rw [e0]
    exact ⟨ad, c, E, rfl, hV, h.sub (List.sublist_append_left _ _)⟩

theorem RMissing_c (w : World) (a : AtL) (h0 : 0 ≤ a.has) (h1 : a.has ≤ 511) : Calls Tryz.prog 94 #[.agg a.rcells.toArray] w fun e w' => e = .returned (.int .i64 (missI a.has)) ∧ Frm (fun _ => False) w w' := by
  have e1 : hasB a.has 1 = decide (a.has / 2 % 2 = 1) := by unfold hasB; exact decide_eq_decide.2 ⟨fun h => h.2.2, fun h => ⟨by omega, by omega, h⟩⟩
  have e2 : hasB a.has 2 = decide (a.has / 4 % 2 = 1) := by unfold hasB; exact decide_eq_decide.2 ⟨fun h => h.2.2, fun h => ⟨by omega, by omega, h⟩⟩
  have e3 : hasB a.has 3 = decide (a.has / 8 % 2 = 1) := by unfold hasB; exact decide_eq_decide.2 ⟨fun h => h.2.2, fun h => ⟨by omega, by omega, h⟩⟩
  have t1 : ∀ n : Int, 0 ≤ n → n.tmod 2 = n % 2 := fun n hn => Int.tmod_eq_emod_of_nonneg hn
  have q2 : IntKind.i64.wrap (a.has.tdiv 2) = a.has / 2 := by rw [Int.tdiv_eq_ediv_of_nonneg h0]; exact w_i64 (by omega) (by omega)
  have q4 : IntKind.i64.wrap (a.has.tdiv 4) = a.has / 4 := by rw [Int.tdiv_eq_ediv_of_nonneg h0]; exact w_i64 (by omega) (by omega)
  have q8 : IntKind.i64.wrap (a.has.tdiv 8) = a.has / 8 := by rw [Int.tdiv_eq_ediv_of_nonneg h0]; exact w_i64 (by omega) (by omega)
  refine enter Tryz.func94 rfl Tryz.ntmps94 rfl (St.start (fun _ => False) w) ?_
  refine cR <| WL.box rfl rfl rfl (.none rfl) rfl rfl <| ?_
  intro g1 hg1
  refine zA rfl <| zN <| cS <| cR <| zF rfl fld_119_0 <| zL rfl one_3 rfl <| ?_
  refine zV (v_quoT rfl rfl rfl (by decide) (q2)) rfl ?_
  refine zV (v_remT rfl rfl rfl (by decide)) rfl ?_
  rw [t1 _ (by omega)]
  refine zT (v_eql rfl rfl rfl) rfl (fun h7 => ?_) (fun h7 => ?_)
  refine zN <| cT rfl <| cR <| zA rfl <| zN <| cE <| eR <| tR Tryz.results94 rfl <| ?_
  exact fun w' h => ⟨by unfold missI; rw [e1, decide_eq_false (by omega)]; rfl, h.frm⟩
  refine zN <| cF rfl <| cK <| eN <| cS <| cR <| zF rfl fld_119_0 <| zL rfl one_3 rfl <| ?_
  refine zV (v_quoT rfl rfl rfl (by decide) (q4)) rfl ?_
  refine zV (v_remT rfl rfl rfl (by decide)) rfl ?_
  rw [t1 _ (by omega)]
  refine zT (v_eql rfl rfl rfl) rfl (fun h12 => ?_) (fun h12 => ?_)
  refine zN <| cT rfl <| cR <| zA rfl <| zN <| cE <| eR <| tR Tryz.results94 rfl <| ?_
  exact fun w' h => ⟨by unfold missI; rw [e1, e2, decide_eq_true (by omega), decide_eq_false (by omega)]; rfl, h.frm⟩
  refine zN <| cF rfl <| cK <| eN <| cS <| cR <| zF rfl fld_119_0 <| zL rfl one_3 rfl <| ?_
  refine zV (v_quoT rfl rfl rfl (by decide) (q8)) rfl ?_
  refine zV (v_remT rfl rfl rfl (by decide)) rfl ?_
  rw [t1 _ (by omega)]
  refine zT (v_eql rfl rfl rfl) rfl (fun h17 => ?_) (fun h17 => ?_)
  refine zN <| cT rfl <| cR <| zA rfl <| zN <| cE <| eR <| tR Tryz.results94 rfl <| ?_
  exact fun w' h => ⟨by unfold missI; rw [e1, e2, e3, decide_eq_true (by omega), decide_eq_true (by omega), decide_eq_false (by omega)]; rfl, h.frm⟩
  refine zN <| cF rfl <| cK <| eN <| cR <| zA rfl <| zN <| cE <| tR Tryz.results94 rfl <| ?_
  exact fun w' h => ⟨by unfold missI; rw [e1, e2, e3, decide_eq_true (by omega), decide_eq_true (by omega), decide_eq_true (by omega)]; rfl, h.frm⟩

theorem sortO_ins {os : List (Int × List Int)} {t : Int} {v : List Int} (hnd : ((os ++ [(t, v)]).map (·.1)).Nodup) (k : Nat) (hlt : ∀ j x, j < k → (sortO os)[j]? = some x → x.1 < t) (hge : ∀ x, (sortO os)[k]? = some x → t ≤ x.1) :
    sortO (os ++ [(t, v)]) = (sortO os).take k ++ (t, v) :: (sortO os).drop k := by
  have hp := sortO_perm os
  have ha := sortO_asc os
  refine (sortO_is ?_ hnd ?_).symm
  · refine List.perm_middle.trans ?_
    rw [List.take_append_drop]
    exact (hp.cons _).trans (List.perm_append_comm (l₁ := [(t, v)]))
  · have h1 : ∀ a ∈ (sortO os).take k, a.1 < t := fun a h => by
      obtain ⟨j, hj, e⟩ := List.getElem_of_mem h
      rw [List.length_take] at hj
      refine hlt j a (by omega) ?_
      rw [← e, List.getElem_take, List.getElem?_eq_getElem]
    have h2 : ∀ b ∈ (sortO os).drop k, t ≤ b.1 := fun b h => by
      cases hx : (sortO os)[k]? with
      | none => rw [List.drop_eq_nil_of_le (List.getElem?_eq_none_iff.1 hx)] at h; cases h
      | some x =>
        have hd := ha.sublist (List.drop_sublist k _)
        rw [drop_cons' hx] at hd h
        have hk := hge x hx
        rcases List.mem_cons.1 h with rfl | h
        · exact hk
        · exact Int.le_trans hk ((List.pairwise_cons.1 hd).1 b h)
    refine List.pairwise_append.2 ⟨ha.sublist (List.take_sublist k _), List.pairwise_cons.2 ⟨h2, ha.sublist (List.drop_sublist k _)⟩, fun a hA b hb => ?_⟩
    have := h1 a hA
    rcases List.mem_cons.1 hb with rfl | hb
    · show a.1 ≤ t; omega
    · have := h2 b hb; omega

structure ReS where
  k : Nat
  d : AtD
  seen : List Int
  a : AtL
  es : Array MapEntry
  mc : Nat
  mm : Value → Option Value
  E : List Ent
  K : List Ent
structure ReS.Good (y : ReS) (xs : List Int) : Prop where
  k : y.k ≤ xs.length
  dec : decD AtL.zero.d [] xs = decD y.d y.seen (xs.drop y.k)
  seen : SeenI y.d y.seen
  same : y.a.d = { y.d with others := sortO y.d.others }
  own : AtOwn y.K y.a
  oths : Vec 2 y.a.oad y.a.others.length y.a.oc (othsL y.a.others) y.E
  vals : ∀ o ∈ y.a.others, OthOwn y.K o
  map : IMap (KInt .i64) y.es y.mm
  com : (8 : Int) ∉ y.seen → y.a.cad = none ∧ y.a.cc = 0
  ol : y.a.others.length ≤ y.k
  known : ∀ t : Int, (y.mm (.int .i64 t)).getD (.bool false) = .bool (decide (t ∈ y.seen))
def wantL : List Value := [.int .i64 0, .int .i64 64, .int .i64 64, .int .i64 64, .int .i64 128, .int .i64 64, .int .i64 64, .int .i64 192, .int .i64 192]
def sizeL : List Value := [.int .i64 0, .int .i64 1, .int .i64 (-1), .int .i64 4, .int .i64 4, .int .i64 4, .int .i64 0, .int .i64 6, .int .i64 (-1)]
theorem fromN_4 {ys : List Int} (h : fOf ys 0 / 16 % 2 = 1) : fromN ys = 4 := by unfold fromN; rw [if_pos h]
theorem fromN_3 {ys : List Int} (h : ¬ fOf ys 0 / 16 % 2 = 1) : fromN ys = 3 := by unfold fromN; rw [if_neg h]
theorem toN_4 {ys : List Int} (h : fOf ys 0 / 16 % 2 = 1) : toN ys = 4 + (readI ((ys.drop 2).take 2)).toNat := by unfold toN; rw [fromN_4 h, List.drop_take]
theorem toN_3 {ys : List Int} (h : ¬ fOf ys 0 / 16 % 2 = 1) (hl : 3 ≤ ys.length) (h2 : 0 ≤ fOf ys 2) : toN ys = 3 + (fOf ys 2).toNat := by
  unfold toN
  rw [fromN_3 h]
  match ys, hl with
  | a :: b :: c :: zs, _ =>
    show 3 + (0 * 256 + c).toNat = 3 + (fOf (a :: b :: c :: zs) 2).toNat
    rw [show fOf (a :: b :: c :: zs) 2 = c from rfl]
    omega
theorem decD_fail {d : AtD} {seen xs : List Int} {f : Int × ByteArray} (h0 : 0 < xs.length) (h : ¬ (xs.length < fromN xs ∨ xs.length < toN xs ∨ fOf xs 1 ∈ seen)) (hs : stepD d (xs.take (toN xs)) ((xs.take (toN xs)).drop (fromN xs)) = .inr f) : decD d seen xs = .inr f := by
  rw [decD_step h0 h, hs]
theorem decD_go {d d' : AtD} {seen xs : List Int} (h0 : 0 < xs.length) (h : ¬ (xs.length < fromN xs ∨ xs.length < toN xs ∨ fOf xs 1 ∈ seen)) (hs : stepD d (xs.take (toN xs)) ((xs.take (toN xs)).drop (fromN xs)) = .inl d') : decD d seen xs = decD d' (fOf xs 1 :: seen) (xs.drop (toN xs)) := by
  rw [decD_step h0 h, hs]
abbrev badF (all : List Int) : Prop := fOf all 0 / 64 * 64 ≠ flagI (fOf all 1).toNat ∨ (fOf all 0 / 32 % 2 * 32 ≠ 0 ∧ fOf all 0 / 64 * 64 ≠ 192)
abbrev badZ (all v : List Int) : Prop := (0 ≤ sizeI (fOf all 1).toNat ∧ (v.length : Int) ≠ sizeI (fOf all 1).toNat) ∨ (fOf all 1 = 8 ∧ v.length % 4 ≠ 0)
theorem takeD_4 {d : AtD} {all v : List Int} (h : badF all) : takeD d all v = .inr (4, strOf all) := by unfold takeD; exact if_pos h
theorem takeD_5 {d : AtD} {all v : List Int} (h1 : ¬ badF all) (h2 : badZ all v) : takeD d all v = .inr (5, strOf all) := by unfold takeD; rw [if_neg h1]; exact if_pos h2
theorem takeD_9 {d : AtD} {all v : List Int} (h1 : ¬ badF all) (h2 : ¬ badZ all v) (h3 : fOf all 1 = 8 ∧ 256 < v.length / 4) : takeD d all v = .inr (9, strOf all) := by unfold takeD; rw [if_neg h1]; rw [if_neg h2]; exact if_pos h3
theorem takeD_11 {d : AtD} {all v : List Int} (h1 : ¬ badF all) (h2 : ¬ badZ all v) (ht : fOf all 1 = 2) (hp : partsR v = none) : takeD d all v = .inr (11, ⟨#[]⟩) := by
  unfold takeD
  rw [if_neg h1, if_neg h2, if_neg (by omega), ht]
  unfold partsR at hp
  show (match (pathR v).map (fun p => { d with path := p }) with | none => _ | some d' => _) = _
  cases hq : pathR v with
  | none => rfl
  | some p =>
    rw [hq] at hp
    have hb : p.all segBD = false := by
      cases hw : p.all segBD
      · rfl
      · rw [show (Option.bind (some p) fun p => if p.all segBD then some p else none) = if p.all segBD then some p else none from rfl, hw] at hp; cases hp
    exact if_pos ⟨rfl, hb⟩
theorem takeD_ok {d d' : AtD} {all v : List Int} (h1 : ¬ badF all) (h2 : ¬ badZ all v) (h3 : ¬ (fOf all 1 = 8 ∧ 256 < v.length / 4)) (hs : setD d (fOf all 1).toNat v = some d') (hp : fOf all 1 = 2 → d'.path.all segBD = true) (ho : fOf all 1 = 1 → wiB d'.origin 2 = true) (hh : fOf all 1 = 3 → hopB d'.hop = true) :
    takeD d all v = .inl { d' with has := d'.has + 2 ^ (fOf all 1).toNat } := by
  unfold takeD
  rw [if_neg h1, if_neg h2, if_neg h3, hs]
  show (if fOf all 1 = 2 ∧ d'.path.all segBD = false then _ else _) = _
  rw [if_neg (fun ⟨a, b⟩ => by rw [hp a] at b; cases b)]
  rw [if_neg (fun ⟨a, b⟩ => by rw [ho a] at b; cases b), if_neg (fun ⟨a, b⟩ => by rw [hh a] at b; cases b)]
theorem takeD_6 {d : AtD} {all v : List Int} (h1 : ¬ badF all) (h2 : ¬ badZ all v) (ht : fOf all 1 = 1) (ho : wiB (readI v) 2 = false) : takeD d all v = .inr (6, strOf all) := by
  unfold takeD
  rw [if_neg h1, if_neg h2, if_neg (by omega), ht]
  show (if _ ∧ _ then _ else if (1 : Int) = 1 ∧ wiB (readI v) 2 = false then _ else _) = _
  rw [if_neg (fun h => by cases h.1), if_pos ⟨rfl, ho⟩]
theorem takeD_8 {d : AtD} {all v : List Int} (h1 : ¬ badF all) (h2 : ¬ badZ all v) (ht : fOf all 1 = 3) (ho : hopB (readI v) = false) : takeD d all v = .inr (8, strOf all) := by
  unfold takeD
  rw [if_neg h1, if_neg h2, if_neg (by omega), ht]
  show (if _ ∧ _ then _ else if _ ∧ _ then _ else if (3 : Int) = 3 ∧ hopB (readI v) = false then _ else _) = _
  rw [if_neg (fun h => by cases h.1), if_neg (fun h => by cases h.1), if_pos ⟨rfl, ho⟩]
theorem stepD_k {d : AtD} {all v : List Int} (h : 1 ≤ fOf all 1 ∧ fOf all 1 ≤ 8) : stepD d all v = takeD d all v := if_pos h
theorem stepD_o {d : AtD} {all v : List Int} (h : ¬ (1 ≤ fOf all 1 ∧ fOf all 1 ≤ 8)) : stepD d all v = otherD d all v := if_neg h
theorem sizeL_get {t : Nat} (h1 : 1 ≤ t) (h8 : t ≤ 8) : sizeL[t]? = some (.int .i64 (sizeI t)) := by
  have : t = 1 ∨ t = 2 ∨ t = 3 ∨ t = 4 ∨ t = 5 ∨ t = 6 ∨ t = 7 ∨ t = 8 := by omega
  rcases this with rfl | rfl | rfl | rfl | rfl | rfl | rfl | rfl <;> rfl
theorem wantL_get {t : Nat} (h1 : 1 ≤ t) (h8 : t ≤ 8) : wantL[t]? = some (.int .i64 (flagI t)) := by
  have : t = 1 ∨ t = 2 ∨ t = 3 ∨ t = 4 ∨ t = 5 ∨ t = 6 ∨ t = 7 ∨ t = 8 := by omega
  rcases this with rfl | rfl | rfl | rfl | rfl | rfl | rfl | rfl <;> rfl
theorem Win.numk {w : World} {b o c : Nat} {xs : List Int} (h : Win w b o c xs) (lo hi : Nat) (hh : lo ≤ hi) (hl : hi ≤ xs.length) (h6 : hi - lo ≤ 6) : Calls Tryz.prog 116 #[.slice (some ⟨b, sAddr o lo c 1, none⟩) (hi - lo) (c - lo)] w fun e w' => e = .returned (.int .i64 (readI ((xs.take hi).drop lo))) ∧ Frm (fun _ => False) w w' := by
  have hl : ((xs.take hi).drop lo).length = hi - lo := by rw [List.length_drop, List.length_take]; omega
  have e := RNum_c w b (sAddr o lo c 1) (c - lo) ((xs.take hi).drop lo) ((h.take hi).drop lo) (by omega)
  rwa [hl] at e
theorem RParts_u (w : World) (b o cv : Nat) (v : List Int) (hW : Win w b o cv v) (hn : v.length ≤ 100000) :
    Calls Tryz.prog 118 #[.slice (some ⟨b, o, none⟩) v.length cv] w fun e w' => ∃ ss ad c E K ok, e = .returned (.tuple #[.slice ad ss.length c, .bool ok]) ∧ Vec 2 ad ss.length c (segsL ss) E ∧ (∀ s ∈ ss, SegOwn K s) ∧ St (fun _ => False) w w' (E ++ K) ∧
      (ok = false → partsR v = none) ∧ (ok = true → partsR v = some (ss.map segD)) :=
  (RParts_c w b o cv v hW hn).mono fun e w' h => by
    unfold PartsP at h
    cases hp : partsR v with
    | none =>
      rw [hp] at h
      exact ⟨[], none, 0, [], [], false, h.1, Vec.nil 2, (fun _ h => by cases h), (St.start _ _).ext h.2, fun _ => rfl, fun e => by cases e⟩
    | some ps =>
      rw [hp] at h
      obtain ⟨ss, ad, c, E, K, he, hd, hV, hK, hS⟩ := h
      exact ⟨ss, ad, c, E, K, true, he, hV, hK, hS, (fun e => by cases e), fun _ => by rw [hd]⟩
theorem partsR_some {v : List Int} {ps : List (Bool × List Int)} (h : partsR v = some ps) : pathR v = some ps ∧ ps.all segBD = true := by
  unfold partsR at h
  cases hq : pathR v with
  | none => rw [hq] at h; cases h
  | some p =>
    rw [hq] at h
    have h : (if p.all segBD then some p else none) = some ps := h
    split at h
    · cases h; exact ⟨rfl, by assumption⟩
    · cases h
theorem known_add {mm : Value → Option Value} {seen : List Int} {t : Int} (h : ∀ s : Int, (mm (.int .i64 s)).getD (.bool false) = .bool (decide (s ∈ seen))) (s : Int) :
    ((updM mm (.int .i64 t) (some (.bool true))) (.int .i64 s)).getD (.bool false) = .bool (decide (s ∈ t :: seen)) := by
  unfold updM
  by_cases e : s = t
  · subst e
    rw [if_pos rfl, decide_eq_true (List.mem_cons_self ..)]; rfl
  · rw [if_neg (fun h => by injection h with _ h; exact e h), h s]
    congr 1
    exact decide_eq_decide.2 ⟨fun h => List.mem_cons_of_mem _ h, fun h => (List.mem_cons.1 h).resolve_left e⟩
theorem oths_len (os : List OthL) : (othsL os).length = os.length * 2 := by
  induction os with
  | nil => rfl
  | cons o os ih => show (o.cells ++ othsL os).length = _; rw [List.length_append, ih, List.length_cons]; show 2 + _ = _; omega
theorem othsL_app (os ps : List OthL) : othsL (os ++ ps) = othsL os ++ othsL ps := List.flatMap_append
theorem rangeL {w : World} {b o : Nat} {xs ys : List Value} (h : w.rangeAt b o (xs ++ ys)) : w.rangeAt b o xs := fun j v hj => h j v (by rw [List.getElem?_append_left (List.getElem?_eq_some_iff.1 hj).1]; exact hj)
theorem rangeR {w : World} {b o : Nat} {xs ys : List Value} (h : w.rangeAt b o (xs ++ ys)) : w.rangeAt b (o + xs.length) ys := fun j v hj => by
  have := h (xs.length + j) v (by rw [List.getElem?_append_right (by omega)]; simpa using hj)
  rwa [show o + (xs.length + j) = o + xs.length + j by omega] at this
theorem badZ_len {all v : List Int} {t : Nat} (h : ¬ badZ all v) (ht : fOf all 1 = t) (h1 : 1 ≤ t) (h8 : t ≤ 8) : (t = 1 → v.length = 1) ∧ (t = 3 ∨ t = 4 ∨ t = 5 → v.length = 4) ∧ (t = 7 → v.length = 6) ∧ (t = 8 → v.length % 4 = 0) := by
  unfold badZ at h
  rw [ht, Int.toNat_natCast] at h
  have : t = 1 ∨ t = 2 ∨ t = 3 ∨ t = 4 ∨ t = 5 ∨ t = 6 ∨ t = 7 ∨ t = 8 := by omega
  have z1 : sizeI 1 = 1 := rfl
  have z3 : sizeI 3 = 4 := rfl
  have z4 : sizeI 4 = 4 := rfl
  have z5 : sizeI 5 = 4 := rfl
  have z7 : sizeI 7 = 6 := rfl
  rcases this with rfl | rfl | rfl | rfl | rfl | rfl | rfl | rfl <;> (try simp only [z1, z3, z4, z5, z7] at h) <;> omega
theorem readI_one {v : List Int} (h : v.length = 1) : fOf v 0 = readI v := by
  match v, h with
  | [x], _ => show x = 0 * 256 + x; omega
theorem oths_one (os : List OthL) : (othsL os).all one = true := by
  induction os with
  | nil => rfl
  | cons o os ih => show (o.cells ++ othsL os).all one = true; rw [List.all_append, ih]; rfl
theorem AtOwn.oth {K : List Ent} {a : AtL} (h : AtOwn K a) (ad : Option Addr) (c : Nat) (os : List OthL) : AtOwn K { a with oad := ad, oc := c, others := os } := ⟨h.path, h.segs, h.comms⟩
section
variable {P : Program} {ops : Array Oper} {Q : Exit → Act → World → Prop} {n : Nat} {p : Nat → Prop} {w0 : World} {o : Oper} {l : Kn} {L : List Ent}
def loAdS (ad : Option Addr) (lo cap s : Nat) : Option Addr := ad.map fun a => ⟨a.block, sAddr a.off lo cap s, a.spot⟩
theorem v_slice_loN {C : World → Prop} {t e len cap lo s : Nat} {k : IntKind} {A : Int} {ad : Option Addr} {x xl : Operand} (ho : o.op = .slice t x (some xl) none none) (hx : ev l x = some (.slice ad len cap)) (hl : ev l xl = some (.int k A)) (hu : P.underlying t = some (.slice e)) (hs : (P.info? e).map (·.size) = some s) (hA : A = (lo : Int)) (hle : lo ≤ len)
    (had : ad = none ∨ ∃ b o, ad = some ⟨b, o, none⟩) : Val P C n l o (.slice (loAdS ad lo cap s) (len - lo) (cap - lo)) := by
  rcases had with rfl | ⟨b, off, rfl⟩
  · intro a w ha _
    have h1 := ha.ev hx; have h2 := ha.ev hl
    subst hA
    have hi : (0 : Int) ≤ lo ∧ (lo : Int) ≤ len := by omega
    unfold execOp
    simp [ho, h1, h2, Instr.sliceAt, run_underlying hu, Instr.slice, Instr.sliceBounds, Instr.sliceBound, asIntOf, hle, run_sizeOf hs, loAdS]
  · exact v_slice_lo ho hx hl hu hs hA hle
end
theorem Vec.cellsAt {ad : Option Addr} {c : Nat} {xs : List Int} {E : List Ent} (hV : BV ad c xs E) {w : World} (hw : ∀ e ∈ E, e.holds w) : CellsAt w ad (u8s xs) := fun hn => by
  obtain ⟨b, o, e, hr⟩ := Vec.src2 hV hn
  exact ⟨b, o, e, hr w hw⟩
theorem Vec.ad {s k c : Nat} {ad : Option Addr} {xs : List Value} {E : List Ent} (h : Vec s ad k c xs E) : ad = none ∨ ∃ b o, ad = some ⟨b, o, none⟩ := by
  rcases h with ⟨h, _⟩ | ⟨g, _, h, _⟩
  · exact .inl h
  · exact .inr ⟨g, 0, h⟩

def RDecP (w w' : World) (xs : List Int) (e : Ending) : Prop :=
  match decD AtL.zero.d [] xs with
  | .inr (s, d) => e = .returned (.tuple #[.agg AtL.zero.rcells.toArray, .agg (fltL 3 s d).toArray]) ∧ Frm (fun _ => False) w w'
  | .inl d => ∃ a K, e = .returned (.tuple #[.agg a.rcells.toArray, .agg (fltL 0 0 ⟨#[]⟩).toArray]) ∧ a.d = { d with others := sortO d.others } ∧ AtAll K a ∧ St (fun _ => False) w w' K
theorem RDecP.no {w w' : World} {xs : List Int} {s : Int} {d : ByteArray} {L : List Ent} (h : decD AtL.zero.d [] xs = .inr (s, d)) (hS : St (fun _ => False) w w' L) : RDecP w w' xs (.returned (.tuple #[.agg AtL.zero.rcells.toArray, .agg (fltL 3 s d).toArray])) := by
  unfold RDecP
  rw [h]
  exact ⟨rfl, hS.frm⟩
theorem sortO_nil : sortO [] = [] := by unfold sortO; exact List.mergeSort_nil
theorem sorted_zero : AtL.zero.d = { AtL.zero.d with others := sortO AtL.zero.d.others } := by
  rw [show AtL.zero.d.others = [] from rfl, sortO_nil]; rfl
set_option maxHeartbeats 8000000 in
theorem RDec06_c (w : World) (b o cv : Nat) (xs : List Int) (hW : Win w b o cv xs) (hn : xs.length ≤ 90000) :
    Calls Tryz.prog 93 #[.slice (some ⟨b, o, none⟩) xs.length cv] w fun e w' => RDecP w w' xs e := by
  have hle := hW.le
  refine enter Tryz.func93 rfl Tryz.ntmps93 rfl (St.start (fun _ => False) w) ?_
  refine cR <| WL.alloc rfl zero_119 (.none rfl) rfl rfl <| ?_
  intro g2 hg2
  refine WL.alloc rfl zero_120 (.none rfl) rfl rfl ?_
  intro g3 hg3
  refine zR <| zV (v_build rfl rfl zero_119 plc_119 rfl) rfl <| WL.alloc rfl zero_119 (.none rfl) rfl rfl <| ?_
  intro g4 hg4
  refine zW many_119 rfl rfl <| zR <| zB Tryz.underlying32 sz_3 zero_3 rfl rfl <| ?_
  intro g22 hg22
  refine zA rfl <| zR <| zB Tryz.underlying32 sz_3 zero_3 rfl rfl <| ?_
  intro g23 hg23
  refine zA rfl <| zR <| WL.makeMap rfl (.none rfl) rfl rfl <| ?_
  intro g24 hg24
  refine WL.as (L' := .obj g24 (.map #[] 0) :: .row g23 sizeL :: .row g22 wantL :: .row g4 AtL.zero.rcells :: .row g3 (fltL 0 0 ⟨#[]⟩) :: [.row g2 AtL.zero.rcells]) rfl <| zA rfl <| zR <| zA rfl <| zN <| cS <| cB <| ?_
  refine WC.loop (fun y : ReS => [(8, .int .i64 y.k), (7, .map (some g24)), (6, .slice (some ⟨g23, 0, none⟩) 9 9), (5, .slice (some ⟨g22, 0, none⟩) 9 9), (4, .pointer (some ⟨g4, 0, none⟩)), (3, .pointer (some ⟨g3, 0, none⟩)), (2, .pointer (some ⟨g2, 0, none⟩)), (0, .slice (some ⟨b, o, none⟩) xs.length cv)]) (fun y => y.E ++ (y.K ++ (.obj g24 (.map y.es y.mc) :: .row g23 sizeL :: .row g22 wantL :: .row g4 y.a.rcells :: .row g3 (fltL 0 0 ⟨#[]⟩) :: [.row g2 AtL.zero.rcells]))) (fun y => y.Good xs) (fun y => xs.length - y.k) ⟨0, AtL.zero.d, [], .zero, #[], 0, fun _ => none, [], []⟩ ⟨Nat.zero_le _, by dsimp only; rw [List.drop_zero], SeenI.zero, sorted_zero, ⟨⟨[], Vec.nil 2, fun _ h => by cases h⟩, (fun _ h => by cases h), ⟨[], Vec.nil 1, fun _ h => by cases h⟩⟩, Vec.nil 2, (fun _ h => by cases h), IMap.empty _, fun _ => ⟨rfl, rfl⟩, Nat.zero_le _, fun t => by simp⟩ (.cons rfl (.cons rfl (.cons rfl (.cons rfl (.cons rfl (.cons rfl (.cons rfl (.cons rfl .nil)))))))) (.refl _) ?_
  rintro ⟨k, d, seen, a, es, mc, mm, E, K⟩ hg
  obtain ⟨hk, hdec, hseen, hsame, hown, hoths, hvals, hmap, hcom, hol, hknown⟩ := hg
  dsimp only at hk hdec hseen hsame hown hoths hvals hmap hcom hol hknown
  dsimp only
  refine cS <| cR <| zM rfl <| zM rfl <| zV (v_len_slice rfl rfl Tryz.underlying25) rfl <| ?_
  refine zT (v_lss rfl rfl rfl) rfl (fun h28 => ?_) (fun h28 => ?_)
  refine zN <| cT rfl <| cK <| eN <| cB <| cR <| zA rfl <| zN <| ?_
  refine WC.cut (fun _ : Unit => [(9, .int .i64 (toN (xs.drop k))), (8, .int .i64 k), (7, .map (some g24)), (6, .slice (some ⟨g23, 0, none⟩) 9 9), (5, .slice (some ⟨g22, 0, none⟩) 9 9), (4, .pointer (some ⟨g4, 0, none⟩)), (3, .pointer (some ⟨g3, 0, none⟩)), (2, .pointer (some ⟨g2, 0, none⟩)), (0, .slice (some ⟨b, o, none⟩) xs.length cv)]) (fun _ => E ++ (K ++ (.obj g24 (.map es mc) :: .row g23 sizeL :: .row g22 wantL :: .row g4 a.rcells :: .row g3 (fltL 0 0 ⟨#[]⟩) :: [.row g2 AtL.zero.rcells]))) (fun _ => fromN (xs.drop k) ≤ (xs.drop k).length ∧ toN (xs.drop k) ≤ 70000) ?_ ?_
  refine cR ?_
  have hdl : (xs.drop k).length = xs.length - k := List.length_drop ..
  have hBy : Bys (xs.drop k) := fun y hy => hW.bys y (List.mem_of_mem_drop hy)
  have hb0 := fOf_b hBy 0
  have hb2 := fOf_b hBy 2
  refine zM rfl <| zM rfl <| ?_
  refine zV (v_indexAddr (lo := k) rfl rfl rfl Tryz.underlying25 sz_5 (by omega) (by omega)) rfl ?_
  refine zV (v_load1 rfl rfl one_5 (cellOld (fun h => h) (hW.get (x := fOf (xs.drop k) 0) (by have := fOf_get (xs := xs.drop k) (i := 0) (by omega); rw [List.getElem?_drop] at this; exact this)))) rfl ?_
  refine zV (v_conv rfl rfl Tryz.underlying3 Tryz.underlying5 (w_i64 (by omega) (by omega))) rfl ?_
  refine zV (v_quo rfl rfl rfl (by omega) (by omega) (w_i64 (by omega) (by omega))) rfl ?_
  refine zV (v_rem rfl rfl rfl (by omega) (by omega)) rfl ?_
  refine zT (v_eql rfl rfl rfl) rfl (fun h36 => ?_) (fun h36 => ?_)
  refine zN <| cT rfl <| cS <| cR <| zM rfl <| ?_
  refine zV (v_add rfl rfl rfl (w_i64 (by omega) (by omega))) rfl ?_
  refine zM rfl <| zV (v_len_slice rfl rfl Tryz.underlying25) rfl <| ?_
  refine zT (v_gtr rfl rfl rfl) rfl (fun h41 => ?_) (fun h41 => ?_)
  refine zN <| cT rfl <| cR <| zV (v_build rfl rfl zero_119 plc_119 rfl) rfl <| zV (v_build rfl rfl zero_120 plc_120 rfl) rfl <| zW many_119 rfl rfl <| zW many_120 rfl rfl <| zN <| cE <| eR <| eR <| eB <| eR <| ?_
  refine eB <| eR <| WE.ret2 (P := Tryz.prog) (.inl rfl) Tryz.results93 (resRow rfl many_119 rfl) (resRow rfl many_120 rfl) <| ?_
  have e0 : decD AtL.zero.d [] xs = .inr (1, ⟨#[]⟩) := (by rw [hdec]; exact decD_bad (by omega) (.inl (by rw [fromN_4 h36]; omega)))
  exact fun w' h => RDecP.no e0 h
  refine zN <| cF rfl <| cK <| eN <| WC.region <| zM rfl <| zM rfl <| ?_
  refine zV (v_add rfl rfl rfl (show _ = ((k + 2 : Nat) : Int) from (w_i64 (by omega) (by omega)).trans (by omega))) rfl ?_
  refine zM rfl ?_
  refine zV (v_add rfl rfl rfl (show _ = ((k + 2 + 2 : Nat) : Int) from (w_i64 (by omega) (by omega)).trans (by omega))) rfl ?_
  have hrd := readI2 (v := (xs.drop (k + 2)).take 2) (fun y hy => hW.bys y (List.mem_of_mem_drop (List.mem_of_mem_take hy))) (by rw [List.length_take, List.length_drop]; omega)
  have hto := toN_4 h36
  rw [List.drop_drop] at hto
  refine zV ((v_slice_lh (lo := k + 2) (hi := k + 2 + 2) rfl rfl rfl rfl Tryz.underlying25 sz_5 rfl rfl (by omega) (by omega))) rfl ?_
  refine zK ck_116 rfl ?_
  intro w hS
  refine Calls.then ((hW.st hS).numd (k + 2) (by omega)) hS ?_
  refine zV (v_add rfl rfl rfl (w_i64 (by omega) (by omega))) rfl ?_
  refine zA rfl <| WL.nil <| ?_
  exact WE.mid () ⟨by rw [fromN_4 h36]; omega, by rw [hto]; omega⟩ (.int rfl (by rw [hto]; omega) (.cons rfl (.cons rfl (.cons rfl (.cons rfl (.cons rfl (.cons rfl (.cons rfl (.cons rfl .nil))))))))) (.refl _)
  refine zN <| cF rfl <| cS <| cR <| zM rfl <| ?_
  refine zV (v_add rfl rfl rfl (w_i64 (by omega) (by omega))) rfl ?_
  refine zM rfl <| zV (v_len_slice rfl rfl Tryz.underlying25) rfl <| ?_
  refine zT (v_gtr rfl rfl rfl) rfl (fun h56 => ?_) (fun h56 => ?_)
  refine zN <| cT rfl <| cR <| zV (v_build rfl rfl zero_119 plc_119 rfl) rfl <| zV (v_build rfl rfl zero_120 plc_120 rfl) rfl <| zW many_119 rfl rfl <| zW many_120 rfl rfl <| zN <| cE <| eR <| eR <| eB <| eR <| ?_
  refine eB <| eR <| WE.ret2 (P := Tryz.prog) (.inl rfl) Tryz.results93 (resRow rfl many_119 rfl) (resRow rfl many_120 rfl) <| ?_
  have e0 : decD AtL.zero.d [] xs = .inr (1, ⟨#[]⟩) := (by rw [hdec]; exact decD_bad (by omega) (.inl (by rw [fromN_3 h36]; omega)))
  exact fun w' h => RDecP.no e0 h
  refine zN <| cF rfl <| cK <| eN <| WC.region <| zM rfl <| zM rfl <| ?_
  refine zV (v_add rfl rfl rfl (w_i64 (by omega) (by omega))) rfl ?_
  have hto := toN_3 h36 (by omega) hb2.1
  refine zV (v_indexAddr (lo := k + 2) rfl rfl rfl Tryz.underlying25 sz_5 (by omega) (by omega)) rfl ?_
  refine zV (v_load1 rfl rfl one_5 (cellOld (fun h => h) (hW.get (x := fOf (xs.drop k) 2) (by have := fOf_get (xs := xs.drop k) (i := 2) (by omega); rw [List.getElem?_drop] at this; exact this)))) rfl ?_
  refine zV (v_conv rfl rfl Tryz.underlying3 Tryz.underlying5 (w_i64 (by omega) (by omega))) rfl ?_
  refine zV (v_add rfl rfl rfl (w_i64 (by omega) (by omega))) rfl ?_
  refine zA rfl <| WL.nil <| ?_
  exact WE.mid () ⟨by rw [fromN_3 h36]; omega, by rw [hto]; omega⟩ (.int rfl (by rw [hto]; omega) (.cons rfl (.cons rfl (.cons rfl (.cons rfl (.cons rfl (.cons rfl (.cons rfl (.cons rfl .nil))))))))) (.refl _)
  rintro _ ⟨hfr, hto7⟩
  have hdl : (xs.drop k).length = xs.length - k := List.length_drop ..
  have hBy : Bys (xs.drop k) := fun y hy => hW.bys y (List.mem_of_mem_drop hy)
  have hf34 := fromN_b (xs.drop k)
  have htge := toN_ge (xs.drop k)
  obtain ⟨al, hal⟩ : ∃ al, al = (xs.drop k).take (toN (xs.drop k)) := ⟨_, rfl⟩
  have hWa : Win w b (sAddr o k cv 1) (cv - k) al := (by rw [hal]; exact (hW.drop k).take _)
  refine cS <| cR <| zM rfl <| zM rfl <| ?_
  refine zV (v_add rfl rfl rfl (w_i64 (by omega) (by omega))) rfl ?_
  refine zM rfl <| zV (v_len_slice rfl rfl Tryz.underlying25) rfl <| ?_
  refine zT (v_gtr rfl rfl rfl) rfl (fun h71 => ?_) (fun h71 => ?_)
  refine zN <| cT rfl <| cR <| zV (v_build rfl rfl zero_119 plc_119 rfl) rfl <| zV (v_build rfl rfl zero_120 plc_120 rfl) rfl <| zW many_119 rfl rfl <| zW many_120 rfl rfl <| zN <| cE <| eR <| eB <| eR <| eB <| ?_
  refine eR <| WE.ret2 (P := Tryz.prog) (.inl rfl) Tryz.results93 (resRow rfl many_119 rfl) (resRow rfl many_120 rfl) <| ?_
  have e0 : decD AtL.zero.d [] xs = .inr (1, ⟨#[]⟩) := (by rw [hdec]; exact decD_bad (by omega) (.inr (.inl (by omega))))
  exact fun w' h => RDecP.no e0 h
  refine zN <| cF rfl <| cK <| eN <| cR <| zM rfl <| zM rfl <| zM rfl <| zM rfl <| ?_
  refine zV (v_add rfl rfl rfl (show _ = ((k + toN (xs.drop k) : Nat) : Int) from (w_i64 (by omega) (by omega)).trans (by omega))) rfl ?_
  refine zV ((v_slice_lh (lo := k) (hi := k + toN (xs.drop k)) rfl rfl rfl rfl Tryz.underlying25 sz_5 rfl rfl (by omega) (by omega))) rfl ?_
  have hall : al.length = toN (xs.drop k) := (by rw [hal, List.length_take]; omega)
  have ha0 := fOf_b hWa.bys 0
  have ha1 := fOf_b hWa.bys 1
  have ef0 : fOf al 0 = fOf (xs.drop k) 0 := (by rw [hal]; unfold fOf; rw [List.getD_eq_getElem?_getD, List.getD_eq_getElem?_getD, List.getElem?_take, if_pos (by omega)])
  have ef1 : fOf al 1 = fOf (xs.drop k) 1 := (by rw [hal]; unfold fOf; rw [List.getD_eq_getElem?_getD, List.getD_eq_getElem?_getD, List.getElem?_take, if_pos (by omega)])
  rw [show k + toN (xs.drop k) - k = al.length by omega]
  refine zA rfl <| zR <| zM rfl <| ?_
  refine zV (v_indexAddr (lo := 0) rfl rfl rfl Tryz.underlying25 sz_5 rfl (by omega)) rfl ?_
  refine zV (v_load1 rfl rfl one_5 (cellOld (fun h => h) (hWa.get (fOf_get (by omega))))) rfl ?_
  refine zV (v_conv rfl rfl Tryz.underlying3 Tryz.underlying5 (w_i64 (by omega) (by omega))) rfl ?_
  refine zV (v_quo rfl rfl rfl (by omega) (by omega) (w_i64 (by omega) (by omega))) rfl ?_
  refine zV (v_mul rfl rfl rfl (w_i64 (by omega) (by omega))) rfl ?_
  refine zA rfl <| zR <| zM rfl <| ?_
  refine zV (v_indexAddr (lo := 1) rfl rfl rfl Tryz.underlying25 sz_5 rfl (by omega)) rfl ?_
  refine zV (v_load1 rfl rfl one_5 (cellOld (fun h => h) (hWa.get (fOf_get (by omega))))) rfl ?_
  refine zV (v_conv rfl rfl Tryz.underlying3 Tryz.underlying5 (w_i64 (by omega) (by omega))) rfl ?_
  refine zA rfl <| zR <| zM rfl <| ?_
  refine zV ((v_slice_lo (lo := 3) rfl rfl rfl Tryz.underlying25 sz_5 rfl (by omega))) rfl ?_
  refine zA rfl <| zN <| ?_
  refine WC.cut (fun _ : Unit => [(13, .slice (some ⟨b, sAddr (sAddr o k cv 1) (fromN (xs.drop k)) (cv - k) 1, none⟩) (al.length - fromN (xs.drop k)) (cv - k - fromN (xs.drop k))), (12, .int .i64 (fOf al 1)), (11, .int .i64 (fOf al 0 / 32 * 32)), (10, .slice (some ⟨b, sAddr o k cv 1, none⟩) al.length (cv - k)), (9, .int .i64 (toN (xs.drop k))), (8, .int .i64 k), (7, .map (some g24)), (6, .slice (some ⟨g23, 0, none⟩) 9 9), (5, .slice (some ⟨g22, 0, none⟩) 9 9), (4, .pointer (some ⟨g4, 0, none⟩)), (3, .pointer (some ⟨g3, 0, none⟩)), (2, .pointer (some ⟨g2, 0, none⟩)), (0, .slice (some ⟨b, o, none⟩) xs.length cv)]) (fun _ => E ++ (K ++ (.obj g24 (.map es mc) :: .row g23 sizeL :: .row g22 wantL :: .row g4 a.rcells :: .row g3 (fltL 0 0 ⟨#[]⟩) :: [.row g2 AtL.zero.rcells]))) (fun _ => al.length = toN (xs.drop k) ∧ toN (xs.drop k) ≤ (xs.drop k).length ∧ fOf al 0 = fOf (xs.drop k) 0 ∧ fOf al 1 = fOf (xs.drop k) 1) ?_ ?_
  refine cR <| zM rfl <| ?_
  refine zV (v_indexAddr (lo := 0) rfl rfl rfl Tryz.underlying25 sz_5 rfl (by omega)) rfl ?_
  refine zV (v_load1 rfl rfl one_5 (cellOld (fun h => h) (hWa.get (fOf_get (by omega))))) rfl ?_
  refine zV (v_conv rfl rfl Tryz.underlying3 Tryz.underlying5 (w_i64 (by omega) (by omega))) rfl ?_
  refine zV (v_quo rfl rfl rfl (by omega) (by omega) (w_i64 (by omega) (by omega))) rfl ?_
  refine zV (v_rem rfl rfl rfl (by omega) (by omega)) rfl ?_
  refine zT (v_eql rfl rfl rfl) rfl (fun h98 => ?_) (fun h98 => ?_)
  refine zN <| cT rfl <| WC.region <| ?_
  have hfr4 := fromN_4 (ys := xs.drop k) (by omega)
  refine zM rfl ?_
  refine zV ((v_slice_lo (lo := 4) rfl rfl rfl Tryz.underlying25 sz_5 rfl (by omega))) rfl ?_
  refine zA rfl <| WL.nil <| ?_
  exact WE.mid () ⟨hall, by omega, ef0, ef1⟩ (.eq rfl (by rw [hfr4]) (.cons rfl (.int rfl (by omega) (.cons rfl (.cons rfl (.cons rfl (.cons rfl (.cons rfl (.cons rfl (.cons rfl (.cons rfl (.cons rfl (.cons rfl .nil))))))))))))) (.refl _)
  refine zN <| cF rfl <| cK <| ?_
  exact WE.mid () ⟨hall, by omega, ef0, ef1⟩ (.eq rfl (by rw [fromN_3 (ys := xs.drop k) (by omega)]) (.cons rfl (.int rfl (by omega) (.cons rfl (.cons rfl (.cons rfl (.cons rfl (.cons rfl (.cons rfl (.cons rfl (.cons rfl (.cons rfl (.cons rfl .nil))))))))))))) (.refl _)
  rintro _ ⟨hall, htl, ef0, ef1⟩
  have hdl : (xs.drop k).length = xs.length - k := List.length_drop ..
  have hBy : Bys (xs.drop k) := fun y hy => hW.bys y (List.mem_of_mem_drop hy)
  have hf34 := fromN_b (xs.drop k)
  have htge := toN_ge (xs.drop k)
  have ha0 := fOf_b hWa.bys 0
  have ha1 := fOf_b hWa.bys 1
  obtain ⟨vl, hvl⟩ : ∃ vl, vl = al.drop (fromN (xs.drop k)) := ⟨_, rfl⟩
  have hWv : Win w b (sAddr (sAddr o k cv 1) (fromN (xs.drop k)) (cv - k) 1) (cv - k - fromN (xs.drop k)) vl := (by rw [hvl]; exact hWa.drop _)
  have hvlen : al.length - fromN (xs.drop k) = vl.length := (by rw [hvl, List.length_drop])
  rw [hvlen]
  generalize sAddr (sAddr o k cv 1) (fromN (xs.drop k)) (cv - k) 1 = vo at hWv ⊢
  generalize cv - k - fromN (xs.drop k) = vc at hWv ⊢
  have hvb := hWv.le
  have hah : a.has = d.has := (by have := congrArg AtD.has hsame; exact this)
  have hos : a.others.map othD = sortO d.others := (by have := congrArg AtD.others hsame; exact this)
  refine cR <| zM rfl <| zM rfl <| ?_
  refine zV (v_add rfl rfl rfl (show _ = ((k + toN (xs.drop k) : Nat) : Int) from (w_i64 (by omega) (by omega)).trans (by omega))) rfl ?_
  refine zA rfl <| zN <| cS <| cR <| zM rfl <| zM rfl <| ?_
  refine zV ((v_lookup (z := .bool false) rfl rfl rfl Tryz.underlying200 (keyI Tryz.underlying3) (KInt.mk _ _) (by kernel_rfl) (mapBlk (c := mc) g24 (List.mem_append_right _ (List.mem_append_right _ (.head _)))) hmap).eq (hknown _)) rfl ?_
  refine zN ?_
  refine WC.cond_d rfl (fun h106 => ?_) (fun h106 => ?_)
  refine cR <| zV (v_build rfl rfl zero_119 plc_119 rfl) rfl <| zV (v_build rfl rfl zero_120 plc_120 rfl) rfl <| zW many_119 rfl rfl <| zW many_120 rfl rfl <| zN <| cE <| eR <| eB <| eR <| eB <| eR <| WE.ret2 (P := Tryz.prog) (.inl rfl) Tryz.results93 (resRow rfl many_119 rfl) (resRow rfl many_120 rfl) <| ?_
  have e0 : decD AtL.zero.d [] xs = .inr (1, ⟨#[]⟩) := (by rw [hdec]; exact decD_bad (by omega) (.inr (.inr (by rw [← ef1]; exact h106))))
  exact fun w' h => RDecP.no e0 h
  refine cK <| eN <| cR <| zM rfl <| zM rfl <| WL.mapUpdate rfl rfl rfl rfl Tryz.underlying200 (keyI Tryz.underlying3) (KInt.mk _ _) (hmap) (.none rfl) rfl <| ?_
  intro esU cU hMU hsU
  have hnsx : ¬ ((xs.drop k).length < fromN (xs.drop k) ∨ (xs.drop k).length < toN (xs.drop k) ∨ fOf (xs.drop k) 1 ∈ seen) := (by rintro (h | h | h) <;> first | omega | exact h106 (by rw [ef1]; exact h))
  refine zN ?_
  refine WC.cut (fun z : Nat × Array MapEntry × Nat => [(13, .slice (some ⟨b, vo, none⟩) vl.length vc), (12, .int .i64 z.1), (11, .int .i64 (fOf al 0 / 32 * 32)), (10, .slice (some ⟨b, sAddr o k cv 1, none⟩) al.length (cv - k)), (8, .int .i64 ((k + toN (xs.drop k) : Nat) : Int)), (7, .map (some g24)), (6, .slice (some ⟨g23, 0, none⟩) 9 9), (5, .slice (some ⟨g22, 0, none⟩) 9 9), (4, .pointer (some ⟨g4, 0, none⟩)), (3, .pointer (some ⟨g3, 0, none⟩)), (2, .pointer (some ⟨g2, 0, none⟩)), (0, .slice (some ⟨b, o, none⟩) xs.length cv)]) (fun z => E ++ (K ++ (.obj g24 (.map z.2.1 z.2.2) :: .row g23 sizeL :: .row g22 wantL :: .row g4 (AtL.rcells a) :: .row g3 (fltL 0 0 ⟨#[]⟩) :: [.row g2 AtL.zero.rcells]))) (fun z => fOf al 1 = z.1 ∧ 1 ≤ z.1 ∧ z.1 ≤ 8 ∧ fOf al 1 ∉ seen ∧ IMap (KInt .i64) z.2.1 (updM mm (.int .i64 (fOf al 1)) (some (.bool true)))) ?_ ?_
  refine cR <| zM rfl <| zK ck_117 rfl <| ?_
  intro w hS
  refine Calls.then (RIn_c _ (fOf al 1) 1 8) hS ?_
  generalize hq : decide (1 ≤ fOf al 1 ∧ fOf al 1 ≤ 8) = b112
  cases b112
  refine zV (v_not rfl rfl rfl) rfl <| zN <| cT rfl <| cS <| cR <| zM rfl <| ?_
  have hun : ¬ (1 ≤ fOf al 1 ∧ fOf al 1 ≤ 8) := of_decide_eq_false hq
  refine zT (v_lss rfl rfl rfl) rfl (fun h115 => ?_) (fun h115 => ?_)
  refine zN <| cT rfl <| cS <| WC.orders mixed <| rF 4 [0, 1] <| pV (v_build rfl rfl zero_119 plc_119 rfl) rfl <| pV (v_move rfl rfl) rfl <| WP.nil <| ?_
  refine WR.each (g := 3) [2, 4] (by kernel_rfl) (by decide) ?_
  refine ⟨?_, ?_⟩
  refine zV (v_convBS (fOf al) rfl rfl Tryz.underlying25 Tryz.underlying5 Tryz.underlying9 (fun w' hS' _ => ⟨b, sAddr o k cv 1, rfl, rd_u8s (hWa.st hS').at_⟩)) rfl <| zH <| rF 2 [3] <| pV (v_build rfl rfl zero_120 plc_120 rfl) rfl <| WP.nil <| rO 0 [4, 5] <| zW many_119 rfl rfl <| zW many_120 rfl rfl <| zH <| rD <| eN <| cE <| eR <| eR <| ?_
  refine eB <| eR <| eB <| eR <| WE.ret2 (P := Tryz.prog) (.inl rfl) Tryz.results93 (resRow rfl many_119 rfl) (resRow rfl many_120 rfl) <| ?_
  have e0 : decD AtL.zero.d [] xs = .inr (2, strOf al) := (by rw [hdec]; exact decD_fail (by omega) hnsx (by rw [← hal, ← hvl]; rw [stepD_o hun]; unfold otherD; rw [if_pos (by omega)]))
  exact fun w' h => RDecP.no e0 h
  refine zW many_119 rfl rfl <| zH <| rA 1 [2, 3] rfl <| qV (v_convBS (fOf al) rfl rfl Tryz.underlying25 Tryz.underlying5 Tryz.underlying9 (fun w' hS' _ => ⟨b, sAddr o k cv 1, rfl, rd_u8s (hWa.st hS').at_⟩)) rfl <| qV (v_build rfl rfl zero_120 plc_120 rfl) rfl <| WQ.nilR <| rO 0 [5] <| zW many_120 rfl rfl <| zH <| rD <| eN <| cE <| eR <| eR <| ?_
  refine eB <| eR <| eB <| eR <| WE.ret2 (P := Tryz.prog) (.inl rfl) Tryz.results93 (resRow rfl many_119 rfl) (resRow rfl many_120 rfl) <| ?_
  have e0 : decD AtL.zero.d [] xs = .inr (2, strOf al) := (by rw [hdec]; exact decD_fail (by omega) hnsx (by rw [← hal, ← hvl]; rw [stepD_o hun]; unfold otherD; rw [if_pos (by omega)]))
  exact fun w' h => RDecP.no e0 h
  refine zN <| cF rfl <| cK <| eN <| cS <| cR <| zM rfl <| ?_
  refine zT (v_geq rfl rfl rfl) rfl (fun h121 => ?_) (fun h121 => ?_)
  refine zM rfl <| zS (v_move rfl rfl) rfl <| ?_
  refine WL.test (v_neq rfl rfl rfl) (.some rfl rfl rfl) rfl rfl (fun h124 => ?_) (fun h124 => ?_)
  refine zP rfl <| zN <| cT rfl <| cR <| zA rfl <| zN <| ?_
  refine WC.cut (fun j : Nat => [(14, .int .i64 j), (13, .slice (some ⟨b, vo, none⟩) vl.length vc), (12, .int .i64 (fOf al 1)), (8, .int .i64 ((k + toN (xs.drop k) : Nat) : Int)), (7, .map (some g24)), (6, .slice (some ⟨g23, 0, none⟩) 9 9), (5, .slice (some ⟨g22, 0, none⟩) 9 9), (4, .pointer (some ⟨g4, 0, none⟩)), (3, .pointer (some ⟨g3, 0, none⟩)), (2, .pointer (some ⟨g2, 0, none⟩)), (0, .slice (some ⟨b, o, none⟩) xs.length cv)]) (fun _ => E ++ (K ++ (.obj g24 (.map esU cU) :: .row g23 sizeL :: .row g22 wantL :: .row g4 (AtL.rcells a) :: .row g3 (fltL 0 0 ⟨#[]⟩) :: [.row g2 AtL.zero.rcells]))) (fun j => j ≤ a.others.length ∧ (∀ i x, i < j → a.others[i]? = some x → x.ty < fOf al 1) ∧ ∀ x, a.others[j]? = some x → fOf al 1 ≤ x.ty) ?_ ?_
  refine cB ?_
  refine WC.loop (fun j : Nat => [(14, .int .i64 j), (13, .slice (some ⟨b, vo, none⟩) vl.length vc), (12, .int .i64 (fOf al 1)), (8, .int .i64 ((k + toN (xs.drop k) : Nat) : Int)), (7, .map (some g24)), (6, .slice (some ⟨g23, 0, none⟩) 9 9), (5, .slice (some ⟨g22, 0, none⟩) 9 9), (4, .pointer (some ⟨g4, 0, none⟩)), (3, .pointer (some ⟨g3, 0, none⟩)), (2, .pointer (some ⟨g2, 0, none⟩)), (0, .slice (some ⟨b, o, none⟩) xs.length cv)]) (fun _ => E ++ (K ++ (.obj g24 (.map esU cU) :: .row g23 sizeL :: .row g22 wantL :: .row g4 (AtL.rcells a) :: .row g3 (fltL 0 0 ⟨#[]⟩) :: [.row g2 AtL.zero.rcells]))) (fun j => j ≤ a.others.length ∧ ∀ i x, i < j → a.others[i]? = some x → x.ty < fOf al 1) (fun j => a.others.length - j) 0 ⟨Nat.zero_le _, fun i x h => by omega⟩ (.cons rfl (.cons rfl (.cons rfl (.cons rfl (.cons rfl (.cons rfl (.cons rfl (.cons rfl (.cons rfl (.cons rfl (.cons rfl .nil))))))))))) (.refl _) ?_
  rintro j ⟨hj, hlt⟩
  refine cS <| cR <| zM rfl <| zF rfl fld_119_9 <| zL rfl one_117 rfl <| zV (v_len_slice rfl rfl Tryz.underlying117) rfl <| ?_
  refine zT (v_lss rfl rfl rfl) rfl (fun h130 => ?_) (fun h130 => ?_)
  refine zM rfl <| zS (v_fieldAddr0 rfl rfl fld_119_9) rfl <| zS (v_load1 rfl rfl one_117 (cellAt rfl)) rfl <| zS (v_move rfl rfl) rfl <| ?_
  obtain ⟨oj, hoj⟩ : ∃ x, a.others[j]? = some x := ⟨a.others[j]'(by omega), List.getElem?_eq_getElem _⟩
  obtain ⟨ob, oo, eo, ro⟩ := hoths.src (L := E ++ (K ++ (.obj g24 (.map esU cU) :: .row g23 sizeL :: .row g22 wantL :: .row g4 (AtL.rcells a) :: .row g3 (fltL 0 0 ⟨#[]⟩) :: [.row g2 AtL.zero.rcells]))) (fun e he => List.mem_append_left _ he) (by rw [oths_len]; omega)
  have hcj : (othsL a.others)[j * 2]? = some (.int .i64 oj.ty) := (by
    have h2 := flatMap_seg (enc := OthL.cells) (s := 2) (fun _ => rfl) a.others j oj hoj
    have h3 := congrArg (fun l => l[0]?) h2
    simpa [List.getElem?_take, List.getElem?_drop, OthL.cells, othsL] using h3)
  refine zS ((v_indexAddr (b := ob) (off := oo) (lo := j) rfl (by show some (Value.slice a.oad _ _) = _; rw [eo]) rfl Tryz.underlying117 sz_201 rfl (by omega))) rfl ?_
  refine zS (v_fieldAddr rfl rfl fld_201_0) rfl <| zS (v_load1 rfl rfl one_3 ((fun w hS => ro _ _ w hS (j * 2) _ hcj))) rfl <| zS (v_move rfl rfl) rfl <| ?_
  refine WL.test (v_lss rfl rfl rfl) (.some rfl rfl rfl) rfl rfl (fun h139 => ?_) (fun h139 => ?_)
  refine zP rfl <| zN <| cT rfl <| cK <| eN <| cB <| WC.region <| zM rfl <| ?_
  refine zV (v_add rfl rfl rfl (show _ = ((j + 1 : Nat) : Int) from (w_i64 (by omega) (by omega)).trans (by omega))) rfl ?_
  refine zA rfl <| WL.nil <| eb <| ?_
  exact WE.next (j + 1) (by omega) ⟨by omega, fun i x hi hx => by
  rcases Nat.lt_or_ge i j with h | h
  · exact hlt i x h hx
  · obtain rfl : i = j := by omega
    rw [hoj] at hx; cases hx; exact h139⟩ (.cons rfl (.cons rfl (.cons rfl (.cons rfl (.cons rfl (.cons rfl (.cons rfl (.cons rfl (.cons rfl (.cons rfl (.cons rfl .nil))))))))))) (.refl _)
  refine zP rfl <| zN <| cF rfl <| cX <| eX <| eX <| eH <| ?_
  exact WE.mid j ⟨hj, hlt, fun x hx => by rw [hoj] at hx; cases hx; omega⟩ (.cons rfl (.cons rfl (.cons rfl (.cons rfl (.cons rfl (.cons rfl (.cons rfl (.cons rfl (.cons rfl (.cons rfl (.cons rfl .nil))))))))))) (.refl _)
  refine zM rfl ?_
  iterate 8 refine WL.sk rfl ?_
  refine zQ rfl <| zN <| cF rfl <| cX <| eX <| eX <| eH <| ?_
  exact WE.mid j ⟨hj, hlt, fun x hx => by have := (List.getElem?_eq_some_iff.1 hx).1; omega⟩ (.cons rfl (.cons rfl (.cons rfl (.cons rfl (.cons rfl (.cons rfl (.cons rfl (.cons rfl (.cons rfl (.cons rfl (.cons rfl .nil))))))))))) (.refl _)
  rintro j ⟨hj, hlt, hge⟩
  have hvl2 := hoths.len
  have hjt : (a.others.take j).length = j := (by rw [List.length_take]; omega)
  have hjd : (a.others.drop j).length = a.others.length - j := List.length_drop ..
  have hsp : othsL a.others = othsL (a.others.take j) ++ othsL (a.others.drop j) := (by rw [← othsL_app, List.take_append_drop])
  refine cR <| zB Tryz.underlying117 sz_201 zero_201 rfl rfl <| ?_
  intro g143 hg143
  refine zF rfl fld_119_9 <| zL rfl one_117 rfl <| zM rfl <| ?_
  refine zV ((v_slice_hi (hi := j) rfl rfl rfl Tryz.underlying117 sz_201 rfl (by omega))) rfl ?_
  refine WL.appendL rfl rfl rfl Tryz.underlying117 Tryz.underlying117 sz_201 by_201 zero_201 rfl rfl (E := [.row g143 []]) (Vec.row (k := 0) (s := 2) (c := 0) rfl rfl (by omega)) (new := othsL (a.others.take j)) (fun h => (hoths.src (L := .row g143 [] :: (E ++ (K ++ (.obj g24 (.map esU cU) :: .row g23 sizeL :: .row g22 wantL :: .row g4 (AtL.rcells a) :: .row g3 (fltL 0 0 ⟨#[]⟩) :: [.row g2 AtL.zero.rcells])))) (fun e he => List.mem_cons_of_mem _ (List.mem_append_left _ he)) (by rw [oths_len]; omega)).elim fun ob h1 => h1.elim fun oo h2 => ⟨ob, oo, h2.1, fun w hS => rangeL (ys := othsL (a.others.drop j)) (by rw [← hsp]; exact h2.2 _ _ w hS)⟩) (by rw [oths_len, hjt]) (oths_one _) (by omega) (.none rfl) rfl rfl ?_
  intro ad148 c148 E148 hV148 hr148
  rw [Nat.zero_add] at hV148 ⊢
  rw [show List.take (0 * 2) ([] : List Value) = [] from rfl, List.nil_append] at hV148
  refine zA rfl <| zR <| zM rfl <| zM rfl <| zB Tryz.underlying25 sz_5 zero_5 rfl rfl <| ?_
  intro g151 hg151
  refine zM rfl ?_
  refine WL.appendL rfl rfl rfl Tryz.underlying25 Tryz.underlying25 sz_5 by_5 zero_5 rfl rfl (E := [.row g151 []]) (Vec.row (k := 0) (s := 1) (c := 0) rfl rfl (by omega)) (new := u8s vl) (fun h => ⟨b, vo, rfl, fun w hS' => hS'.rng (fun _ h => h) _ _ _ hWv.at_⟩) (by rw [u8s_len]; omega) (u8s_one _) (by omega) (.none rfl) rfl rfl ?_
  intro ad153 c153 E153 hV153 hr153
  rw [Nat.zero_add] at hV153 ⊢
  rw [show List.take (0 * 1) ([] : List Value) = [] from rfl, List.nil_append] at hV153
  refine zV (v_build rfl rfl zero_201 plc_201 rfl) rfl <| zB Tryz.underlying117 sz_201 zero_201 rfl rfl <| ?_
  intro g155 hg155
  refine WL.as (L' := .row g155 (OthL.cells (⟨fOf al 1, ad153, c153, vl⟩ : OthL)) :: (E153 ++ (E148 ++ (E ++ (K ++ (.obj g24 (.map esU cU) :: .row g23 sizeL :: .row g22 wantL :: .row g4 (AtL.rcells a) :: .row g3 (fltL 0 0 ⟨#[]⟩) :: [.row g2 AtL.zero.rcells])))))) rfl ?_
  refine WL.to (L' := E148 ++ (.row g155 (OthL.cells (⟨fOf al 1, ad153, c153, vl⟩ : OthL)) :: (E153 ++ (E ++ (K ++ (.obj g24 (.map esU cU) :: .row g23 sizeL :: .row g22 wantL :: .row g4 (AtL.rcells a) :: .row g3 (fltL 0 0 ⟨#[]⟩) :: [.row g2 AtL.zero.rcells])))))) (fun w hS => by
    have := St.front (R := E148) (L := E ++ (K ++ (.obj g24 (.map esU cU) :: .row g23 sizeL :: .row g22 wantL :: .row g4 (AtL.rcells a) :: .row g3 (fltL 0 0 ⟨#[]⟩) :: [.row g2 AtL.zero.rcells]))) (.row g155 (OthL.cells (⟨fOf al 1, ad153, c153, vl⟩ : OthL)) :: E153) (by simpa only [List.cons_append] using hS)
    simpa only [List.cons_append] using this) ?_
  refine WL.appendL rfl rfl rfl Tryz.underlying117 Tryz.underlying117 sz_201 by_201 zero_201 rfl rfl hV148 (new := OthL.cells (⟨fOf al 1, ad153, c153, vl⟩ : OthL)) (fun _ => ⟨g155, 0, rfl, fun w hS => allAt (g := g155) w hS⟩) rfl rfl (by omega) (.none rfl) rfl rfl ?_
  intro ad156 c156 E156 hV156 hr156
  refine zA rfl <| zN <| WC.region <| zM rfl <| zF rfl fld_119_9 <| zL rfl one_117 rfl <| zM rfl <| ?_
  refine zV ((v_slice_loN (lo := j) rfl rfl rfl Tryz.underlying117 sz_201 rfl (by omega) hoths.ad)) rfl ?_
  refine WL.appendL rfl rfl rfl Tryz.underlying117 Tryz.underlying117 sz_201 by_201 zero_201 rfl rfl hV156 (new := othsL (a.others.drop j)) (fun h => (hoths.src (L := E156 ++ (.row g155 (OthL.cells (⟨fOf al 1, ad153, c153, vl⟩ : OthL)) :: (E153 ++ (E ++ (K ++ (.obj g24 (.map esU cU) :: .row g23 sizeL :: .row g22 wantL :: .row g4 (AtL.rcells a) :: .row g3 (fltL 0 0 ⟨#[]⟩) :: [.row g2 AtL.zero.rcells])))))) (fun e he => List.mem_append_right _ (List.mem_cons_of_mem _ (List.mem_append_right _ (List.mem_append_left _ he)))) (by rw [oths_len]; omega)).elim fun ob h1 => h1.elim fun oo h2 => ⟨ob, oo + j * 2, (by rw [h2.1]; show some (Addr.mk ob (sAddr oo j a.oc 2) none) = _; unfold sAddr; rw [if_neg (by omega)]), fun w hS => (by have := rangeR (xs := othsL (a.others.take j)) (ys := othsL (a.others.drop j)) (by rw [← hsp]; exact h2.2 _ _ w hS); rwa [oths_len, hjt] at this)⟩) (by rw [oths_len, hjd]) (oths_one _) (by omega) (.none rfl) rfl rfl ?_
  intro ad162 c162 E162 hV162 hr162
  have hnl : (a.others.take j ++ (⟨fOf al 1, ad153, c153, vl⟩ : OthL) :: a.others.drop j).length = j + 1 + (a.others.length - j) := (by rw [List.length_append, List.length_cons, hjt, hjd]; omega)
  rw [show othsL (a.others.take j) ++ OthL.cells (⟨fOf al 1, ad153, c153, vl⟩ : OthL) ++ othsL (a.others.drop j) = othsL (a.others.take j ++ (⟨fOf al 1, ad153, c153, vl⟩ : OthL) :: a.others.drop j) by rw [othsL_app, List.append_assoc]; rfl] at hV162
  rw [← hnl] at hV162 ⊢
  refine zF rfl fld_119_9 <| zO one_117 rfl rfl <| WL.as (L' := E162 ++ (.row g155 (OthL.cells (⟨fOf al 1, ad153, c153, vl⟩ : OthL)) :: (E153 ++ (E ++ (K ++ (.obj g24 (.map esU cU) :: .row g23 sizeL :: .row g22 wantL :: .row g4 (AtL.rcells { a with oad := ad162, oc := c162, others := (a.others.take j ++ (⟨fOf al 1, ad153, c153, vl⟩ : OthL) :: a.others.drop j) }) :: .row g3 (fltL 0 0 ⟨#[]⟩) :: [.row g2 AtL.zero.rcells])))))) rfl <| zN <| cX <| eX <| eH <| ?_
  have hoi : otherD d al vl = .inl { d with others := d.others ++ [(fOf al 1, vl)] } := (by unfold otherD; rw [if_neg (by omega), if_pos ⟨by omega, h124⟩])
  have hst := hseen.step hWa.bys h106 (show stepD d al vl = .inl _ by rw [stepD_o hun]; exact hoi)
  have hA' : AtOwn (E153 ++ K) ({ a with oad := ad162, oc := c162, others := (a.others.take j ++ (⟨fOf al 1, ad153, c153, vl⟩ : OthL) :: a.others.drop j) }) := (AtOwn.mono (a := a) hown fun e he => List.mem_append_right _ he : AtOwn (E153 ++ K) a).oth _ _ _
  have hO' : ∀ o' ∈ (a.others.take j ++ (⟨fOf al 1, ad153, c153, vl⟩ : OthL) :: a.others.drop j), OthOwn (E153 ++ K) o' := (by
    intro o' ho'
    rcases List.mem_append.1 ho' with ho' | ho'
    · obtain ⟨E', r1, r2⟩ := hvals o' (List.mem_of_mem_take ho')
      exact ⟨E', r1, fun e he => List.mem_append_right _ (r2 e he)⟩
    · rcases List.mem_cons.1 ho' with rfl | ho'
      · exact ⟨E153, hV153, fun e he => List.mem_append_left _ he⟩
      · obtain ⟨E', r1, r2⟩ := hvals o' (List.mem_of_mem_drop ho')
        exact ⟨E', r1, fun e he => List.mem_append_right _ (r2 e he)⟩)
  exact WE.to (L' := E162 ++ ((E153 ++ K) ++ (.obj g24 (.map esU cU) :: .row g23 sizeL :: .row g22 wantL :: .row g4 (AtL.rcells { a with oad := ad162, oc := c162, others := (a.others.take j ++ (⟨fOf al 1, ad153, c153, vl⟩ : OthL) :: a.others.drop j) }) :: .row g3 (fltL 0 0 ⟨#[]⟩) :: [.row g2 AtL.zero.rcells]))) (fun w hS => (hS.sub (L' := E162 ++ (E153 ++ (K ++ (.obj g24 (.map esU cU) :: .row g23 sizeL :: .row g22 wantL :: .row g4 (AtL.rcells { a with oad := ad162, oc := c162, others := (a.others.take j ++ (⟨fOf al 1, ad153, c153, vl⟩ : OthL) :: a.others.drop j) }) :: .row g3 (fltL 0 0 ⟨#[]⟩) :: [.row g2 AtL.zero.rcells])))) (List.Sublist.append_left (.cons _ (List.Sublist.append_left (List.sublist_append_right _ _) _)) _)).permC (by intro c h1 h2 h3 e; simp only [h1, h3]; omega)) (WE.next ⟨k + toN (xs.drop k), { d with others := d.others ++ [(fOf al 1, vl)] }, fOf al 1 :: seen, { a with oad := ad162, oc := c162, others := (a.others.take j ++ (⟨fOf al 1, ad153, c153, vl⟩ : OthL) :: a.others.drop j) }, esU, cU, _, E162, E153 ++ K⟩ (by dsimp only; omega) ⟨by dsimp only; omega, by dsimp only; rw [hdec, decD_go (by omega) hnsx (show stepD d _ _ = .inl _ by rw [← hal, ← hvl, stepD_o hun]; exact hoi), List.drop_drop, ← ef1], hst, by
    have h1 := sortO_ins (os := d.others) (t := fOf al 1) (v := vl) hst.nd j (fun i x hi hx => by
      rw [← hos, List.getElem?_map] at hx
      obtain ⟨y, hy, rfl⟩ := Option.map_eq_some_iff.1 hx
      exact hlt i y hi hy) (fun x hx => by
      rw [← hos, List.getElem?_map] at hx
      obtain ⟨y, hy, rfl⟩ := Option.map_eq_some_iff.1 hx
      exact hge y hy)
    show AtL.d { a with oad := ad162, oc := c162, others := (a.others.take j ++ (⟨fOf al 1, ad153, c153, vl⟩ : OthL) :: a.others.drop j) } = _
    rw [show AtL.d { a with oad := ad162, oc := c162, others := (a.others.take j ++ (⟨fOf al 1, ad153, c153, vl⟩ : OthL) :: a.others.drop j) } = { a.d with others := (a.others.take j ++ (⟨fOf al 1, ad153, c153, vl⟩ : OthL) :: a.others.drop j).map othD } from rfl, hsame]
    show AtD.mk _ _ _ _ _ _ _ _ _ _ = AtD.mk _ _ _ _ _ _ _ _ _ _
    congr 1
    rw [h1, ← hos, List.map_append, List.map_cons, List.map_take, List.map_drop]; rfl, hA', hV162, hO', hMU, fun h => hcom (fun h2 => h (List.mem_cons_of_mem _ h2)), by dsimp only; rw [hnl]; omega, known_add hknown⟩ (.cons rfl (.cons rfl (.cons rfl (.cons rfl (.cons rfl (.cons rfl (.cons rfl (.cons rfl .nil)))))))) (.refl _))
  refine zP rfl <| zN <| cF rfl <| cK <| eN <| cX <| eX <| eH <| ?_
  exact WE.next ⟨k + toN (xs.drop k), d, fOf al 1 :: seen, a, esU, cU, _, E, K⟩ (by dsimp only; omega) ⟨by dsimp only; omega, by dsimp only; rw [hdec, decD_go (by omega) hnsx (show stepD d _ _ = .inl d by rw [← hal, ← hvl, stepD_o hun]; unfold otherD; rw [if_neg (by omega), if_neg (by omega)]), List.drop_drop, ← ef1], hseen.step hWa.bys h106 (show stepD d al vl = .inl d by rw [stepD_o hun]; unfold otherD; rw [if_neg (by omega), if_neg (by omega)]), hsame, hown, hoths, hvals, hMU, fun h => hcom (fun h2 => h (List.mem_cons_of_mem _ h2)), by dsimp only; omega, known_add hknown⟩ (.cons rfl (.cons rfl (.cons rfl (.cons rfl (.cons rfl (.cons rfl (.cons rfl (.cons rfl .nil)))))))) (.refl _)
  refine zM rfl ?_
  iterate 2 refine WL.sk rfl ?_
  refine zQ rfl <| zN <| cF rfl <| cK <| eN <| cX <| eX <| eH <| ?_
  exact WE.next ⟨k + toN (xs.drop k), d, fOf al 1 :: seen, a, esU, cU, _, E, K⟩ (by dsimp only; omega) ⟨by dsimp only; omega, by dsimp only; rw [hdec, decD_go (by omega) hnsx (show stepD d _ _ = .inl d by rw [← hal, ← hvl, stepD_o hun]; unfold otherD; rw [if_neg (by omega), if_neg (by omega)]), List.drop_drop, ← ef1], hseen.step hWa.bys h106 (show stepD d al vl = .inl d by rw [stepD_o hun]; unfold otherD; rw [if_neg (by omega), if_neg (by omega)]), hsame, hown, hoths, hvals, hMU, fun h => hcom (fun h2 => h (List.mem_cons_of_mem _ h2)), by dsimp only; omega, known_add hknown⟩ (.cons rfl (.cons rfl (.cons rfl (.cons rfl (.cons rfl (.cons rfl (.cons rfl (.cons rfl .nil)))))))) (.refl _)
  refine zV (v_not rfl rfl rfl) rfl <| zN <| cF rfl <| cK <| ?_
  have hkn := of_decide_eq_true hq
  obtain ⟨t, ht⟩ := Int.eq_ofNat_of_zero_le ha1.1
  exact WE.mid (t, esU, cU) ⟨ht, by dsimp only; omega, by dsimp only; omega, h106, hMU⟩ (.cons rfl (.int rfl ht (.cons rfl (.cons rfl (.cons rfl (.cons rfl (.cons rfl (.cons rfl (.cons rfl (.cons rfl (.cons rfl (.cons rfl .nil)))))))))))) (.refl _)
  rintro ⟨t, esU, cU⟩ ⟨ht, ht1, ht8, hns6, hMU⟩
  dsimp only at ht ht1 ht8 hMU
  dsimp only
  have htn : (fOf al 1).toNat = t := (by omega)
  have hnsx : ¬ ((xs.drop k).length < fromN (xs.drop k) ∨ (xs.drop k).length < toN (xs.drop k) ∨ fOf (xs.drop k) 1 ∈ seen) := (by rintro (h | h | h) <;> first | omega | exact hns6 (by rw [ef1]; exact h))
  have hk18 : 1 ≤ fOf al 1 ∧ fOf al 1 ≤ 8 := (by omega)
  refine WC.cut (fun _ : Unit => [(13, .slice (some ⟨b, vo, none⟩) vl.length vc), (12, .int .i64 t), (11, .int .i64 (fOf al 0 / 32 * 32)), (10, .slice (some ⟨b, sAddr o k cv 1, none⟩) al.length (cv - k)), (8, .int .i64 ((k + toN (xs.drop k) : Nat) : Int)), (7, .map (some g24)), (6, .slice (some ⟨g23, 0, none⟩) 9 9), (5, .slice (some ⟨g22, 0, none⟩) 9 9), (4, .pointer (some ⟨g4, 0, none⟩)), (3, .pointer (some ⟨g3, 0, none⟩)), (2, .pointer (some ⟨g2, 0, none⟩)), (0, .slice (some ⟨b, o, none⟩) xs.length cv)]) (fun _ => E ++ (K ++ (.obj g24 (.map esU cU) :: .row g23 sizeL :: .row g22 wantL :: .row g4 (AtL.rcells a) :: .row g3 (fltL 0 0 ⟨#[]⟩) :: [.row g2 AtL.zero.rcells]))) (fun _ => ¬ badF al) ?_ ?_
  refine cR <| zM rfl <| ?_
  refine zV (v_quo rfl rfl rfl (by omega) (by omega) (w_i64 (by omega) (by omega))) rfl ?_
  refine zV (v_mul rfl rfl rfl (w_i64 (by omega) (by omega))) rfl ?_
  refine zM rfl <| zM rfl <| ?_
  refine zV (v_indexAddr (lo := t) rfl rfl rfl Tryz.underlying32 sz_3 (by omega) (by omega)) rfl ?_
  refine zV (v_load1 rfl rfl one_3 (cellAt (g := g22) (k := 0 + t * 1) (cs := wantL) (v := .int .i64 (flagI t)) (by rw [show 0 + t * 1 = t by omega]; exact wantL_get ht1 ht8))) rfl ?_
  refine zT (v_neq rfl rfl rfl) rfl (fun h171 => ?_) (fun h171 => ?_)
  refine zM rfl ?_
  iterate 10 refine WL.sk rfl ?_
  refine zP rfl <| zN <| cT rfl <| cS <| WC.orders mixed <| rF 4 [0, 1] <| pV (v_build rfl rfl zero_119 plc_119 rfl) rfl <| pV (v_move rfl rfl) rfl <| WP.nil <| ?_
  refine WR.each (g := 3) [2, 4] (by kernel_rfl) (by decide) ?_
  refine ⟨?_, ?_⟩
  refine zV (v_convBS (fOf al) rfl rfl Tryz.underlying25 Tryz.underlying5 Tryz.underlying9 (fun w' hS' _ => ⟨b, sAddr o k cv 1, rfl, rd_u8s (hWa.st hS').at_⟩)) rfl <| zH <| rF 2 [3] <| pV (v_build rfl rfl zero_120 plc_120 rfl) rfl <| WP.nil <| rO 0 [4, 5] <| zW many_119 rfl rfl <| zW many_120 rfl rfl <| zH <| rD <| eN <| cE <| eR <| eB <| ?_
  refine eR <| eB <| eR <| WE.ret2 (P := Tryz.prog) (.inl rfl) Tryz.results93 (resRow rfl many_119 rfl) (resRow rfl many_120 rfl) <| ?_
  have e0 : decD AtL.zero.d [] xs = .inr (4, strOf al) := (by rw [hdec]; exact decD_fail (by omega) hnsx (by rw [← hal, ← hvl]; rw [stepD_k hk18]; exact takeD_4 (by unfold badF; rw [htn]; omega)))
  exact fun w' h => RDecP.no e0 h
  refine zW many_119 rfl rfl <| zH <| rA 1 [2, 3] rfl <| qV (v_convBS (fOf al) rfl rfl Tryz.underlying25 Tryz.underlying5 Tryz.underlying9 (fun w' hS' _ => ⟨b, sAddr o k cv 1, rfl, rd_u8s (hWa.st hS').at_⟩)) rfl <| qV (v_build rfl rfl zero_120 plc_120 rfl) rfl <| WQ.nilR <| rO 0 [5] <| zW many_120 rfl rfl <| zH <| rD <| eN <| cE <| eR <| eB <| ?_
  refine eR <| eB <| eR <| WE.ret2 (P := Tryz.prog) (.inl rfl) Tryz.results93 (resRow rfl many_119 rfl) (resRow rfl many_120 rfl) <| ?_
  have e0 : decD AtL.zero.d [] xs = .inr (4, strOf al) := (by rw [hdec]; exact decD_fail (by omega) hnsx (by rw [← hal, ← hvl]; rw [stepD_k hk18]; exact takeD_4 (by unfold badF; rw [htn]; omega)))
  exact fun w' h => RDecP.no e0 h
  refine zM rfl <| zS (v_move rfl rfl) rfl <| ?_
  refine zS (v_rem rfl rfl rfl (by omega) (by omega)) rfl ?_
  refine WL.test (v_neq rfl rfl rfl) (.some rfl rfl rfl) rfl rfl (fun h175 => ?_) (fun h175 => ?_)
  refine zS (v_move rfl rfl) rfl <| zS (v_move rfl rfl) rfl <| zS (v_move rfl rfl) rfl <| ?_
  refine zS (v_indexAddr (lo := t) rfl rfl rfl Tryz.underlying32 sz_3 (by omega) (by omega)) rfl ?_
  refine zS (v_load1 rfl rfl one_3 (cellAt (g := g22) (k := 0 + t * 1) (cs := wantL) (v := .int .i64 (flagI t)) (by rw [show 0 + t * 1 = t by omega]; exact wantL_get ht1 ht8))) rfl ?_
  refine WL.test (v_neq rfl rfl rfl) (.some rfl rfl rfl) rfl rfl (fun h181 => ?_) (fun h181 => ?_)
  refine zS (v_pick_t rfl rfl rfl) rfl <| zQ rfl <| zN <| cT rfl <| cS <| WC.orders mixed <| rF 4 [0, 1] <| pV (v_build rfl rfl zero_119 plc_119 rfl) rfl <| pV (v_move rfl rfl) rfl <| WP.nil <| ?_
  refine WR.each (g := 3) [2, 4] (by kernel_rfl) (by decide) ?_
  refine ⟨?_, ?_⟩
  refine zV (v_convBS (fOf al) rfl rfl Tryz.underlying25 Tryz.underlying5 Tryz.underlying9 (fun w' hS' _ => ⟨b, sAddr o k cv 1, rfl, rd_u8s (hWa.st hS').at_⟩)) rfl <| zH <| rF 2 [3] <| pV (v_build rfl rfl zero_120 plc_120 rfl) rfl <| WP.nil <| rO 0 [4, 5] <| zW many_119 rfl rfl <| zW many_120 rfl rfl <| zH <| rD <| eN <| cE <| eR <| eB <| ?_
  refine eR <| eB <| eR <| WE.ret2 (P := Tryz.prog) (.inl rfl) Tryz.results93 (resRow rfl many_119 rfl) (resRow rfl many_120 rfl) <| ?_
  have e0 : decD AtL.zero.d [] xs = .inr (4, strOf al) := (by rw [hdec]; exact decD_fail (by omega) hnsx (by rw [← hal, ← hvl]; rw [stepD_k hk18]; exact takeD_4 (by unfold badF; rw [htn]; omega)))
  exact fun w' h => RDecP.no e0 h
  refine zW many_119 rfl rfl <| zH <| rA 1 [2, 3] rfl <| qV (v_convBS (fOf al) rfl rfl Tryz.underlying25 Tryz.underlying5 Tryz.underlying9 (fun w' hS' _ => ⟨b, sAddr o k cv 1, rfl, rd_u8s (hWa.st hS').at_⟩)) rfl <| qV (v_build rfl rfl zero_120 plc_120 rfl) rfl <| WQ.nilR <| rO 0 [5] <| zW many_120 rfl rfl <| zH <| rD <| eN <| cE <| eR <| eB <| ?_
  refine eR <| eB <| eR <| WE.ret2 (P := Tryz.prog) (.inl rfl) Tryz.results93 (resRow rfl many_119 rfl) (resRow rfl many_120 rfl) <| ?_
  have e0 : decD AtL.zero.d [] xs = .inr (4, strOf al) := (by rw [hdec]; exact decD_fail (by omega) hnsx (by rw [← hal, ← hvl]; rw [stepD_k hk18]; exact takeD_4 (by unfold badF; rw [htn]; omega)))
  exact fun w' h => RDecP.no e0 h
  refine zS (v_pick_t rfl rfl rfl) rfl <| zQ rfl <| zN <| cF rfl <| cK <| ?_
  exact WE.mid () (by show ¬ badF al; unfold badF; rw [htn]; omega) (.cons rfl (.cons rfl (.cons rfl (.cons rfl (.cons rfl (.cons rfl (.cons rfl (.cons rfl (.cons rfl (.cons rfl (.cons rfl (.cons rfl .nil)))))))))))) (.refl _)
  refine zS (v_move rfl rfl) rfl ?_
  iterate 5 refine WL.sk rfl ?_
  refine zS (v_pick_f rfl rfl rfl) rfl <| zQ rfl <| zN <| cF rfl <| cK <| ?_
  exact WE.mid () (by show ¬ badF al; unfold badF; rw [htn]; omega) (.cons rfl (.cons rfl (.cons rfl (.cons rfl (.cons rfl (.cons rfl (.cons rfl (.cons rfl (.cons rfl (.cons rfl (.cons rfl (.cons rfl .nil)))))))))))) (.refl _)
  rintro _ hnf
  refine WC.cut (fun _ : Unit => [(13, .slice (some ⟨b, vo, none⟩) vl.length vc), (12, .int .i64 t), (11, .int .i64 (fOf al 0 / 32 * 32)), (10, .slice (some ⟨b, sAddr o k cv 1, none⟩) al.length (cv - k)), (8, .int .i64 ((k + toN (xs.drop k) : Nat) : Int)), (7, .map (some g24)), (6, .slice (some ⟨g23, 0, none⟩) 9 9), (5, .slice (some ⟨g22, 0, none⟩) 9 9), (4, .pointer (some ⟨g4, 0, none⟩)), (3, .pointer (some ⟨g3, 0, none⟩)), (2, .pointer (some ⟨g2, 0, none⟩)), (0, .slice (some ⟨b, o, none⟩) xs.length cv)]) (fun _ => E ++ (K ++ (.obj g24 (.map esU cU) :: .row g23 sizeL :: .row g22 wantL :: .row g4 (AtL.rcells a) :: .row g3 (fltL 0 0 ⟨#[]⟩) :: [.row g2 AtL.zero.rcells]))) (fun _ => ¬ badZ al vl) ?_ ?_
  refine cR <| zM rfl <| zM rfl <| ?_
  refine zV (v_indexAddr (lo := t) rfl rfl rfl Tryz.underlying32 sz_3 (by omega) (by omega)) rfl ?_
  refine zV (v_load1 rfl rfl one_3 (cellAt (g := g23) (k := 0 + t * 1) (cs := sizeL) (v := .int .i64 (sizeI t)) (by rw [show 0 + t * 1 = t by omega]; exact sizeL_get ht1 ht8))) rfl ?_
  refine zT (v_geq rfl rfl rfl) rfl (fun h192 => ?_) (fun h192 => ?_)
  refine zM rfl <| zS (v_move rfl rfl) rfl <| zS (v_len_slice rfl rfl Tryz.underlying25) rfl <| zS (v_move rfl rfl) rfl <| zS (v_move rfl rfl) rfl <| ?_
  refine zS (v_indexAddr (lo := t) rfl rfl rfl Tryz.underlying32 sz_3 (by omega) (by omega)) rfl ?_
  refine zS (v_load1 rfl rfl one_3 (cellAt (g := g23) (k := 0 + t * 1) (cs := sizeL) (v := .int .i64 (sizeI t)) (by rw [show 0 + t * 1 = t by omega]; exact sizeL_get ht1 ht8))) rfl ?_
  refine WL.test (v_neq rfl rfl rfl) (.some rfl rfl rfl) rfl rfl (fun h200 => ?_) (fun h200 => ?_)
  refine zP rfl <| zM rfl <| ?_
  iterate 8 refine WL.sk rfl ?_
  refine zP rfl <| zN <| cT rfl <| cS <| WC.orders mixed <| rF 4 [0, 1] <| pV (v_build rfl rfl zero_119 plc_119 rfl) rfl <| pV (v_move rfl rfl) rfl <| WP.nil <| ?_
  refine WR.each (g := 3) [2, 4] (by kernel_rfl) (by decide) ?_
  refine ⟨?_, ?_⟩
  refine zV (v_convBS (fOf al) rfl rfl Tryz.underlying25 Tryz.underlying5 Tryz.underlying9 (fun w' hS' _ => ⟨b, sAddr o k cv 1, rfl, rd_u8s (hWa.st hS').at_⟩)) rfl <| zH <| rF 2 [3] <| pV (v_build rfl rfl zero_120 plc_120 rfl) rfl <| WP.nil <| rO 0 [4, 5] <| zW many_119 rfl rfl <| zW many_120 rfl rfl <| zH <| rD <| eN <| cE <| eR <| eB <| ?_
  refine eR <| eB <| eR <| WE.ret2 (P := Tryz.prog) (.inl rfl) Tryz.results93 (resRow rfl many_119 rfl) (resRow rfl many_120 rfl) <| ?_
  have e0 : decD AtL.zero.d [] xs = .inr (5, strOf al) := (by rw [hdec]; exact decD_fail (by omega) hnsx (by rw [← hal, ← hvl]; rw [stepD_k hk18]; exact takeD_5 hnf (by unfold badZ; rw [htn]; omega)))
  exact fun w' h => RDecP.no e0 h
  refine zW many_119 rfl rfl <| zH <| rA 1 [2, 3] rfl <| qV (v_convBS (fOf al) rfl rfl Tryz.underlying25 Tryz.underlying5 Tryz.underlying9 (fun w' hS' _ => ⟨b, sAddr o k cv 1, rfl, rd_u8s (hWa.st hS').at_⟩)) rfl <| qV (v_build rfl rfl zero_120 plc_120 rfl) rfl <| WQ.nilR <| rO 0 [5] <| zW many_120 rfl rfl <| zH <| rD <| eN <| cE <| eR <| eB <| ?_
  refine eR <| eB <| eR <| WE.ret2 (P := Tryz.prog) (.inl rfl) Tryz.results93 (resRow rfl many_119 rfl) (resRow rfl many_120 rfl) <| ?_
  have e0 : decD AtL.zero.d [] xs = .inr (5, strOf al) := (by rw [hdec]; exact decD_fail (by omega) hnsx (by rw [← hal, ← hvl]; rw [stepD_k hk18]; exact takeD_5 hnf (by unfold badZ; rw [htn]; omega)))
  exact fun w' h => RDecP.no e0 h
  refine zP rfl <| zM rfl <| zS (v_move rfl rfl) rfl <| ?_
  refine WL.test (v_eql rfl rfl rfl) (.some rfl rfl rfl) rfl rfl (fun h204 => ?_) (fun h204 => ?_)
  refine zS (v_move rfl rfl) rfl <| zS (v_move rfl rfl) rfl <| zS (v_len_slice rfl rfl Tryz.underlying25) rfl <| ?_
  refine zS (v_rem rfl rfl rfl (by omega) (by omega)) rfl ?_
  refine WL.test (v_neq rfl rfl rfl) (.some rfl rfl rfl) rfl rfl (fun h209 => ?_) (fun h209 => ?_)
  refine zS (v_pick_t rfl rfl rfl) rfl <| zQ rfl <| zN <| cT rfl <| cS <| WC.orders mixed <| rF 4 [0, 1] <| pV (v_build rfl rfl zero_119 plc_119 rfl) rfl <| pV (v_move rfl rfl) rfl <| WP.nil <| ?_
  refine WR.each (g := 3) [2, 4] (by kernel_rfl) (by decide) ?_
  refine ⟨?_, ?_⟩
  refine zV (v_convBS (fOf al) rfl rfl Tryz.underlying25 Tryz.underlying5 Tryz.underlying9 (fun w' hS' _ => ⟨b, sAddr o k cv 1, rfl, rd_u8s (hWa.st hS').at_⟩)) rfl <| zH <| rF 2 [3] <| pV (v_build rfl rfl zero_120 plc_120 rfl) rfl <| WP.nil <| rO 0 [4, 5] <| zW many_119 rfl rfl <| zW many_120 rfl rfl <| zH <| rD <| eN <| cE <| eR <| eB <| ?_
  refine eR <| eB <| eR <| WE.ret2 (P := Tryz.prog) (.inl rfl) Tryz.results93 (resRow rfl many_119 rfl) (resRow rfl many_120 rfl) <| ?_
  have e0 : decD AtL.zero.d [] xs = .inr (5, strOf al) := (by rw [hdec]; exact decD_fail (by omega) hnsx (by rw [← hal, ← hvl]; rw [stepD_k hk18]; exact takeD_5 hnf (by unfold badZ; rw [htn]; omega)))
  exact fun w' h => RDecP.no e0 h
  refine zW many_119 rfl rfl <| zH <| rA 1 [2, 3] rfl <| qV (v_convBS (fOf al) rfl rfl Tryz.underlying25 Tryz.underlying5 Tryz.underlying9 (fun w' hS' _ => ⟨b, sAddr o k cv 1, rfl, rd_u8s (hWa.st hS').at_⟩)) rfl <| qV (v_build rfl rfl zero_120 plc_120 rfl) rfl <| WQ.nilR <| rO 0 [5] <| zW many_120 rfl rfl <| zH <| rD <| eN <| cE <| eR <| eB <| ?_
  refine eR <| eB <| eR <| WE.ret2 (P := Tryz.prog) (.inl rfl) Tryz.results93 (resRow rfl many_119 rfl) (resRow rfl many_120 rfl) <| ?_
  have e0 : decD AtL.zero.d [] xs = .inr (5, strOf al) := (by rw [hdec]; exact decD_fail (by omega) hnsx (by rw [← hal, ← hvl]; rw [stepD_k hk18]; exact takeD_5 hnf (by unfold badZ; rw [htn]; omega)))
  exact fun w' h => RDecP.no e0 h
  refine zS (v_pick_t rfl rfl rfl) rfl <| zQ rfl <| zN <| cF rfl <| cK <| ?_
  exact WE.mid () (by show ¬ badZ al vl; unfold badZ; rw [htn]; omega) (.cons rfl (.cons rfl (.cons rfl (.cons rfl (.cons rfl (.cons rfl (.cons rfl (.cons rfl (.cons rfl (.cons rfl (.cons rfl (.cons rfl .nil)))))))))))) (.refl _)
  refine zS (v_move rfl rfl) rfl ?_
  iterate 4 refine WL.sk rfl ?_
  refine zS (v_pick_f rfl rfl rfl) rfl <| zQ rfl <| zN <| cF rfl <| cK <| ?_
  exact WE.mid () (by show ¬ badZ al vl; unfold badZ; rw [htn]; omega) (.cons rfl (.cons rfl (.cons rfl (.cons rfl (.cons rfl (.cons rfl (.cons rfl (.cons rfl (.cons rfl (.cons rfl (.cons rfl (.cons rfl .nil)))))))))))) (.refl _)
  refine zM rfl ?_
  iterate 7 refine WL.sk rfl ?_
  refine zQ rfl <| zM rfl <| zS (v_move rfl rfl) rfl <| ?_
  refine WL.test (v_eql rfl rfl rfl) (.some rfl rfl rfl) rfl rfl (fun h204 => ?_) (fun h204 => ?_)
  refine zS (v_move rfl rfl) rfl <| zS (v_move rfl rfl) rfl <| zS (v_len_slice rfl rfl Tryz.underlying25) rfl <| ?_
  refine zS (v_rem rfl rfl rfl (by omega) (by omega)) rfl ?_
  refine WL.test (v_neq rfl rfl rfl) (.some rfl rfl rfl) rfl rfl (fun h209 => ?_) (fun h209 => ?_)
  refine zS (v_pick_t rfl rfl rfl) rfl <| zQ rfl <| zN <| cT rfl <| cS <| WC.orders mixed <| rF 4 [0, 1] <| pV (v_build rfl rfl zero_119 plc_119 rfl) rfl <| pV (v_move rfl rfl) rfl <| WP.nil <| ?_
  refine WR.each (g := 3) [2, 4] (by kernel_rfl) (by decide) ?_
  refine ⟨?_, ?_⟩
  refine zV (v_convBS (fOf al) rfl rfl Tryz.underlying25 Tryz.underlying5 Tryz.underlying9 (fun w' hS' _ => ⟨b, sAddr o k cv 1, rfl, rd_u8s (hWa.st hS').at_⟩)) rfl <| zH <| rF 2 [3] <| pV (v_build rfl rfl zero_120 plc_120 rfl) rfl <| WP.nil <| rO 0 [4, 5] <| zW many_119 rfl rfl <| zW many_120 rfl rfl <| zH <| rD <| eN <| cE <| eR <| eB <| ?_
  refine eR <| eB <| eR <| WE.ret2 (P := Tryz.prog) (.inl rfl) Tryz.results93 (resRow rfl many_119 rfl) (resRow rfl many_120 rfl) <| ?_
  have e0 : decD AtL.zero.d [] xs = .inr (5, strOf al) := (by rw [hdec]; exact decD_fail (by omega) hnsx (by rw [← hal, ← hvl]; rw [stepD_k hk18]; exact takeD_5 hnf (by unfold badZ; rw [htn]; omega)))
  exact fun w' h => RDecP.no e0 h
  refine zW many_119 rfl rfl <| zH <| rA 1 [2, 3] rfl <| qV (v_convBS (fOf al) rfl rfl Tryz.underlying25 Tryz.underlying5 Tryz.underlying9 (fun w' hS' _ => ⟨b, sAddr o k cv 1, rfl, rd_u8s (hWa.st hS').at_⟩)) rfl <| qV (v_build rfl rfl zero_120 plc_120 rfl) rfl <| WQ.nilR <| rO 0 [5] <| zW many_120 rfl rfl <| zH <| rD <| eN <| cE <| eR <| eB <| ?_
  refine eR <| eB <| eR <| WE.ret2 (P := Tryz.prog) (.inl rfl) Tryz.results93 (resRow rfl many_119 rfl) (resRow rfl many_120 rfl) <| ?_
  have e0 : decD AtL.zero.d [] xs = .inr (5, strOf al) := (by rw [hdec]; exact decD_fail (by omega) hnsx (by rw [← hal, ← hvl]; rw [stepD_k hk18]; exact takeD_5 hnf (by unfold badZ; rw [htn]; omega)))
  exact fun w' h => RDecP.no e0 h
  refine zS (v_pick_t rfl rfl rfl) rfl <| zQ rfl <| zN <| cF rfl <| cK <| ?_
  exact WE.mid () (by show ¬ badZ al vl; unfold badZ; rw [htn]; omega) (.cons rfl (.cons rfl (.cons rfl (.cons rfl (.cons rfl (.cons rfl (.cons rfl (.cons rfl (.cons rfl (.cons rfl (.cons rfl (.cons rfl .nil)))))))))))) (.refl _)
  refine zS (v_move rfl rfl) rfl ?_
  iterate 4 refine WL.sk rfl ?_
  refine zS (v_pick_f rfl rfl rfl) rfl <| zQ rfl <| zN <| cF rfl <| cK <| ?_
  exact WE.mid () (by show ¬ badZ al vl; unfold badZ; rw [htn]; omega) (.cons rfl (.cons rfl (.cons rfl (.cons rfl (.cons rfl (.cons rfl (.cons rfl (.cons rfl (.cons rfl (.cons rfl (.cons rfl (.cons rfl .nil)))))))))))) (.refl _)
  rintro _ hnz
  obtain ⟨hz1, hz4, hz7, hz8⟩ := badZ_len hnz ht ht1 ht8
  have hp2 := pow2_9 t ht8
  have hs0 := hseen.h0
  have hs1 := hseen.h1
  have hfin : ∀ (a' : AtL) (K' : List Ent) (d1 : AtD), (∀ e ∈ K, e ∈ K') → AtOwn K' a' → a'.others = a.others → a'.oad = a.oad → a'.oc = a.oc → (t = 8 ∨ (a'.cad = a.cad ∧ a'.cc = a.cc)) → takeD d al vl = .inl d1 → a'.d = { d1 with others := sortO d1.others } →
      ReS.Good ⟨k + toN (xs.drop k), d1, fOf al 1 :: seen, a', esU, cU, updM mm (.int .i64 (fOf al 1)) (some (.bool true)), E, K'⟩ xs := (by
    intro a' K' d1 hm hA e1 e2 e3 e4 htk hd'
    refine ⟨by dsimp only; omega, by dsimp only; rw [hdec, decD_go (by omega) hnsx (show stepD d _ _ = .inl d1 by rw [← hal, ← hvl, stepD_k hk18]; exact htk), List.drop_drop, ← ef1], hseen.step hWa.bys hns6 (show stepD d al vl = .inl d1 by rw [stepD_k hk18]; exact htk), hd', hA, by dsimp only; rw [e1, e2, e3]; exact hoths, ?_, hMU, fun h => ?_, by dsimp only; rw [e1]; omega, known_add hknown⟩
    · dsimp only
      rw [e1]
      intro o' ho'
      obtain ⟨E', r1, r2⟩ := hvals o' ho'
      exact ⟨E', r1, fun e he => hm e (r2 e he)⟩
    · dsimp only at h ⊢
      rcases e4 with e4 | ⟨e4, e5⟩
      · exact absurd (List.mem_cons.2 (.inl (by omega))) h
      · rw [e4, e5]; exact hcom fun h2 => h (List.mem_cons_of_mem _ h2))
  refine cR <| zA rfl <| zN <| cS <| cR <| zA rfl <| zN <| cB <| ?_
  refine WC.loop (fun i : Nat => [(17, .int .i64 i), (16, .int .i64 (2 ^ i)), (13, .slice (some ⟨b, vo, none⟩) vl.length vc), (12, .int .i64 t), (10, .slice (some ⟨b, sAddr o k cv 1, none⟩) al.length (cv - k)), (8, .int .i64 ((k + toN (xs.drop k) : Nat) : Int)), (7, .map (some g24)), (6, .slice (some ⟨g23, 0, none⟩) 9 9), (5, .slice (some ⟨g22, 0, none⟩) 9 9), (4, .pointer (some ⟨g4, 0, none⟩)), (3, .pointer (some ⟨g3, 0, none⟩)), (2, .pointer (some ⟨g2, 0, none⟩)), (0, .slice (some ⟨b, o, none⟩) xs.length cv)]) (fun _ => E ++ (K ++ (.obj g24 (.map esU cU) :: .row g23 sizeL :: .row g22 wantL :: .row g4 (AtL.rcells a) :: .row g3 (fltL 0 0 ⟨#[]⟩) :: [.row g2 AtL.zero.rcells]))) (fun i => i ≤ t) (fun i => t - i) 0 (Nat.zero_le _) (.cons rfl (.int rfl (by decide) (.cons rfl (.cons rfl (.cons rfl (.cons rfl (.cons rfl (.cons rfl (.cons rfl (.cons rfl (.cons rfl (.cons rfl (.cons rfl .nil))))))))))))) (.refl _) ?_
  intro i hi
  refine cS <| cR <| zM rfl <| zM rfl <| ?_
  refine zT (v_lss rfl rfl rfl) rfl (fun h218 => ?_) (fun h218 => ?_)
  refine zN <| cT rfl <| cK <| eN <| cS <| cB <| WC.region <| zM rfl <| ?_
  have hpi := pow2_9 i (by omega)
  refine zV (v_mul rfl rfl rfl (show _ = (2 : Int) ^ (i + 1) from (w_i64 (by omega) (by omega)).trans (by rw [Int.pow_succ]; omega))) rfl ?_
  refine zA rfl <| WL.nil <| eb <| eN <| WC.region <| zM rfl <| ?_
  refine zV (v_add rfl rfl rfl (w_i64 (by omega) (by omega))) rfl ?_
  refine zA rfl <| WL.nil <| ?_
  exact WE.next (i + 1) (by omega) (by omega) (.int rfl (by omega) (.cons rfl (.cons rfl (.cons rfl (.cons rfl (.cons rfl (.cons rfl (.cons rfl (.cons rfl (.cons rfl (.cons rfl (.cons rfl (.cons rfl .nil))))))))))))) (.refl _)
  refine zN <| cF rfl <| cX <| eX <| eX <| eH <| eN <| cR <| ?_
  have hit : i = t := (by omega)
  rw [hit]
  refine zF rfl fld_119_0 <| zL rfl one_3 rfl <| zM rfl <| ?_
  refine zV (v_add rfl rfl rfl (show _ = a.has + 2 ^ t from w_i64 (by omega) (by omega))) rfl ?_
  refine zF rfl fld_119_0 <| zO one_3 rfl rfl <| WL.as (L' := E ++ (K ++ (.obj g24 (.map esU cU) :: .row g23 sizeL :: .row g22 wantL :: .row g4 (AtL.rcells { a with has := a.has + 2 ^ t }) :: .row g3 (fltL 0 0 ⟨#[]⟩) :: [.row g2 AtL.zero.rcells]))) rfl <| zN <| cS <| cR <| zM rfl <| ?_
  refine zT (v_eql rfl rfl rfl) rfl (fun h229 => ?_) (fun h229 => ?_)
  refine zN <| cT rfl <| cR <| zM rfl <| ?_
  have er := readI_one (hz1 (by omega))
  have hl1 := hz1 (by omega)
  have hb1 := fOf_b hWv.bys 0
  refine zV (v_indexAddr (lo := 0) rfl rfl rfl Tryz.underlying25 sz_5 rfl (by omega)) rfl ?_
  refine zV (v_load1 rfl rfl one_5 (cellOld (fun h => h) (hWv.get (fOf_get (i := 0) (by omega))))) rfl ?_
  rw [er] at hb1 ⊢
  refine zV (v_conv rfl rfl Tryz.underlying3 Tryz.underlying5 (w_i64 (by omega) (by omega))) rfl ?_
  refine zF rfl fld_119_1 <| zO one_3 rfl rfl <| WL.as (L' := E ++ (K ++ (.obj g24 (.map esU cU) :: .row g23 sizeL :: .row g22 wantL :: .row g4 (AtL.rcells { a with has := a.has + 2 ^ t, origin := readI vl }) :: .row g3 (fltL 0 0 ⟨#[]⟩) :: [.row g2 AtL.zero.rcells]))) rfl <| zR <| zF rfl fld_119_1 <| zL rfl one_3 rfl <| ?_
  refine zT (v_gtr rfl rfl rfl) rfl (fun h237 => ?_) (fun h237 => ?_)
  refine zN <| cT rfl <| cS <| WC.orders mixed <| rF 4 [0, 1] <| pV (v_build rfl rfl zero_119 plc_119 rfl) rfl <| pV (v_move rfl rfl) rfl <| WP.nil <| ?_
  refine WR.each (g := 3) [2, 4] (by kernel_rfl) (by decide) ?_
  refine ⟨?_, ?_⟩
  refine zV (v_convBS (fOf al) rfl rfl Tryz.underlying25 Tryz.underlying5 Tryz.underlying9 (fun w' hS' _ => ⟨b, sAddr o k cv 1, rfl, rd_u8s (hWa.st hS').at_⟩)) rfl <| zH <| rF 2 [3] <| pV (v_build rfl rfl zero_120 plc_120 rfl) rfl <| WP.nil <| rO 0 [4, 5] <| zW many_119 rfl rfl <| zW many_120 rfl rfl <| zH <| rD <| eN <| cE <| eR <| eB <| ?_
  refine eR <| eB <| eR <| WE.ret2 (P := Tryz.prog) (.inl rfl) Tryz.results93 (resRow rfl many_119 rfl) (resRow rfl many_120 rfl) <| ?_
  have e0 : decD AtL.zero.d [] xs = .inr (6, strOf al) := (by rw [hdec]; exact decD_fail (by omega) hnsx (by rw [← hal, ← hvl]; rw [stepD_k hk18]; exact takeD_6 hnf hnz (by omega) (by have h7 : readI vl > 2 := h237; unfold wiB; exact decide_eq_false (by omega))))
  exact fun w' h => RDecP.no e0 h
  refine zW many_119 rfl rfl <| zH <| rA 1 [2, 3] rfl <| qV (v_convBS (fOf al) rfl rfl Tryz.underlying25 Tryz.underlying5 Tryz.underlying9 (fun w' hS' _ => ⟨b, sAddr o k cv 1, rfl, rd_u8s (hWa.st hS').at_⟩)) rfl <| qV (v_build rfl rfl zero_120 plc_120 rfl) rfl <| WQ.nilR <| rO 0 [5] <| zW many_120 rfl rfl <| zH <| rD <| eN <| cE <| eR <| eB <| ?_
  refine eR <| eB <| eR <| WE.ret2 (P := Tryz.prog) (.inl rfl) Tryz.results93 (resRow rfl many_119 rfl) (resRow rfl many_120 rfl) <| ?_
  have e0 : decD AtL.zero.d [] xs = .inr (6, strOf al) := (by rw [hdec]; exact decD_fail (by omega) hnsx (by rw [← hal, ← hvl]; rw [stepD_k hk18]; exact takeD_6 hnf hnz (by omega) (by have h7 : readI vl > 2 := h237; unfold wiB; exact decide_eq_false (by omega))))
  exact fun w' h => RDecP.no e0 h
  refine zN <| cF rfl <| cK <| eN <| cS <| cR <| zM rfl <| ?_
  refine zV ((v_eql rfl rfl rfl).f (by omega)) rfl ?_
  refine zN <| cF rfl <| cK <| eN <| cS <| cR <| zM rfl <| ?_
  refine zV ((v_eql rfl rfl rfl).f (by omega)) rfl ?_
  refine zN <| cF rfl <| cK <| eN <| cS <| cR <| zM rfl <| ?_
  refine zV ((v_eql rfl rfl rfl).f (by omega)) rfl ?_
  refine zN <| cF rfl <| cK <| eN <| cS <| cR <| zM rfl <| ?_
  refine zV ((v_eql rfl rfl rfl).f (by omega)) rfl ?_
  refine zN <| cF rfl <| cK <| eN <| cS <| cR <| zM rfl <| ?_
  refine zV ((v_eql rfl rfl rfl).f (by omega)) rfl ?_
  refine zN <| cF rfl <| cK <| eN <| cR <| zM rfl <| ?_
  refine zV ((v_eql rfl rfl rfl).f (by omega)) rfl ?_
  refine zN <| cF rfl <| cK <| eb <| ?_
  have htk : takeD d al vl = .inl ({ d with has := d.has + 2 ^ t, origin := readI vl }) := (by
    have := takeD_ok (d := d) (d' := { d with origin := readI vl }) hnf hnz (by omega) (by rw [htn, show t = 1 by omega]; rfl) (by intro h; omega) (by intro _; have h7 : ¬ readI vl > 2 := h237; show wiB (readI vl) 2 = true; unfold wiB; exact decide_eq_true (by omega)) (by intro h; omega)
    rw [this, htn])
  have hdd : AtL.d { a with has := a.has + 2 ^ t, origin := readI vl } = { ({ d with has := d.has + 2 ^ t, origin := readI vl } : AtD) with others := sortO d.others } := (by
    rw [show AtL.d { a with has := a.has + 2 ^ t, origin := readI vl } = { a.d with has := a.has + 2 ^ t, origin := readI vl } from rfl, hsame, hah])
  exact WE.next ⟨k + toN (xs.drop k), { d with has := d.has + 2 ^ t, origin := readI vl }, fOf al 1 :: seen, { a with has := a.has + 2 ^ t, origin := readI vl }, esU, cU, _, E, K⟩ (by dsimp only; omega) (hfin _ _ _ (fun _ h => h) ⟨hown.path, hown.segs, hown.comms⟩ rfl rfl rfl (.inr ⟨rfl, rfl⟩) htk hdd) (.cons rfl (.cons rfl (.cons rfl (.cons rfl (.cons rfl (.cons rfl (.cons rfl (.cons rfl .nil)))))))) (.refl _)
  refine zN <| cF rfl <| cK <| eN <| cS <| cR <| zM rfl <| ?_
  refine zT (v_eql rfl rfl rfl) rfl (fun h243 => ?_) (fun h243 => ?_)
  refine zN <| cT rfl <| cR <| zM rfl <| zK ck_118 rfl <| ?_
  intro w1 hS
  refine (RParts_u w1 b vo vc vl (hWv.st hS) (by omega)).mono ?_
  rintro e w' ⟨ss, ad2, c2, E2, K2, ok, rfl, hV2, hK2, hS2, hno, hyes⟩
  refine ⟨_, _, rfl, hS.join hS2, ?_⟩
  refine zM rfl <| zX rfl <| zX rfl <| ?_
  cases ok
  refine zA rfl <| zA rfl <| zN <| cS <| cR <| zM rfl <| zV (v_not rfl rfl rfl) rfl <| zN <| cT rfl <| cR <| zV (v_build rfl rfl zero_119 plc_119 rfl) rfl <| zV (v_build rfl rfl zero_120 plc_120 rfl) rfl <| ?_
  refine zW many_119 rfl rfl <| zW many_120 rfl rfl <| zN <| cE <| eR <| eR <| eB <| eR <| eB <| eR <| WE.ret2 (P := Tryz.prog) (.inl rfl) Tryz.results93 (resRow rfl many_119 rfl) (resRow rfl many_120 rfl) <| ?_
  have e0 : decD AtL.zero.d [] xs = .inr (11, ⟨#[]⟩) := (by rw [hdec]; exact decD_fail (by omega) hnsx (by rw [← hal, ← hvl]; rw [stepD_k hk18]; exact takeD_11 hnf hnz (by omega) (hno rfl)))
  exact fun w' h => RDecP.no e0 h
  refine zA rfl <| zA rfl <| zN <| cS <| cR <| zM rfl <| zV (v_not rfl rfl rfl) rfl <| zN <| cF rfl <| cK <| eN <| WC.region <| zM rfl <| ?_
  refine zF rfl fld_119_2 <| zO one_116 rfl rfl <| WL.as (L' := (E2 ++ K2) ++ (E ++ (K ++ (.obj g24 (.map esU cU) :: .row g23 sizeL :: .row g22 wantL :: .row g4 (AtL.rcells { a with has := a.has + 2 ^ t, pad := ad2, pc := c2, path := ss }) :: .row g3 (fltL 0 0 ⟨#[]⟩) :: [.row g2 AtL.zero.rcells])))) rfl <| ?_
  refine WL.to (L' := E ++ (((E2 ++ K2) ++ K) ++ (.obj g24 (.map esU cU) :: .row g23 sizeL :: .row g22 wantL :: .row g4 (AtL.rcells { a with has := a.has + 2 ^ t, pad := ad2, pc := c2, path := ss }) :: .row g3 (fltL 0 0 ⟨#[]⟩) :: [.row g2 AtL.zero.rcells]))) (fun w hS => hS.permC (by intro c h1 h2 h3 e; simp only [h1, h3]; omega)) ?_
  refine zN <| cS <| cR <| zM rfl <| ?_
  refine zV ((v_eql rfl rfl rfl).f (by omega)) rfl ?_
  refine zN <| cF rfl <| cK <| eN <| cS <| cR <| zM rfl <| ?_
  refine zV ((v_eql rfl rfl rfl).f (by omega)) rfl ?_
  refine zN <| cF rfl <| cK <| eN <| cS <| cR <| zM rfl <| ?_
  refine zV ((v_eql rfl rfl rfl).f (by omega)) rfl ?_
  refine zN <| cF rfl <| cK <| eN <| cS <| cR <| zM rfl <| ?_
  refine zV ((v_eql rfl rfl rfl).f (by omega)) rfl ?_
  refine zN <| cF rfl <| cK <| eN <| cR <| zM rfl <| ?_
  refine zV ((v_eql rfl rfl rfl).f (by omega)) rfl ?_
  refine zN <| cF rfl <| cK <| eb <| ?_
  obtain ⟨hpr, hpa⟩ := partsR_some (hyes rfl)
  have htk : takeD d al vl = .inl { d with has := d.has + 2 ^ t, path := ss.map segD } := (by
    have := takeD_ok (d := d) (d' := { d with path := ss.map segD }) hnf hnz (by omega) (by rw [htn, show t = 2 by omega]; show (pathR vl).map _ = _; rw [hpr]; rfl) (fun _ => hpa) (by intro h; omega) (by intro h; omega)
    rw [this, htn])
  have hdd : AtL.d { a with has := a.has + 2 ^ t, pad := ad2, pc := c2, path := ss } = { ({ d with has := d.has + 2 ^ t, path := ss.map segD } : AtD) with others := sortO d.others } := (by
    rw [show AtL.d { a with has := a.has + 2 ^ t, pad := ad2, pc := c2, path := ss } = { a.d with has := a.has + 2 ^ t, path := ss.map segD } from rfl, hsame, hah])
  have hA2 : AtOwn ((E2 ++ K2) ++ K) { a with has := a.has + 2 ^ t, pad := ad2, pc := c2, path := ss } := ⟨⟨E2, hV2, fun e he => List.mem_append_left _ (List.mem_append_left _ he)⟩, fun s hs => (by
    obtain ⟨E', r1, r2⟩ := hK2 s hs
    exact ⟨E', r1, fun e he => List.mem_append_left _ (List.mem_append_right _ (r2 e he))⟩), (by
    obtain ⟨E', r1, r2⟩ := hown.comms
    exact ⟨E', r1, fun e he => List.mem_append_right _ (r2 e he)⟩)⟩
  exact WE.next ⟨k + toN (xs.drop k), { d with has := d.has + 2 ^ t, path := ss.map segD }, fOf al 1 :: seen, { a with has := a.has + 2 ^ t, pad := ad2, pc := c2, path := ss }, esU, cU, _, E, (E2 ++ K2) ++ K⟩ (by dsimp only; omega) (hfin _ _ _ (fun e he => List.mem_append_right _ he) hA2 rfl rfl rfl (.inr ⟨rfl, rfl⟩) htk hdd) (.cons rfl (.cons rfl (.cons rfl (.cons rfl (.cons rfl (.cons rfl (.cons rfl (.cons rfl .nil)))))))) (.refl _)
  refine zN <| cF rfl <| cK <| eN <| cS <| cR <| zM rfl <| ?_
  refine zT (v_eql rfl rfl rfl) rfl (fun h256 => ?_) (fun h256 => ?_)
  refine zN <| cT rfl <| cR <| zM rfl <| ?_
  have hl4 := hz4 (by omega)
  have hrb := readI_b 4 vl hl4 hWv.bys
  have hp4 : (256 : Int) ^ 4 = 4294967296 := (by decide)
  refine zK ck_116 rfl ?_
  intro w hS
  refine Calls.then (RNum_c _ b vo vc vl (hWv.st hS) (by omega)) hS ?_
  refine zF rfl fld_119_3 <| zO one_3 rfl rfl <| WL.as (L' := E ++ (K ++ (.obj g24 (.map esU cU) :: .row g23 sizeL :: .row g22 wantL :: .row g4 (AtL.rcells { a with has := a.has + 2 ^ t, hop := readI vl }) :: .row g3 (fltL 0 0 ⟨#[]⟩) :: [.row g2 AtL.zero.rcells]))) rfl <| zR <| zF rfl fld_119_3 <| zL rfl one_3 rfl <| zK ck_119 rfl <| ?_
  intro w hS
  refine Calls.then (RHop_c _ (readI vl) (by omega) (by omega)) hS ?_
  generalize hq3 : hopB (readI vl) = b262
  cases b262
  refine zV (v_not rfl rfl rfl) rfl <| zN <| cT rfl <| cS <| WC.orders mixed <| rF 4 [0, 1] <| pV (v_build rfl rfl zero_119 plc_119 rfl) rfl <| pV (v_move rfl rfl) rfl <| WP.nil <| ?_
  refine WR.each (g := 3) [2, 4] (by kernel_rfl) (by decide) ?_
  refine ⟨?_, ?_⟩
  refine zV (v_convBS (fOf al) rfl rfl Tryz.underlying25 Tryz.underlying5 Tryz.underlying9 (fun w' hS' _ => ⟨b, sAddr o k cv 1, rfl, rd_u8s (hWa.st hS').at_⟩)) rfl <| zH <| rF 2 [3] <| pV (v_build rfl rfl zero_120 plc_120 rfl) rfl <| WP.nil <| rO 0 [4, 5] <| zW many_119 rfl rfl <| zW many_120 rfl rfl <| zH <| rD <| eN <| cE <| eR <| eB <| ?_
  refine eR <| eB <| eR <| WE.ret2 (P := Tryz.prog) (.inl rfl) Tryz.results93 (resRow rfl many_119 rfl) (resRow rfl many_120 rfl) <| ?_
  have e0 : decD AtL.zero.d [] xs = .inr (8, strOf al) := (by rw [hdec]; exact decD_fail (by omega) hnsx (by rw [← hal, ← hvl]; rw [stepD_k hk18]; exact takeD_8 hnf hnz (by omega) hq3))
  exact fun w' h => RDecP.no e0 h
  refine zW many_119 rfl rfl <| zH <| rA 1 [2, 3] rfl <| qV (v_convBS (fOf al) rfl rfl Tryz.underlying25 Tryz.underlying5 Tryz.underlying9 (fun w' hS' _ => ⟨b, sAddr o k cv 1, rfl, rd_u8s (hWa.st hS').at_⟩)) rfl <| qV (v_build rfl rfl zero_120 plc_120 rfl) rfl <| WQ.nilR <| rO 0 [5] <| zW many_120 rfl rfl <| zH <| rD <| eN <| cE <| eR <| eB <| ?_
  refine eR <| eB <| eR <| WE.ret2 (P := Tryz.prog) (.inl rfl) Tryz.results93 (resRow rfl many_119 rfl) (resRow rfl many_120 rfl) <| ?_
  have e0 : decD AtL.zero.d [] xs = .inr (8, strOf al) := (by rw [hdec]; exact decD_fail (by omega) hnsx (by rw [← hal, ← hvl]; rw [stepD_k hk18]; exact takeD_8 hnf hnz (by omega) hq3))
  exact fun w' h => RDecP.no e0 h
  refine zV (v_not rfl rfl rfl) rfl <| zN <| cF rfl <| cK <| eN <| cS <| cR <| zM rfl <| ?_
  refine zV ((v_eql rfl rfl rfl).f (by omega)) rfl ?_
  refine zN <| cF rfl <| cK <| eN <| cS <| cR <| zM rfl <| ?_
  refine zV ((v_eql rfl rfl rfl).f (by omega)) rfl ?_
  refine zN <| cF rfl <| cK <| eN <| cS <| cR <| zM rfl <| ?_
  refine zV ((v_eql rfl rfl rfl).f (by omega)) rfl ?_
  refine zN <| cF rfl <| cK <| eN <| cR <| zM rfl <| ?_
  refine zV ((v_eql rfl rfl rfl).f (by omega)) rfl ?_
  refine zN <| cF rfl <| cK <| eb <| ?_
  have htk : takeD d al vl = .inl ({ d with has := d.has + 2 ^ t, hop := readI vl }) := (by
    have := takeD_ok (d := d) (d' := { d with hop := readI vl }) hnf hnz (by omega) (by rw [htn, show t = 3 by omega]; rfl) (by intro h; omega) (by intro h; omega) (by intro _; exact hq3)
    rw [this, htn])
  have hdd : AtL.d { a with has := a.has + 2 ^ t, hop := readI vl } = { ({ d with has := d.has + 2 ^ t, hop := readI vl } : AtD) with others := sortO d.others } := (by
    rw [show AtL.d { a with has := a.has + 2 ^ t, hop := readI vl } = { a.d with has := a.has + 2 ^ t, hop := readI vl } from rfl, hsame, hah])
  exact WE.next ⟨k + toN (xs.drop k), { d with has := d.has + 2 ^ t, hop := readI vl }, fOf al 1 :: seen, { a with has := a.has + 2 ^ t, hop := readI vl }, esU, cU, _, E, K⟩ (by dsimp only; omega) (hfin _ _ _ (fun _ h => h) ⟨hown.path, hown.segs, hown.comms⟩ rfl rfl rfl (.inr ⟨rfl, rfl⟩) htk hdd) (.cons rfl (.cons rfl (.cons rfl (.cons rfl (.cons rfl (.cons rfl (.cons rfl (.cons rfl .nil)))))))) (.refl _)
  refine zN <| cF rfl <| cK <| eN <| cS <| cR <| zM rfl <| ?_
  refine zT (v_eql rfl rfl rfl) rfl (fun h269 => ?_) (fun h269 => ?_)
  refine zN <| cT rfl <| WC.region <| zM rfl <| ?_
  have hl4 := hz4 (by omega)
  have hrb := readI_b 4 vl hl4 hWv.bys
  have hp4 : (256 : Int) ^ 4 = 4294967296 := (by decide)
  refine zK ck_116 rfl ?_
  intro w hS
  refine Calls.then (RNum_c _ b vo vc vl (hWv.st hS) (by omega)) hS ?_
  refine zF rfl fld_119_4 <| zO one_3 rfl rfl <| WL.as (L' := E ++ (K ++ (.obj g24 (.map esU cU) :: .row g23 sizeL :: .row g22 wantL :: .row g4 (AtL.rcells { a with has := a.has + 2 ^ t, med := readI vl }) :: .row g3 (fltL 0 0 ⟨#[]⟩) :: [.row g2 AtL.zero.rcells]))) rfl <| zN <| cS <| cR <| zM rfl <| ?_
  refine zV ((v_eql rfl rfl rfl).f (by omega)) rfl ?_
  refine zN <| cF rfl <| cK <| eN <| cS <| cR <| zM rfl <| ?_
  refine zV ((v_eql rfl rfl rfl).f (by omega)) rfl ?_
  refine zN <| cF rfl <| cK <| eN <| cR <| zM rfl <| ?_
  refine zV ((v_eql rfl rfl rfl).f (by omega)) rfl ?_
  refine zN <| cF rfl <| cK <| eb <| ?_
  have htk : takeD d al vl = .inl ({ d with has := d.has + 2 ^ t, med := readI vl }) := (by
    have := takeD_ok (d := d) (d' := { d with med := readI vl }) hnf hnz (by omega) (by rw [htn, show t = 4 by omega]; rfl) (by intro h; omega) (by intro h; omega) (by intro h; omega)
    rw [this, htn])
  have hdd : AtL.d { a with has := a.has + 2 ^ t, med := readI vl } = { ({ d with has := d.has + 2 ^ t, med := readI vl } : AtD) with others := sortO d.others } := (by
    rw [show AtL.d { a with has := a.has + 2 ^ t, med := readI vl } = { a.d with has := a.has + 2 ^ t, med := readI vl } from rfl, hsame, hah])
  exact WE.next ⟨k + toN (xs.drop k), { d with has := d.has + 2 ^ t, med := readI vl }, fOf al 1 :: seen, { a with has := a.has + 2 ^ t, med := readI vl }, esU, cU, _, E, K⟩ (by dsimp only; omega) (hfin _ _ _ (fun _ h => h) ⟨hown.path, hown.segs, hown.comms⟩ rfl rfl rfl (.inr ⟨rfl, rfl⟩) htk hdd) (.cons rfl (.cons rfl (.cons rfl (.cons rfl (.cons rfl (.cons rfl (.cons rfl (.cons rfl .nil)))))))) (.refl _)
  refine zN <| cF rfl <| cK <| eN <| cS <| cR <| zM rfl <| ?_
  refine zT (v_eql rfl rfl rfl) rfl (fun h274 => ?_) (fun h274 => ?_)
  refine zN <| cT rfl <| WC.region <| zM rfl <| ?_
  have hl4 := hz4 (by omega)
  have hrb := readI_b 4 vl hl4 hWv.bys
  have hp4 : (256 : Int) ^ 4 = 4294967296 := (by decide)
  refine zK ck_116 rfl ?_
  intro w hS
  refine Calls.then (RNum_c _ b vo vc vl (hWv.st hS) (by omega)) hS ?_
  refine zF rfl fld_119_5 <| zO one_3 rfl rfl <| WL.as (L' := E ++ (K ++ (.obj g24 (.map esU cU) :: .row g23 sizeL :: .row g22 wantL :: .row g4 (AtL.rcells { a with has := a.has + 2 ^ t, loc := readI vl }) :: .row g3 (fltL 0 0 ⟨#[]⟩) :: [.row g2 AtL.zero.rcells]))) rfl <| zN <| cS <| cR <| zM rfl <| ?_
  refine zV ((v_eql rfl rfl rfl).f (by omega)) rfl ?_
  refine zN <| cF rfl <| cK <| eN <| cR <| zM rfl <| ?_
  refine zV ((v_eql rfl rfl rfl).f (by omega)) rfl ?_
  refine zN <| cF rfl <| cK <| eb <| ?_
  have htk : takeD d al vl = .inl ({ d with has := d.has + 2 ^ t, loc := readI vl }) := (by
    have := takeD_ok (d := d) (d' := { d with loc := readI vl }) hnf hnz (by omega) (by rw [htn, show t = 5 by omega]; rfl) (by intro h; omega) (by intro h; omega) (by intro h; omega)
    rw [this, htn])
  have hdd : AtL.d { a with has := a.has + 2 ^ t, loc := readI vl } = { ({ d with has := d.has + 2 ^ t, loc := readI vl } : AtD) with others := sortO d.others } := (by
    rw [show AtL.d { a with has := a.has + 2 ^ t, loc := readI vl } = { a.d with has := a.has + 2 ^ t, loc := readI vl } from rfl, hsame, hah])
  exact WE.next ⟨k + toN (xs.drop k), { d with has := d.has + 2 ^ t, loc := readI vl }, fOf al 1 :: seen, { a with has := a.has + 2 ^ t, loc := readI vl }, esU, cU, _, E, K⟩ (by dsimp only; omega) (hfin _ _ _ (fun _ h => h) ⟨hown.path, hown.segs, hown.comms⟩ rfl rfl rfl (.inr ⟨rfl, rfl⟩) htk hdd) (.cons rfl (.cons rfl (.cons rfl (.cons rfl (.cons rfl (.cons rfl (.cons rfl (.cons rfl .nil)))))))) (.refl _)
  refine zN <| cF rfl <| cK <| eN <| cS <| cR <| zM rfl <| ?_
  refine zT (v_eql rfl rfl rfl) rfl (fun h279 => ?_) (fun h279 => ?_)
  refine zN <| cT rfl <| cR <| zM rfl <| ?_
  have hl7 := hz7 (by omega)
  have hla : (vl.take 2).length = 2 := (by rw [List.length_take]; omega)
  have hlb : (vl.drop 2).length = 4 := (by rw [List.length_drop]; omega)
  refine zV ((v_slice_hi (hi := 2) rfl rfl rfl Tryz.underlying25 sz_5 rfl (by omega))) rfl ?_
  refine zK ck_116 rfl ?_
  intro w hS
  refine Calls.then (by rw [show (Value.slice (some ⟨b, vo, none⟩) 2 vc) = .slice (some ⟨b, vo, none⟩) (vl.take 2).length vc by rw [hla]]; exact RNum_c _ b vo vc (vl.take 2) ((hWv.take 2).st hS) (by omega)) hS ?_
  refine zF rfl fld_119_6 <| zO one_3 rfl rfl <| WL.as (L' := E ++ (K ++ (.obj g24 (.map esU cU) :: .row g23 sizeL :: .row g22 wantL :: .row g4 (AtL.rcells { a with has := a.has + 2 ^ t, aas := readI (vl.take 2) }) :: .row g3 (fltL 0 0 ⟨#[]⟩) :: [.row g2 AtL.zero.rcells]))) rfl <| zN <| WC.region <| zM rfl <| ?_
  refine zV ((v_slice_lo (lo := 2) rfl rfl rfl Tryz.underlying25 sz_5 rfl (by omega))) rfl ?_
  refine zK ck_116 rfl ?_
  intro w hS
  refine Calls.then (by rw [show vl.length - 2 = (vl.drop 2).length by omega]; exact RNum_c _ b (sAddr vo 2 vc 1) (vc - 2) (vl.drop 2) ((hWv.drop 2).st hS) (by omega)) hS ?_
  refine zF rfl fld_119_7 <| zO one_3 rfl rfl <| WL.as (L' := E ++ (K ++ (.obj g24 (.map esU cU) :: .row g23 sizeL :: .row g22 wantL :: .row g4 (AtL.rcells { a with has := a.has + 2 ^ t, aas := readI (vl.take 2), aid := readI (vl.drop 2) }) :: .row g3 (fltL 0 0 ⟨#[]⟩) :: [.row g2 AtL.zero.rcells]))) rfl <| zR <| zM rfl <| ?_
  refine zV ((v_eql rfl rfl rfl).f (by omega)) rfl ?_
  refine zN <| cF rfl <| cK <| eb <| ?_
  have htk : takeD d al vl = .inl ({ d with has := d.has + 2 ^ t, aas := readI (vl.take 2), aid := readI (vl.drop 2) }) := (by
    have := takeD_ok (d := d) (d' := { d with aas := readI (vl.take 2), aid := readI (vl.drop 2) }) hnf hnz (by omega) (by rw [htn, show t = 7 by omega]; rfl) (by intro h; omega) (by intro h; omega) (by intro h; omega)
    rw [this, htn])
  have hdd : AtL.d { a with has := a.has + 2 ^ t, aas := readI (vl.take 2), aid := readI (vl.drop 2) } = { ({ d with has := d.has + 2 ^ t, aas := readI (vl.take 2), aid := readI (vl.drop 2) } : AtD) with others := sortO d.others } := (by
    rw [show AtL.d { a with has := a.has + 2 ^ t, aas := readI (vl.take 2), aid := readI (vl.drop 2) } = { a.d with has := a.has + 2 ^ t, aas := readI (vl.take 2), aid := readI (vl.drop 2) } from rfl, hsame, hah])
  exact WE.next ⟨k + toN (xs.drop k), { d with has := d.has + 2 ^ t, aas := readI (vl.take 2), aid := readI (vl.drop 2) }, fOf al 1 :: seen, { a with has := a.has + 2 ^ t, aas := readI (vl.take 2), aid := readI (vl.drop 2) }, esU, cU, _, E, K⟩ (by dsimp only; omega) (hfin _ _ _ (fun _ h => h) ⟨hown.path, hown.segs, hown.comms⟩ rfl rfl rfl (.inr ⟨rfl, rfl⟩) htk hdd) (.cons rfl (.cons rfl (.cons rfl (.cons rfl (.cons rfl (.cons rfl (.cons rfl (.cons rfl .nil)))))))) (.refl _)
  refine zN <| cF rfl <| cK <| eN <| cR <| zM rfl <| ?_
  refine zT (v_eql rfl rfl rfl) rfl (fun h289 => ?_) (fun h289 => ?_)
  refine zN <| cT rfl <| cS <| cR <| zM rfl <| zV (v_len_slice rfl rfl Tryz.underlying25) rfl <| ?_
  refine zT (v_gtr rfl rfl rfl) rfl (fun h292 => ?_) (fun h292 => ?_)
  refine zN <| cT rfl <| cS <| WC.orders mixed <| rF 4 [0, 1] <| pV (v_build rfl rfl zero_119 plc_119 rfl) rfl <| pV (v_move rfl rfl) rfl <| WP.nil <| ?_
  refine WR.each (g := 3) [2, 4] (by kernel_rfl) (by decide) ?_
  refine ⟨?_, ?_⟩
  refine zV (v_convBS (fOf al) rfl rfl Tryz.underlying25 Tryz.underlying5 Tryz.underlying9 (fun w' hS' _ => ⟨b, sAddr o k cv 1, rfl, rd_u8s (hWa.st hS').at_⟩)) rfl <| zH <| rF 2 [3] <| pV (v_build rfl rfl zero_120 plc_120 rfl) rfl <| WP.nil <| rO 0 [4, 5] <| zW many_119 rfl rfl <| zW many_120 rfl rfl <| zH <| rD <| eN <| cE <| eR <| eB <| ?_
  refine eR <| eB <| eR <| WE.ret2 (P := Tryz.prog) (.inl rfl) Tryz.results93 (resRow rfl many_119 rfl) (resRow rfl many_120 rfl) <| ?_
  have e0 : decD AtL.zero.d [] xs = .inr (9, strOf al) := (by rw [hdec]; exact decD_fail (by omega) hnsx (by rw [← hal, ← hvl]; rw [stepD_k hk18]; exact takeD_9 hnf hnz ⟨by omega, by omega⟩))
  exact fun w' h => RDecP.no e0 h
  refine zW many_119 rfl rfl <| zH <| rA 1 [2, 3] rfl <| qV (v_convBS (fOf al) rfl rfl Tryz.underlying25 Tryz.underlying5 Tryz.underlying9 (fun w' hS' _ => ⟨b, sAddr o k cv 1, rfl, rd_u8s (hWa.st hS').at_⟩)) rfl <| qV (v_build rfl rfl zero_120 plc_120 rfl) rfl <| WQ.nilR <| rO 0 [5] <| zW many_120 rfl rfl <| zH <| rD <| eN <| cE <| eR <| eB <| ?_
  refine eR <| eB <| eR <| WE.ret2 (P := Tryz.prog) (.inl rfl) Tryz.results93 (resRow rfl many_119 rfl) (resRow rfl many_120 rfl) <| ?_
  have e0 : decD AtL.zero.d [] xs = .inr (9, strOf al) := (by rw [hdec]; exact decD_fail (by omega) hnsx (by rw [← hal, ← hvl]; rw [stepD_k hk18]; exact takeD_9 hnf hnz ⟨by omega, by omega⟩))
  exact fun w' h => RDecP.no e0 h
  refine zN <| cF rfl <| cK <| eN <| cR <| ?_
  obtain ⟨e81, e82⟩ := hcom (by rw [← show fOf al 1 = 8 by omega]; exact hns6)
  have e83 : a.comms = [] := (by
    have h1 := hseen.com (by rw [← show fOf al 1 = 8 by omega]; exact hns6)
    have h2 := congrArg AtD.comms hsame
    exact h2.trans h1)
  have hl8 := hz8 (by omega)
  have ea8 : ({ a with has := a.has + 2 ^ t } : AtL) = { a with has := a.has + 2 ^ t, cad := none, cc := 0, comms := [] } := (by rw [← e81, ← e82, ← e83])
  rw [ea8]
  refine zA rfl <| zN <| cB <| ?_
  refine WC.loop (fun y : Nat × List Int × Option Addr × Nat × List Ent => [(20, .int .i64 y.1), (13, .slice (some ⟨b, vo, none⟩) vl.length vc), (12, .int .i64 t), (8, .int .i64 ((k + toN (xs.drop k) : Nat) : Int)), (7, .map (some g24)), (6, .slice (some ⟨g23, 0, none⟩) 9 9), (5, .slice (some ⟨g22, 0, none⟩) 9 9), (4, .pointer (some ⟨g4, 0, none⟩)), (3, .pointer (some ⟨g3, 0, none⟩)), (2, .pointer (some ⟨g2, 0, none⟩)), (0, .slice (some ⟨b, o, none⟩) xs.length cv)]) (fun y => y.2.2.2.2 ++ (E ++ (K ++ (.obj g24 (.map esU cU) :: .row g23 sizeL :: .row g22 wantL :: .row g4 (AtL.rcells { a with has := a.has + 2 ^ t, cad := y.2.2.1, cc := y.2.2.2.1, comms := y.2.1 }) :: .row g3 (fltL 0 0 ⟨#[]⟩) :: [.row g2 AtL.zero.rcells])))) (fun y => y.1 ≤ vl.length ∧ y.1 % 4 = 0 ∧ y.2.1 ++ fours (vl.drop y.1) = fours vl ∧ Vec 1 y.2.2.1 y.2.1.length y.2.2.2.1 (i64s y.2.1) y.2.2.2.2 ∧ y.2.1.length ≤ y.1) (fun y => vl.length - y.1) (0, [], none, 0, []) ⟨Nat.zero_le _, rfl, by dsimp only; rw [List.drop_zero]; rfl, Vec.nil 1, Nat.zero_le _⟩ (.cons rfl (.cons rfl (.cons rfl (.cons rfl (.cons rfl (.cons rfl (.cons rfl (.cons rfl (.cons rfl (.cons rfl (.cons rfl .nil))))))))))) (.refl _) ?_
  rintro ⟨i, cs, ad, cc, E8⟩ ⟨hi, hi4, hy, hV8, hcl⟩
  dsimp only at hi hi4 hy hV8 hcl
  dsimp only
  refine cS <| cR <| zM rfl <| zM rfl <| zV (v_len_slice rfl rfl Tryz.underlying25) rfl <| ?_
  refine zT (v_lss rfl rfl rfl) rfl (fun h300 => ?_) (fun h300 => ?_)
  refine zN <| cT rfl <| cK <| eN <| cS <| cB <| WC.orders mixed <| rF 6 [0, 2, 3, 4, 5, 6] <| pV (v_fieldAddr0 rfl rfl fld_119_8) rfl <| ?_
  obtain ⟨x0, x1, x2, x3, zs, hdr⟩ := four_of (xs := vl.drop i) (by rw [List.length_drop]; omega)
  have hnum : (vl.take (i + 4)).drop i = [x0, x1, x2, x3] := (by rw [List.drop_take, hdr, show i + 4 - i = 4 by omega]; rfl)
  have hzs : vl.drop (i + 4) = zs := (by rw [← List.drop_drop, hdr]; rfl)
  rw [hdr, show fours (x0 :: x1 :: x2 :: x3 :: zs) = readI [x0, x1, x2, x3] :: fours zs from rfl] at hy
  refine pV (v_move rfl rfl) rfl <| pV (v_move rfl rfl) rfl <| pV (v_move rfl rfl) rfl <| ?_
  refine pV (v_add rfl rfl rfl (show _ = ((i + 4 : Nat) : Int) from (w_i64 (by omega) (by omega)).trans (by omega))) rfl ?_
  refine pV ((v_slice_lh (lo := i) (hi := i + 4) rfl rfl rfl rfl Tryz.underlying25 sz_5 rfl rfl (by omega) (by omega))) rfl ?_
  refine WP.nil ?_
  refine WR.each (g := 5) [1, 7] (by kernel_rfl) (by decide) ?_
  refine ⟨?_, ?_⟩
  refine zL rfl one_32 rfl <| zH <| rA 4 [7] rfl <| ?_
  refine WQ.call _ rfl rfl ck_116 (.none rfl) rfl rfl (fun w hS => Calls.still (by have := (hWv.st hS).numk i (i + 4) (by omega) (by omega) (by omega); rw [hnum] at this; exact this) hS) ?_
  refine WQ.nilR <| rO 2 [8, 9] <| zB Tryz.underlying32 sz_3 zero_3 rfl rfl <| ?_
  intro g311 hg311
  refine WL.as (L' := .row g311 (i64s [readI [x0, x1, x2, x3]]) :: (E8 ++ (E ++ (K ++ (.obj g24 (.map esU cU) :: .row g23 sizeL :: .row g22 wantL :: .row g4 (AtL.rcells { a with has := a.has + 2 ^ t, cad := ad, cc := cc, comms := cs }) :: .row g3 (fltL 0 0 ⟨#[]⟩) :: [.row g2 AtL.zero.rcells]))))) rfl <| WL.to (L' := E8 ++ (.row g311 (i64s [readI [x0, x1, x2, x3]]) :: (E ++ (K ++ (.obj g24 (.map esU cU) :: .row g23 sizeL :: .row g22 wantL :: .row g4 (AtL.rcells { a with has := a.has + 2 ^ t, cad := ad, cc := cc, comms := cs }) :: .row g3 (fltL 0 0 ⟨#[]⟩) :: [.row g2 AtL.zero.rcells]))))) (fun w hS => hS.front [_]) <| ?_
  refine WL.appendL rfl rfl rfl Tryz.underlying32 Tryz.underlying32 sz_3 by_3 zero_3 rfl rfl hV8 (new := i64s [readI [x0, x1, x2, x3]]) (fun _ => ⟨g311, 0, rfl, fun w hS => allAt (g := g311) w hS⟩) rfl (i64s_one _) (by dsimp only; omega) (.none rfl) rfl rfl ?_
  intro ad312 c312 E312 hV312 hr312
  rw [← i64s_app] at hV312
  rw [show cs.length + 1 = (cs ++ [readI [x0, x1, x2, x3]]).length by rw [List.length_append]; rfl] at hV312 ⊢
  refine zH <| rF 1 [10] <| pV (v_fieldAddr0 rfl rfl fld_119_8) rfl <| WP.nil <| rO 0 [11] <| zO one_32 rfl rfl <| WL.as (L' := E312 ++ (.row g311 (i64s [readI [x0, x1, x2, x3]]) :: (E ++ (K ++ (.obj g24 (.map esU cU) :: .row g23 sizeL :: .row g22 wantL :: .row g4 (AtL.rcells { a with has := a.has + 2 ^ t, cad := ad312, cc := c312, comms := (cs ++ [readI [x0, x1, x2, x3]]) }) :: .row g3 (fltL 0 0 ⟨#[]⟩) :: [.row g2 AtL.zero.rcells]))))) rfl <| zH <| rD <| eb <| eN <| WC.region <| zM rfl <| ?_
  refine zV (v_add rfl rfl rfl (show _ = ((i + 4 : Nat) : Int) from (w_i64 (by omega) (by omega)).trans (by omega))) rfl ?_
  skip
  refine zA rfl <| WL.nil <| ?_
  exact WE.next (i + 4, cs ++ [readI [x0, x1, x2, x3]], ad312, c312, E312) (by dsimp only; omega) ⟨by dsimp only; omega, by dsimp only; omega, by dsimp only; rw [List.append_assoc, hzs]; exact hy, hV312, by dsimp only; rw [List.length_append]; show _ + 1 ≤ _; omega⟩ (.cons rfl (.cons rfl (.cons rfl (.cons rfl (.cons rfl (.cons rfl (.cons rfl (.cons rfl (.cons rfl (.cons rfl (.cons rfl .nil))))))))))) (List.Sublist.append_left (.cons _ (.refl _)) _)
  refine zK ck_116 rfl ?_
  intro w hS
  refine Calls.then (by have := (hWv.st hS).numk i (i + 4) (by omega) (by omega) (by omega); rw [hnum] at this; exact this) hS ?_
  refine zH ?_
  refine WR.each (g := 4) [1, 8] (by kernel_rfl) (by decide) ?_
  refine ⟨?_, ?_⟩
  refine zL rfl one_32 rfl <| zH <| rO 2 [8, 9] <| zB Tryz.underlying32 sz_3 zero_3 rfl rfl <| ?_
  intro g311 hg311
  refine WL.as (L' := .row g311 (i64s [readI [x0, x1, x2, x3]]) :: (E8 ++ (E ++ (K ++ (.obj g24 (.map esU cU) :: .row g23 sizeL :: .row g22 wantL :: .row g4 (AtL.rcells { a with has := a.has + 2 ^ t, cad := ad, cc := cc, comms := cs }) :: .row g3 (fltL 0 0 ⟨#[]⟩) :: [.row g2 AtL.zero.rcells]))))) rfl <| WL.to (L' := E8 ++ (.row g311 (i64s [readI [x0, x1, x2, x3]]) :: (E ++ (K ++ (.obj g24 (.map esU cU) :: .row g23 sizeL :: .row g22 wantL :: .row g4 (AtL.rcells { a with has := a.has + 2 ^ t, cad := ad, cc := cc, comms := cs }) :: .row g3 (fltL 0 0 ⟨#[]⟩) :: [.row g2 AtL.zero.rcells]))))) (fun w hS => hS.front [_]) <| ?_
  refine WL.appendL rfl rfl rfl Tryz.underlying32 Tryz.underlying32 sz_3 by_3 zero_3 rfl rfl hV8 (new := i64s [readI [x0, x1, x2, x3]]) (fun _ => ⟨g311, 0, rfl, fun w hS => allAt (g := g311) w hS⟩) rfl (i64s_one _) (by dsimp only; omega) (.none rfl) rfl rfl ?_
  intro ad312 c312 E312 hV312 hr312
  rw [← i64s_app] at hV312
  rw [show cs.length + 1 = (cs ++ [readI [x0, x1, x2, x3]]).length by rw [List.length_append]; rfl] at hV312 ⊢
  refine zH <| rF 1 [10] <| pV (v_fieldAddr0 rfl rfl fld_119_8) rfl <| WP.nil <| rO 0 [11] <| zO one_32 rfl rfl <| WL.as (L' := E312 ++ (.row g311 (i64s [readI [x0, x1, x2, x3]]) :: (E ++ (K ++ (.obj g24 (.map esU cU) :: .row g23 sizeL :: .row g22 wantL :: .row g4 (AtL.rcells { a with has := a.has + 2 ^ t, cad := ad312, cc := c312, comms := (cs ++ [readI [x0, x1, x2, x3]]) }) :: .row g3 (fltL 0 0 ⟨#[]⟩) :: [.row g2 AtL.zero.rcells]))))) rfl <| zH <| rD <| eb <| eN <| WC.region <| zM rfl <| ?_
  refine zV (v_add rfl rfl rfl (show _ = ((i + 4 : Nat) : Int) from (w_i64 (by omega) (by omega)).trans (by omega))) rfl ?_
  skip
  refine zA rfl <| WL.nil <| ?_
  exact WE.next (i + 4, cs ++ [readI [x0, x1, x2, x3]], ad312, c312, E312) (by dsimp only; omega) ⟨by dsimp only; omega, by dsimp only; omega, by dsimp only; rw [List.append_assoc, hzs]; exact hy, hV312, by dsimp only; rw [List.length_append]; show _ + 1 ≤ _; omega⟩ (.cons rfl (.cons rfl (.cons rfl (.cons rfl (.cons rfl (.cons rfl (.cons rfl (.cons rfl (.cons rfl (.cons rfl (.cons rfl .nil))))))))))) (List.Sublist.append_left (.cons _ (.refl _)) _)
  refine zB Tryz.underlying32 sz_3 zero_3 rfl rfl ?_
  intro g311 hg311
  refine WL.as (L' := .row g311 (i64s [readI [x0, x1, x2, x3]]) :: (E8 ++ (E ++ (K ++ (.obj g24 (.map esU cU) :: .row g23 sizeL :: .row g22 wantL :: .row g4 (AtL.rcells { a with has := a.has + 2 ^ t, cad := ad, cc := cc, comms := cs }) :: .row g3 (fltL 0 0 ⟨#[]⟩) :: [.row g2 AtL.zero.rcells]))))) rfl <| WL.to (L' := E8 ++ (.row g311 (i64s [readI [x0, x1, x2, x3]]) :: (E ++ (K ++ (.obj g24 (.map esU cU) :: .row g23 sizeL :: .row g22 wantL :: .row g4 (AtL.rcells { a with has := a.has + 2 ^ t, cad := ad, cc := cc, comms := cs }) :: .row g3 (fltL 0 0 ⟨#[]⟩) :: [.row g2 AtL.zero.rcells]))))) (fun w hS => hS.front [_]) <| zH <| rA 3 [1] rfl <| qV (v_load1 rfl rfl one_32 (cellAt rfl)) rfl <| WQ.nilR <| rO 2 [9] <| ?_
  refine WL.appendL rfl rfl rfl Tryz.underlying32 Tryz.underlying32 sz_3 by_3 zero_3 rfl rfl hV8 (new := i64s [readI [x0, x1, x2, x3]]) (fun _ => ⟨g311, 0, rfl, fun w hS => allAt (g := g311) w hS⟩) rfl (i64s_one _) (by dsimp only; omega) (.none rfl) rfl rfl ?_
  intro ad312 c312 E312 hV312 hr312
  rw [← i64s_app] at hV312
  rw [show cs.length + 1 = (cs ++ [readI [x0, x1, x2, x3]]).length by rw [List.length_append]; rfl] at hV312 ⊢
  refine zH <| rF 1 [10] <| pV (v_fieldAddr0 rfl rfl fld_119_8) rfl <| WP.nil <| rO 0 [11] <| zO one_32 rfl rfl <| WL.as (L' := E312 ++ (.row g311 (i64s [readI [x0, x1, x2, x3]]) :: (E ++ (K ++ (.obj g24 (.map esU cU) :: .row g23 sizeL :: .row g22 wantL :: .row g4 (AtL.rcells { a with has := a.has + 2 ^ t, cad := ad312, cc := c312, comms := (cs ++ [readI [x0, x1, x2, x3]]) }) :: .row g3 (fltL 0 0 ⟨#[]⟩) :: [.row g2 AtL.zero.rcells]))))) rfl <| zH <| rD <| eb <| eN <| WC.region <| zM rfl <| ?_
  refine zV (v_add rfl rfl rfl (show _ = ((i + 4 : Nat) : Int) from (w_i64 (by omega) (by omega)).trans (by omega))) rfl ?_
  skip
  refine zA rfl <| WL.nil <| ?_
  exact WE.next (i + 4, cs ++ [readI [x0, x1, x2, x3]], ad312, c312, E312) (by dsimp only; omega) ⟨by dsimp only; omega, by dsimp only; omega, by dsimp only; rw [List.append_assoc, hzs]; exact hy, hV312, by dsimp only; rw [List.length_append]; show _ + 1 ≤ _; omega⟩ (.cons rfl (.cons rfl (.cons rfl (.cons rfl (.cons rfl (.cons rfl (.cons rfl (.cons rfl (.cons rfl (.cons rfl (.cons rfl .nil))))))))))) (List.Sublist.append_left (.cons _ (.refl _)) _)
  refine zN <| cF rfl <| cX <| eX <| eX <| eH <| eb <| ?_
  have hcs : cs = fours vl := (by rw [← hy, List.drop_eq_nil_of_le (by omega)]; exact (List.append_nil _).symm)
  have hdc : d.comms = [] := hseen.com (by rw [← show fOf al 1 = 8 by omega]; exact hns6)
  have htk : takeD d al vl = .inl { d with has := d.has + 2 ^ t, comms := cs } := (by
    have := takeD_ok (d := d) (d' := { d with comms := cs }) hnf hnz (by omega) (by rw [htn, show t = 8 by omega]; show some { d with comms := d.comms ++ fours vl } = _; rw [hdc, hcs]; rfl) (by intro h; omega) (by intro h; omega) (by intro h; omega)
    rw [this, htn])
  have hdd : AtL.d { a with has := a.has + 2 ^ t, cad := ad, cc := cc, comms := cs } = { ({ d with has := d.has + 2 ^ t, comms := cs } : AtD) with others := sortO d.others } := (by
    rw [show AtL.d { a with has := a.has + 2 ^ t, cad := ad, cc := cc, comms := cs } = { a.d with has := a.has + 2 ^ t, comms := cs } from rfl, hsame, hah])
  have hA8 : AtOwn (E8 ++ K) { a with has := a.has + 2 ^ t, cad := ad, cc := cc, comms := cs } := ⟨(by
    obtain ⟨E', r1, r2⟩ := hown.path
    exact ⟨E', r1, fun e he => List.mem_append_right _ (r2 e he)⟩), fun s hs => (by
    obtain ⟨E', r1, r2⟩ := hown.segs s hs
    exact ⟨E', r1, fun e he => List.mem_append_right _ (r2 e he)⟩), ⟨E8, hV8, fun e he => List.mem_append_left _ he⟩⟩
  exact WE.to (L' := E ++ ((E8 ++ K) ++ (.obj g24 (.map esU cU) :: .row g23 sizeL :: .row g22 wantL :: .row g4 (AtL.rcells { a with has := a.has + 2 ^ t, cad := ad, cc := cc, comms := cs }) :: .row g3 (fltL 0 0 ⟨#[]⟩) :: [.row g2 AtL.zero.rcells]))) (fun w hS => hS.permC (by intro c h1 h2 h3 e; simp only [h1, h3]; omega)) (WE.next ⟨k + toN (xs.drop k), { d with has := d.has + 2 ^ t, comms := cs }, fOf al 1 :: seen, { a with has := a.has + 2 ^ t, cad := ad, cc := cc, comms := cs }, esU, cU, _, E, E8 ++ K⟩ (by dsimp only; omega) (hfin _ _ _ (fun e he => List.mem_append_right _ he) hA8 rfl rfl rfl (.inl (by omega)) htk hdd) (.cons rfl (.cons rfl (.cons rfl (.cons rfl (.cons rfl (.cons rfl (.cons rfl (.cons rfl .nil)))))))) (.refl _))
  refine zN <| cF rfl <| cK <| eb <| ?_
  have htk : takeD d al vl = .inl ({ d with has := d.has + 2 ^ t }) := (by
    have := takeD_ok (d := d) (d' := d) hnf hnz (by omega) (by rw [htn, show t = 6 by omega]; rfl) (by intro h; omega) (by intro h; omega) (by intro h; omega)
    rw [this, htn])
  have hdd : AtL.d { a with has := a.has + 2 ^ t } = { ({ d with has := d.has + 2 ^ t } : AtD) with others := sortO d.others } := (by
    rw [show AtL.d { a with has := a.has + 2 ^ t } = { a.d with has := a.has + 2 ^ t } from rfl, hsame, hah])
  exact WE.next ⟨k + toN (xs.drop k), { d with has := d.has + 2 ^ t }, fOf al 1 :: seen, { a with has := a.has + 2 ^ t }, esU, cU, _, E, K⟩ (by dsimp only; omega) (hfin _ _ _ (fun _ h => h) ⟨hown.path, hown.segs, hown.comms⟩ rfl rfl rfl (.inr ⟨rfl, rfl⟩) htk hdd) (.cons rfl (.cons rfl (.cons rfl (.cons rfl (.cons rfl (.cons rfl (.cons rfl (.cons rfl .nil)))))))) (.refl _)
  refine zN <| cF rfl <| cX <| eX <| eX <| eH <| eN <| cR <| zV (v_loadN rfl rfl many_119 rfl allAt) rfl <| zV (v_build rfl rfl zero_120 plc_120 rfl) rfl <| zW many_119 rfl rfl <| zW many_120 rfl rfl <| zN <| ?_
  refine cE <| WE.ret2 (P := Tryz.prog) (.inl rfl) Tryz.results93 (resRow rfl many_119 rfl) (resRow rfl many_120 rfl) <| ?_
  have e0 : decD AtL.zero.d [] xs = .inl d := (by rw [hdec, List.drop_eq_nil_of_le (by omega), decD_nil])
  exact fun w' h => by
    unfold RDecP
    rw [e0]
    exact ⟨a, E ++ K, rfl, hsame, ⟨hown.mono fun e he => List.mem_append_right _ he, ⟨E, hoths, fun e he => List.mem_append_left _ he⟩, fun o' ho' => by
      obtain ⟨E', r1, r2⟩ := hvals o' ho'
      exact ⟨E', r1, fun e he => List.mem_append_right _ (r2 e he)⟩⟩, h.sub (List.Sublist.append (.refl _) (List.sublist_append_left _ _))⟩

def RMsP (w w' : World) (xs : List Int) (e : Ending) : Prop :=
  match decM xs with
  | .inr (c, s, d) => e = .returned (.tuple #[.agg (MsL.zero 0).rcells.toArray, .agg (fltL c s d).toArray]) ∧ Frm (fun _ => False) w w'
  | .inl md => ∃ m K, e = .returned (.tuple #[.agg m.rcells.toArray, .agg (fltL 0 0 ⟨#[]⟩).toArray]) ∧ m.d = md ∧ MsAll K m ∧ St (fun _ => False) w w' K
theorem RMsP.no {w w' : World} {xs : List Int} {c s : Int} {d : ByteArray} {L : List Ent} (h : decM xs = .inr (c, s, d)) (hS : St (fun _ => False) w w' L) : RMsP w w' xs (.returned (.tuple #[.agg (MsL.zero 0).rcells.toArray, .agg (fltL c s d).toArray])) := by
  unfold RMsP
  rw [h]
  exact ⟨rfl, hS.frm⟩
theorem RDec06_u (w : World) (b o cv : Nat) (xs : List Int) (hW : Win w b o cv xs) (hn : xs.length ≤ 90000) :
    Calls Tryz.prog 93 #[.slice (some ⟨b, o, none⟩) xs.length cv] w fun e w' => ∃ (ok : Bool) (s : Int) (d : ByteArray) (a : AtL) (K : List Ent), e = .returned (.tuple #[.agg a.rcells.toArray, .agg (fltL (if ok then 0 else 3) s d).toArray]) ∧ AtAll K a ∧ St (fun _ => False) w w' K ∧
      (ok = false → decD AtL.zero.d [] xs = .inr (s, d)) ∧ (ok = true → s = 0 ∧ d = ⟨#[]⟩ ∧ ∃ dd, decD AtL.zero.d [] xs = .inl dd ∧ a.d = { dd with others := sortO dd.others }) :=
  (RDec06_c w b o cv xs hW hn).mono fun e w' h => by
    unfold RDecP at h
    cases hp : decD AtL.zero.d [] xs with
    | inr x =>
      obtain ⟨s, d⟩ := x
      rw [hp] at h
      exact ⟨false, s, d, .zero, [], h.1, AtAll.zero, (St.start _ _).ext h.2, fun _ => rfl, fun e => by cases e⟩
    | inl dd =>
      rw [hp] at h
      obtain ⟨a, K, he, ha, hA, hS⟩ := h
      exact ⟨true, 0, ⟨#[]⟩, a, K, he, hA, hS, (fun e => by cases e), fun _ => ⟨rfl, rfl, dd, rfl, ha⟩⟩
theorem RRead_u (w0 : World) (b o c : Nat) (xs : List Int) (hW : Win w0 b o c xs) (hn : xs.length ≤ 100000) :
    Calls Tryz.prog 92 #[.slice (some ⟨b, o, none⟩) xs.length c] w0 fun e w' => ∃ (ps : List PfL) (ad : Option Addr) (c' : Nat) (E : List Ent) (ok : Bool), e = .returned (.tuple #[.slice ad ps.length c', .bool ok]) ∧ Vec 2 ad ps.length c' (pfsL ps) E ∧ St (fun _ => False) w0 w' E ∧ (ok = false → netsR xs = none) ∧ (ok = true → netsR xs = some ps) :=
  (RRead_c w0 b o c xs hW hn).mono fun e w' h => by
    unfold ReadP at h
    cases hp : netsR xs with
    | none =>
      rw [hp] at h
      exact ⟨[], none, 0, [], false, h.1, Vec.nil 2, (St.start _ _).ext h.2, fun _ => rfl, fun e => by cases e⟩
    | some ps =>
      rw [hp] at h
      obtain ⟨ad, c', E, he, hV, hS⟩ := h
      exact ⟨ps, ad, c', E, true, he, hV, hS, (fun e => by cases e), fun _ => rfl⟩
theorem addrI_of {ys : List Int} (k : Nat) : addrI ((ys.take (k + 4)).drop k) = fOf ys k * 16777216 + fOf ys (k + 1) * 65536 + fOf ys (k + 2) * 256 + fOf ys (k + 3) := by
  have h : ∀ i, i < 4 → fOf ((ys.take (k + 4)).drop k) i = fOf ys (k + i) := fun i hi => by
    rw [fOf_drop]
    unfold fOf
    rw [List.getD_eq_getElem?_getD, List.getD_eq_getElem?_getD, List.getElem?_take, if_pos (by omega)]
  unfold addrI
  rw [h 0 (by omega), h 1 (by omega), h 2 (by omega), h 3 (by omega)]
  rfl
theorem decD_seen {xs : List Int} {dd : AtD} (h : decD AtL.zero.d [] xs = .inl dd) (hB : Bys xs) : 0 ≤ dd.has ∧ dd.has ≤ 511 := by
  obtain ⟨_, seen', hS⟩ := decD_good xs.length xs.length AtL.zero.d [] xs (Nat.le_refl _) (Nat.le_refl _) hB SeenI.zero (AtG.zero _) h
  exact ⟨hS.h0, hS.h1⟩
structure RoS where
  k : Nat
  cs : List CapL
  ad : Option Addr
  kc : Nat
  E : List Ent
  KO : List Ent
theorem RDecBad_c (w0 : World) (b o c : Nat) (xs : List Int) (hW : Win w0 b o c xs) (hn : xs.length ≤ 90000) (C S : Int) (d : ByteArray) (hs : sizeR xs.length (fOf xs) = (0, C, S, d)) (hC : C ≠ 0) :
    Calls Tryz.prog 58 #[.slice (some ⟨b, o, none⟩) xs.length c] w0 fun e w' => RMsP w0 w' xs e := by
  have hle := hW.le
  have e00 : decM xs = .inr (C, S, d) := by unfold decM; rw [hs]; exact if_pos hC
  refine enter Tryz.func58 rfl Tryz.ntmps58 rfl (St.start (fun _ => False) w0) ?_
  refine cR <| WL.alloc rfl zero_122 (.none rfl) rfl rfl <| ?_
  intro g2 hg2
  refine WL.alloc rfl zero_120 (.none rfl) rfl rfl ?_
  intro g3 hg3
  refine zR <| zM rfl <| zK ck_71 rfl <| ?_
  intro w hS
  refine Calls.then (by rw [show (Ending.returned (.tuple #[.int .i64 0, .agg (fltL C S d).toArray])) = .returned (sizeV (sizeR xs.length (fOf xs))) by rw [hs]; rfl]; exact RSize_c w (some ⟨b, o, none⟩) xs.length c (fOf xs) (fOf_byt hW.bys) (fun _ => ⟨b, o, rfl, rd_u8s (hW.st hS).at_⟩) (by omega) hle) hS ?_
  refine zM rfl <| zX rfl <| zX rfl <| WL.alloc rfl zero_120 (.none rfl) rfl rfl <| ?_
  intro g5 hg5
  refine zA rfl <| zW many_120 rfl rfl <| zN <| cS <| cR <| zF rfl fld_120_0 <| zL rfl one_3 rfl <| zV ((v_neq rfl rfl rfl).t (hC)) rfl <| zN <| cT rfl <| cS <| WC.orders mixed <| rF 3 [0] <| ?_
  refine pV (v_build rfl rfl zero_122 plc_122 rfl) rfl <| WP.nil <| ?_
  refine WR.each (g := 2) [1, 2] (by kernel_rfl) (by decide) ?_
  refine ⟨?_, ?_⟩
  refine zV (v_loadN rfl rfl many_120 rfl allAt) rfl <| zH <| rO 0 [2, 3] <| zW many_122 rfl rfl <| zW many_120 rfl rfl <| zH <| rD <| eN <| cE <| eR <| WE.ret2 (P := Tryz.prog) (.inl rfl) Tryz.results58 (resRow rfl many_122 rfl) (resRow rfl many_120 rfl) <| ?_
  exact fun w' h => RMsP.no e00 h
  refine zW many_122 rfl rfl <| zH <| rA 1 [1] rfl <| qV (v_loadN rfl rfl many_120 rfl allAt) rfl <| WQ.nilR <| rO 0 [3] <| zW many_120 rfl rfl <| zH <| rD <| eN <| cE <| eR <| WE.ret2 (P := Tryz.prog) (.inl rfl) Tryz.results58 (resRow rfl many_122 rfl) (resRow rfl many_120 rfl) <| ?_
  exact fun w' h => RMsP.no e00 h
theorem RDecLong_c (w0 : World) (b o c : Nat) (xs : List Int) (hW : Win w0 b o c xs) (hn : xs.length ≤ 90000) (h19 : 19 ≤ xs.length) (hs : sizeR xs.length (fOf xs) = (lenI (fOf xs), 0, 0, ⟨#[]⟩)) (hk : lenI (fOf xs) ≠ xs.length) :
    Calls Tryz.prog 58 #[.slice (some ⟨b, o, none⟩) xs.length c] w0 fun e w' => RMsP w0 w' xs e := by
  have hle := hW.le
  have e00 : decM xs = .inr (1, 2, str (fun i => fOf xs (16 + i)) 2) := by unfold decM; rw [hs]; dsimp only; rw [if_neg (by simp), if_pos hk]
  refine enter Tryz.func58 rfl Tryz.ntmps58 rfl (St.start (fun _ => False) w0) ?_
  refine cR <| WL.alloc rfl zero_122 (.none rfl) rfl rfl <| ?_
  intro g2 hg2
  refine WL.alloc rfl zero_120 (.none rfl) rfl rfl ?_
  intro g3 hg3
  refine zR <| zM rfl <| zK ck_71 rfl <| ?_
  intro w hS
  refine Calls.then (by rw [show (Ending.returned (.tuple #[.int .i64 (lenI (fOf xs)), .agg (fltL 0 0 ⟨#[]⟩).toArray])) = .returned (sizeV (sizeR xs.length (fOf xs))) by rw [hs]; rfl]; exact RSize_c w (some ⟨b, o, none⟩) xs.length c (fOf xs) (fOf_byt hW.bys) (fun _ => ⟨b, o, rfl, rd_u8s (hW.st hS).at_⟩) (by omega) hle) hS ?_
  refine zM rfl <| zX rfl <| zX rfl <| WL.alloc rfl zero_120 (.none rfl) rfl rfl <| ?_
  intro g5 hg5
  refine zA rfl <| zW many_120 rfl rfl <| zN <| cS <| cR <| zF rfl fld_120_0 <| zL rfl one_3 rfl <| ?_
  refine zV ((v_neq rfl rfl rfl).f (by omega)) rfl ?_
  refine zN <| cF rfl <| cK <| eN <| cS <| cR <| zM rfl <| zM rfl <| zV (v_len_slice rfl rfl Tryz.underlying25) rfl <| zV ((v_neq rfl rfl rfl).t (hk)) rfl <| zN <| cT rfl <| cS <| ?_
  refine WC.region <| zV (v_build rfl rfl zero_122 plc_122 rfl) rfl <| zM rfl <| ?_
  refine zV ((v_slice_lh (lo := 16) (hi := 18) rfl rfl rfl rfl Tryz.underlying25 sz_5 rfl rfl (by omega) (by omega))) rfl ?_
  refine zK ck_91 rfl ?_
  intro w hS
  refine Calls.then (RFault_c w 1 2 (some ⟨b, sAddr o 16 c 1, none⟩) (18 - 16) (c - 16) (fun i => fOf xs (16 + i)) (fun _ => ⟨b, sAddr o 16 c 1, rfl, fun i hi => by
  have := ((hW.st hS).drop 16).get (i := i) (x := fOf xs (16 + i)) (by rw [List.getElem?_drop]; exact fOf_get (by omega))
  rwa [Nat.mul_one] at this⟩)) hS ?_
  refine zW many_122 rfl rfl <| zW many_120 rfl rfl <| zN <| cE <| eR <| WE.ret2 (P := Tryz.prog) (.inl rfl) Tryz.results58 (resRow rfl many_122 rfl) (resRow rfl many_120 rfl) <| ?_
  exact fun w' h => RMsP.no e00 h
set_option maxHeartbeats 8000000 in
theorem RDecOk_c (w0 : World) (b o c : Nat) (xs : List Int) (hW : Win w0 b o c xs) (hn : xs.length ≤ 90000) (hs : sizeR xs.length (fOf xs) = ((xs.length : Int), 0, 0, ⟨#[]⟩)) (h19 : 19 ≤ xs.length) (h18 : 1 ≤ fOf xs 18 ∧ fOf xs 18 ≤ 4) (hle2 : leastI (fOf xs 18) ≤ xs.length) :
    Calls Tryz.prog 58 #[.slice (some ⟨b, o, none⟩) xs.length c] w0 fun e w' => RMsP w0 w' xs e := by
  have hle := hW.le
  obtain ⟨ys, hys⟩ : ∃ ys, ys = xs.drop 19 := ⟨_, rfl⟩
  have e00 : decM xs = bodyM (fOf xs 18) ys := by rw [hys]; unfold decM; rw [hs]; dsimp only; rw [if_neg (by simp), if_neg (by simp)]
  have hdl : ys.length = xs.length - 19 := by rw [hys]; exact List.length_drop ..
  have hlst : leastI (fOf xs 18) = if fOf xs 18 = 1 then 29 else if fOf xs 18 = 2 then 23 else if fOf xs 18 = 3 then 21 else 19 := by unfold leastI; repeat' split; all_goals first | rfl | omega
  have hBy : Bys ys := fun y hy => hW.bys y (by rw [hys] at hy; exact List.mem_of_mem_drop hy)
  have hb : ∀ i, 0 ≤ fOf ys i ∧ fOf ys i ≤ 255 := fun i => fOf_b hBy i
  have hfx : ∀ i, fOf ys i = fOf xs (19 + i) := fun i => by rw [hys]; exact fOf_drop ..
  have hg : ∀ i, 19 + i < xs.length → xs[19 + i]? = some (fOf ys i) := fun i hi => by rw [hfx]; exact fOf_get hi
  have hgc : ∀ (w : World) (L : List Ent) (i : Nat), 19 + i < xs.length → St (fun _ => False) w0 w L → w.cell? ⟨b, o + (19 + i) * 1, none⟩ = some (.int .u8 (fOf ys i)) := fun w L i hi hS => (hW.st hS).get (hg i hi)
  refine enter Tryz.func58 rfl Tryz.ntmps58 rfl (St.start (fun _ => False) w0) ?_
  refine cR <| WL.alloc rfl zero_122 (.none rfl) rfl rfl <| ?_
  intro g2 hg2
  refine WL.alloc rfl zero_120 (.none rfl) rfl rfl ?_
  intro g3 hg3
  refine zR <| zM rfl <| zK ck_71 rfl <| ?_
  intro w hS
  refine Calls.then (by rw [show (Ending.returned (.tuple #[.int .i64 xs.length, .agg (fltL 0 0 ⟨#[]⟩).toArray])) = .returned (sizeV (sizeR xs.length (fOf xs))) by rw [hs]; rfl]; exact RSize_c w (some ⟨b, o, none⟩) xs.length c (fOf xs) (fOf_byt hW.bys) (fun _ => ⟨b, o, rfl, rd_u8s (hW.st hS).at_⟩) (by omega) hle) hS ?_
  refine zM rfl <| zX rfl <| zX rfl <| WL.alloc rfl zero_120 (.none rfl) rfl rfl <| ?_
  intro g5 hg5
  refine zA rfl <| zW many_120 rfl rfl <| zN <| cS <| cR <| zF rfl fld_120_0 <| zL rfl one_3 rfl <| ?_
  refine zV ((v_neq rfl rfl rfl).f (by omega)) rfl ?_
  refine zN <| cF rfl <| cK <| eN <| cS <| cR <| zM rfl <| zM rfl <| zV (v_len_slice rfl rfl Tryz.underlying25) rfl <| ?_
  refine zV ((v_neq rfl rfl rfl).f (by omega)) rfl ?_
  refine zN <| cF rfl <| cK <| eN <| cR <| zM rfl <| ?_
  refine zV (v_indexAddr (lo := 18) rfl rfl rfl Tryz.underlying25 sz_5 rfl (by omega)) rfl ?_
  refine zV (v_load1 rfl rfl one_5 (cellOld (fun h => h) (hW.get (fOf_get (by omega))))) rfl ?_
  refine zV (v_conv rfl rfl Tryz.underlying3 Tryz.underlying5 (w_i64 (by omega) (by omega))) rfl ?_
  refine zV (v_build rfl rfl zero_122 plc_122 rfl) rfl <| WL.alloc rfl zero_122 (.none rfl) rfl rfl <| ?_
  intro g6 hg6
  refine zW many_122 rfl rfl <| WL.as (L' := .row g6 (MsL.zero (fOf xs 18)).rcells :: .row g5 (fltL 0 0 ⟨#[]⟩) :: .row g3 (fltL 0 0 ⟨#[]⟩) :: [.row g2 (MsL.zero 0).rcells]) rfl <| zN <| cS <| cR <| zF rfl fld_122_0 <| zV (v_load1 rfl rfl one_3 (cellAt (v := .int .i64 (fOf xs 18)) rfl)) rfl <| ?_
  refine zT (v_eql rfl rfl rfl) rfl (fun h42 => ?_) (fun h42 => ?_)
  refine zN <| cT rfl <| cS <| WC.orders mixed <| rF 8 [0, 1, 5, 6] <| ?_
  have hl29 : 29 ≤ xs.length := (by rw [hlst, if_pos h42] at hle2; omega)
  have hno : ∀ s d, openR ys = .inr (s, d) → decM xs = .inr (2, s, d) := (fun s d h => by rw [e00]; unfold bodyM; rw [if_pos h42, h])
  have hid : idB ys = fOf ys 5 * 16777216 + fOf ys 6 * 65536 + fOf ys 7 * 256 + fOf ys 8 := addrI_of (ys := ys) 5
  have b1 := hb 1
  have b2 := hb 2
  have b3 := hb 3
  have b4 := hb 4
  have b5 := hb 5
  have b6 := hb 6
  have b7 := hb 7
  have b8 := hb 8
  have b9 := hb 9
  refine pV (v_move rfl rfl) rfl ?_
  refine pV (v_indexAddr (lo := 20) rfl rfl rfl Tryz.underlying25 sz_5 rfl (by omega)) rfl ?_
  refine pV (v_move rfl rfl) rfl ?_
  refine pV (v_indexAddr (lo := 21) rfl rfl rfl Tryz.underlying25 sz_5 rfl (by omega)) rfl ?_
  refine WP.nil <| rA 1 [2, 3, 4, 7, 8, 9, 10] rfl <| ?_
  refine qV (v_load1 rfl rfl one_5 ((fun w hS => hgc w _ 1 (by omega) hS))) rfl ?_
  refine qV (v_conv rfl rfl Tryz.underlying3 Tryz.underlying5 (w_i64 (by omega) (by omega))) rfl ?_
  refine qV (v_mul rfl rfl rfl (w_i64 (by omega) (by omega))) rfl ?_
  refine qV (v_load1 rfl rfl one_5 ((fun w hS => hgc w _ 2 (by omega) hS))) rfl ?_
  refine qV (v_conv rfl rfl Tryz.underlying3 Tryz.underlying5 (w_i64 (by omega) (by omega))) rfl ?_
  refine qV (v_add rfl rfl rfl (w_i64 (by omega) (by omega))) rfl ?_
  refine qV (v_fieldAddr0 rfl rfl fld_122_1) rfl <| WQ.nilR <| rO 0 [11] <| zO one_3 rfl rfl <| zH <| rD <| eN <| cS <| WC.orders mixed <| rF 8 [0, 1, 5, 6] <| pV (v_move rfl rfl) rfl <| ?_
  refine pV (v_indexAddr (lo := 22) rfl rfl rfl Tryz.underlying25 sz_5 rfl (by omega)) rfl ?_
  refine pV (v_move rfl rfl) rfl ?_
  refine pV (v_indexAddr (lo := 23) rfl rfl rfl Tryz.underlying25 sz_5 rfl (by omega)) rfl ?_
  refine WP.nil <| rA 1 [2, 3, 4, 7, 8, 9, 10] rfl <| ?_
  refine qV (v_load1 rfl rfl one_5 ((fun w hS => hgc w _ 3 (by omega) hS))) rfl ?_
  refine qV (v_conv rfl rfl Tryz.underlying3 Tryz.underlying5 (w_i64 (by omega) (by omega))) rfl ?_
  refine qV (v_mul rfl rfl rfl (w_i64 (by omega) (by omega))) rfl ?_
  refine qV (v_load1 rfl rfl one_5 ((fun w hS => hgc w _ 4 (by omega) hS))) rfl ?_
  refine qV (v_conv rfl rfl Tryz.underlying3 Tryz.underlying5 (w_i64 (by omega) (by omega))) rfl ?_
  refine qV (v_add rfl rfl rfl (w_i64 (by omega) (by omega))) rfl ?_
  refine qV (v_fieldAddr0 rfl rfl fld_122_2) rfl <| WQ.nilR <| rO 0 [11] <| zO one_3 rfl rfl <| zH <| rD <| eN <| cS <| WC.orders mixed <| rF 16 [0, 1, 5, 6, 11, 12, 17, 18] <| pV (v_move rfl rfl) rfl <| ?_
  refine pV (v_indexAddr (lo := 24) rfl rfl rfl Tryz.underlying25 sz_5 rfl (by omega)) rfl ?_
  refine pV (v_move rfl rfl) rfl ?_
  refine pV (v_indexAddr (lo := 25) rfl rfl rfl Tryz.underlying25 sz_5 rfl (by omega)) rfl ?_
  refine pV (v_move rfl rfl) rfl ?_
  refine pV (v_indexAddr (lo := 26) rfl rfl rfl Tryz.underlying25 sz_5 rfl (by omega)) rfl ?_
  refine pV (v_move rfl rfl) rfl ?_
  refine pV (v_indexAddr (lo := 27) rfl rfl rfl Tryz.underlying25 sz_5 rfl (by omega)) rfl ?_
  refine WP.nil <| rA 1 [2, 3, 4, 7, 8, 9, 10, 13, 14, 15, 16, 19, 20, 21, 22] rfl <| ?_
  refine qV (v_load1 rfl rfl one_5 ((fun w hS => hgc w _ 5 (by omega) hS))) rfl ?_
  refine qV (v_conv rfl rfl Tryz.underlying22 Tryz.underlying5 (by first | exact w_u32 (by omega) (by omega) | exact w_u32m _)) rfl ?_
  refine qV (v_mul rfl rfl rfl (w_u32 (by omega) (by omega))) rfl ?_
  refine qV (v_load1 rfl rfl one_5 ((fun w hS => hgc w _ 6 (by omega) hS))) rfl ?_
  refine qV (v_conv rfl rfl Tryz.underlying22 Tryz.underlying5 (by first | exact w_u32 (by omega) (by omega) | exact w_u32m _)) rfl ?_
  refine qV (v_mul rfl rfl rfl (w_u32 (by omega) (by omega))) rfl ?_
  refine qV (v_add rfl rfl rfl (w_u32 (by omega) (by omega))) rfl ?_
  refine qV (v_load1 rfl rfl one_5 ((fun w hS => hgc w _ 7 (by omega) hS))) rfl ?_
  refine qV (v_conv rfl rfl Tryz.underlying22 Tryz.underlying5 (by first | exact w_u32 (by omega) (by omega) | exact w_u32m _)) rfl ?_
  refine qV (v_mul rfl rfl rfl (w_u32 (by omega) (by omega))) rfl ?_
  refine qV (v_add rfl rfl rfl (w_u32 (by omega) (by omega))) rfl ?_
  refine qV (v_load1 rfl rfl one_5 ((fun w hS => hgc w _ 8 (by omega) hS))) rfl ?_
  refine qV (v_conv rfl rfl Tryz.underlying22 Tryz.underlying5 (by first | exact w_u32 (by omega) (by omega) | exact w_u32m _)) rfl ?_
  refine qV (v_add rfl rfl rfl (w_u32 (by omega) (by omega))) rfl ?_
  rw [show fOf ys 5 * 16777216 + fOf ys 6 * 65536 + fOf ys 7 * 256 + fOf ys 8 = idB ys from hid.symm]
  refine qV (v_fieldAddr0 rfl rfl fld_122_3) rfl <| WQ.nilR <| rO 0 [23] <| zO one_22 rfl rfl <| WL.as (L' := .row g6 (MsL.opened (fOf xs 18) ys none 0 []).rcells :: .row g5 (fltL 0 0 ⟨#[]⟩) :: .row g3 (fltL 0 0 ⟨#[]⟩) :: [.row g2 (MsL.zero 0).rcells]) rfl <| zH <| rD <| eN <| cS <| cR <| zM rfl <| ?_
  refine zV (v_indexAddr (lo := 19) rfl rfl rfl Tryz.underlying25 sz_5 rfl (by omega)) rfl ?_
  refine zV (v_load1 rfl rfl one_5 ((fun w hS => hgc w _ 0 (by omega) hS))) rfl ?_
  refine zT (v_neq rfl rfl rfl) rfl (fun h91 => ?_) (fun h91 => ?_)
  refine zN <| cT rfl <| cR <| zV (v_build rfl rfl zero_122 plc_122 rfl) rfl <| zB Tryz.underlying25 sz_5 zero_5 rfl rfl <| ?_
  intro g93 hg93
  refine zK ck_91 rfl ?_
  intro w hS
  refine Calls.then (RFault_c w 2 1 (some ⟨g93, 0, none⟩) 2 2 (fun i => if i = 0 then 0 else 4) (fun _ => ⟨g93, 0, rfl, fun i hi => by
  have : i = 0 ∨ i = 1 := (by omega)
  rcases this with rfl | rfl
  · exact hS.cell (g := g93) rfl
  · exact hS.cell (g := g93) rfl⟩)) hS ?_
  refine zW many_122 rfl rfl <| zW many_120 rfl rfl <| zN <| cE <| eR <| eR <| WE.ret2 (P := Tryz.prog) (.inl rfl) Tryz.results58 (resRow rfl many_122 rfl) (resRow rfl many_120 rfl) <| ?_
  exact fun w' h => RMsP.no (hno _ _ (by unfold openR; rw [if_pos h91]; try rfl)) h
  refine zN <| cF rfl <| cK <| eN <| cS <| cR <| zF rfl fld_122_1 <| zV (v_load1 rfl rfl one_3 (cellAt (v := .int .i64 (asnB ys)) rfl)) rfl <| ?_
  refine zT (v_eql rfl rfl rfl) rfl (fun h97 => ?_) (fun h97 => ?_)
  refine zN <| cT rfl <| cR <| zV (v_build rfl rfl zero_122 plc_122 rfl) rfl <| zK ck_91 rfl <| ?_
  intro w hS
  refine Calls.then (RFault_c w 2 2 none 0 0 (fun _ => 0) (RdO.nil w _)) hS ?_
  refine zW many_122 rfl rfl <| zW many_120 rfl rfl <| zN <| cE <| eR <| eR <| WE.ret2 (P := Tryz.prog) (.inl rfl) Tryz.results58 (resRow rfl many_122 rfl) (resRow rfl many_120 rfl) <| ?_
  exact fun w' h => RMsP.no (hno _ _ (by unfold openR; rw [if_neg h91, if_pos h97]; try rfl)) h
  refine zN <| cF rfl <| cK <| eN <| ?_
  refine WC.cut (fun _ : Unit => [(6, .pointer (some ⟨g6, 0, none⟩)), (3, .pointer (some ⟨g3, 0, none⟩)), (2, .pointer (some ⟨g2, 0, none⟩)), (0, .slice (some ⟨b, o, none⟩) xs.length c)]) (fun _ => .row g6 (MsL.opened (fOf xs 18) ys none 0 []).rcells :: .row g5 (fltL 0 0 ⟨#[]⟩) :: .row g3 (fltL 0 0 ⟨#[]⟩) :: [.row g2 (MsL.zero 0).rcells]) (fun _ => fOf ys 0 = 4 ∧ asnB ys ≠ 0 ∧ ¬ (holdB ys = 1 ∨ holdB ys = 2)) ?_ ?_
  refine cR <| zF rfl fld_122_2 <| zV (v_load1 rfl rfl one_3 (cellAt (v := .int .i64 (holdB ys)) rfl)) rfl <| ?_
  refine zT (v_gtr rfl rfl rfl) rfl (fun h102 => ?_) (fun h102 => ?_)
  refine zM rfl <| zS (v_fieldAddr0 rfl rfl fld_122_2) rfl <| zS (v_load1 rfl rfl one_3 (cellAt (v := .int .i64 (holdB ys)) rfl)) rfl <| ?_
  refine WL.test (v_lss rfl rfl rfl) (.some rfl rfl rfl) rfl rfl (fun h106 => ?_) (fun h106 => ?_)
  refine zP rfl <| zN <| cT rfl <| cR <| zV (v_build rfl rfl zero_122 plc_122 rfl) rfl <| zK ck_91 rfl <| ?_
  intro w hS
  refine Calls.then (RFault_c w 2 6 none 0 0 (fun _ => 0) (RdO.nil w _)) hS ?_
  refine zW many_122 rfl rfl <| zW many_120 rfl rfl <| zN <| cE <| eR <| eR <| WE.ret2 (P := Tryz.prog) (.inl rfl) Tryz.results58 (resRow rfl many_122 rfl) (resRow rfl many_120 rfl) <| ?_
  exact fun w' h => RMsP.no (hno _ _ (by unfold openR; rw [if_neg h91, if_neg h97, if_pos (by omega)]; try rfl)) h
  refine zP rfl <| zN <| cF rfl <| cK <| ?_
  exact WE.mid () ⟨by omega, h97, by have hb0 : 0 ≤ holdB ys := (by unfold holdB; omega); omega⟩ (.cons rfl (.cons rfl (.cons rfl (.cons rfl .nil)))) (.refl _)
  refine zM rfl ?_
  iterate 3 refine WL.sk rfl ?_
  refine zQ rfl <| zN <| cF rfl <| cK <| ?_
  exact WE.mid () ⟨by omega, h97, by have hb0 : 0 ≤ holdB ys := (by unfold holdB; omega); omega⟩ (.cons rfl (.cons rfl (.cons rfl (.cons rfl .nil)))) (.refl _)
  rintro _ ⟨hf0, hf1, hf2⟩
  have h91 : ¬ fOf ys 0 ≠ 4 := (by omega)
  refine cS <| cR <| zF rfl fld_122_3 <| zV (v_load1 rfl rfl one_22 (cellAt (v := .int .u32 (idB ys)) rfl)) rfl <| ?_
  refine zT (v_eql rfl rfl rfl) rfl (fun h112 => ?_) (fun h112 => ?_)
  refine zN <| cT rfl <| cR <| zV (v_build rfl rfl zero_122 plc_122 rfl) rfl <| zK ck_91 rfl <| ?_
  intro w hS
  refine Calls.then (RFault_c w 2 3 none 0 0 (fun _ => 0) (RdO.nil w _)) hS ?_
  refine zW many_122 rfl rfl <| zW many_120 rfl rfl <| zN <| cE <| eR <| eR <| WE.ret2 (P := Tryz.prog) (.inl rfl) Tryz.results58 (resRow rfl many_122 rfl) (resRow rfl many_120 rfl) <| ?_
  exact fun w' h => RMsP.no (hno _ _ (by unfold openR; rw [if_neg h91, if_neg hf1, if_neg hf2, if_pos h112]; try rfl)) h
  refine zN <| cF rfl <| cK <| eN <| cS <| cR <| zM rfl <| ?_
  refine zV (v_indexAddr (lo := 28) rfl rfl rfl Tryz.underlying25 sz_5 rfl (by omega)) rfl ?_
  refine zV (v_load1 rfl rfl one_5 ((fun w hS => hgc w _ 9 (by omega) hS))) rfl ?_
  refine zV (v_conv rfl rfl Tryz.underlying3 Tryz.underlying5 (w_i64 (by omega) (by omega))) rfl ?_
  refine zM rfl <| zV (v_len_slice rfl rfl Tryz.underlying25) rfl <| ?_
  refine zV (v_sub rfl rfl rfl (w_i64 (by omega) (by omega))) rfl ?_
  refine zT (v_neq rfl rfl rfl) rfl (fun h122 => ?_) (fun h122 => ?_)
  refine zN <| cT rfl <| cR <| zV (v_build rfl rfl zero_122 plc_122 rfl) rfl <| zK ck_91 rfl <| ?_
  intro w hS
  refine Calls.then (RFault_c w 2 0 none 0 0 (fun _ => 0) (RdO.nil w _)) hS ?_
  refine zW many_122 rfl rfl <| zW many_120 rfl rfl <| zN <| cE <| eR <| eR <| WE.ret2 (P := Tryz.prog) (.inl rfl) Tryz.results58 (resRow rfl many_122 rfl) (resRow rfl many_120 rfl) <| ?_
  exact fun w' h => RMsP.no (hno _ _ (by unfold openR; rw [if_neg h91, if_neg hf1, if_neg hf2, if_neg h112, if_pos (by rw [List.length_drop]; omega)]; try rfl)) h
  refine zN <| cF rfl <| cK <| eN <| cR <| zA rfl <| zN <| cB <| ?_
  refine WC.loop (fun y : RoS => [(7, .int .i64 y.k), (6, .pointer (some ⟨g6, 0, none⟩)), (3, .pointer (some ⟨g3, 0, none⟩)), (2, .pointer (some ⟨g2, 0, none⟩)), (0, .slice (some ⟨b, o, none⟩) xs.length c)]) (fun y => y.E ++ (y.KO ++ (.row g6 (MsL.opened (fOf xs 18) ys y.ad y.kc y.cs).rcells :: .row g5 (fltL 0 0 ⟨#[]⟩) :: .row g3 (fltL 0 0 ⟨#[]⟩) :: [.row g2 (MsL.zero 0).rcells]))) (fun y => 29 ≤ y.k ∧ y.k ≤ xs.length ∧ y.cs.length ≤ y.k ∧ openR ys = (match optsR (y.cs.map capD) (xs.drop y.k) with | .inl cs => .inl cs | .inr s => .inr (s, ⟨#[]⟩)) ∧ Vec 2 y.ad y.cs.length y.kc (capsL y.cs) y.E ∧ ∀ c ∈ y.cs, CapOwn y.KO c) (fun y => xs.length - y.k) ⟨29, [], none, 0, [], []⟩ ⟨Nat.le_refl _, hl29, Nat.zero_le _, by
  dsimp only
  unfold openR
  rw [if_neg h91, if_neg hf1, if_neg hf2, if_neg h112, if_neg (by rw [List.length_drop]; omega), show xs.drop 29 = ys.drop 10 by rw [hys, List.drop_drop]]
  rw [List.map_nil]
  cases optsR [] (ys.drop 10) <;> rfl, Vec.nil 2, fun _ h => by cases h⟩ (.cons rfl (.cons rfl (.cons rfl (.cons rfl (.cons rfl .nil))))) (.refl _) ?_
  rintro ⟨k, cs, ad, kc, E, KO⟩ ⟨hk29, hk, hcl, hop, hV, hO⟩
  dsimp only at hk29 hk hcl hop hV hO
  dsimp only
  have hkl : (xs.drop k).length = xs.length - k := List.length_drop ..
  have hbk1 := fOf_b hW.bys (k + 1)
  refine cS <| cR <| zM rfl <| zM rfl <| zV (v_len_slice rfl rfl Tryz.underlying25) rfl <| ?_
  refine zT (v_lss rfl rfl rfl) rfl (fun h128 => ?_) (fun h128 => ?_)
  refine zN <| cT rfl <| cK <| eN <| cB <| cS <| cR <| zM rfl <| ?_
  refine zV (v_add rfl rfl rfl (w_i64 (by omega) (by omega))) rfl ?_
  refine zM rfl <| zV (v_len_slice rfl rfl Tryz.underlying25) rfl <| ?_
  refine zT (v_gtr rfl rfl rfl) rfl (fun h133 => ?_) (fun h133 => ?_)
  refine zM rfl ?_
  iterate 12 refine WL.sk rfl ?_
  refine zP rfl <| zN <| cT rfl <| cR <| zV (v_build rfl rfl zero_122 plc_122 rfl) rfl <| zK ck_91 rfl <| ?_
  intro w hS
  refine Calls.then (RFault_c w 2 0 none 0 0 (fun _ => 0) (RdO.nil w _)) hS ?_
  refine zW many_122 rfl rfl <| zW many_120 rfl rfl <| zN <| cE <| eR <| eB <| eR <| eB <| eR <| WE.ret2 (P := Tryz.prog) (.inl rfl) Tryz.results58 (resRow rfl many_122 rfl) (resRow rfl many_120 rfl) <| ?_
  exact fun w' h => RMsP.no (hno _ _ (by rw [hop, optsR_bad _ (by omega) (.inl (by omega))]; try rfl)) h
  refine zM rfl <| zS (v_move rfl rfl) rfl <| ?_
  refine zS (v_add rfl rfl rfl (w_i64 (by omega) (by omega))) rfl ?_
  refine zS (v_move rfl rfl) rfl <| zS (v_move rfl rfl) rfl <| ?_
  refine zS (v_add rfl rfl rfl (show _ = ((k + 1 : Nat) : Int) from (w_i64 (by omega) (by omega)).trans (by omega))) rfl ?_
  refine zS (v_indexAddr (lo := k + 1) rfl rfl rfl Tryz.underlying25 sz_5 (by omega) (by omega)) rfl ?_
  refine zS (v_load1 rfl rfl one_5 (cellOld (fun h => h) (hW.get (fOf_get (by omega))))) rfl ?_
  refine zS (v_conv rfl rfl Tryz.underlying3 Tryz.underlying5 (w_i64 (by omega) (by omega))) rfl ?_
  refine zS (v_add rfl rfl rfl (w_i64 (by omega) (by omega))) rfl ?_
  refine zS (v_move rfl rfl) rfl <| zS (v_len_slice rfl rfl Tryz.underlying25) rfl <| ?_
  refine WL.test (v_gtr rfl rfl rfl) (.some rfl rfl rfl) rfl rfl (fun h146 => ?_) (fun h146 => ?_)
  refine zQ rfl <| zN <| cT rfl <| cR <| zV (v_build rfl rfl zero_122 plc_122 rfl) rfl <| zK ck_91 rfl <| ?_
  intro w hS
  refine Calls.then (RFault_c w 2 0 none 0 0 (fun _ => 0) (RdO.nil w _)) hS ?_
  refine zW many_122 rfl rfl <| zW many_120 rfl rfl <| zN <| cE <| eR <| eB <| eR <| eB <| eR <| WE.ret2 (P := Tryz.prog) (.inl rfl) Tryz.results58 (resRow rfl many_122 rfl) (resRow rfl many_120 rfl) <| ?_
  exact fun w' h => RMsP.no (hno _ _ (by rw [hop, optsR_bad _ (by omega) (.inr (by rw [fOf_drop]; omega))]; try rfl)) h
  refine zQ rfl <| zN <| cF rfl <| cK <| eN <| cS <| cR <| ?_
  obtain ⟨x, y0, zs, hdr⟩ := two_of (ys := xs.drop k) (by omega)
  have ex : fOf xs k = x := (by have := fOf_drop xs k 0; rw [hdr] at this; exact this.symm)
  have ey : fOf xs (k + 1) = y0 := (by have := fOf_drop xs k 1; rw [hdr] at this; exact this.symm)
  rw [ey] at hbk1
  obtain ⟨n, hn0⟩ := Int.eq_ofNat_of_zero_le hbk1.1
  have hzs : zs = xs.drop (k + 2) := (by rw [← List.drop_drop, hdr]; rfl)
  have hzl : zs.length = xs.length - (k + 2) := (by rw [hzs]; exact List.length_drop ..)
  rw [hdr, hn0, optsR_cons, Int.toNat_natCast, if_neg (by omega)] at hop
  refine zM rfl <| zM rfl <| ?_
  refine zV (v_indexAddr (lo := k) rfl rfl rfl Tryz.underlying25 sz_5 (by omega) (by omega)) rfl ?_
  refine zV (v_load1 rfl rfl one_5 (cellOld (fun h => h) (hW.get (fOf_get (by omega))))) rfl ?_
  refine zT (v_neq rfl rfl rfl) rfl (fun h154 => ?_) (fun h154 => ?_)
  skip
  refine zN <| cT rfl <| cR <| zV (v_build rfl rfl zero_122 plc_122 rfl) rfl <| zK ck_91 rfl <| ?_
  intro w hS
  refine Calls.then (RFault_c w 2 4 none 0 0 (fun _ => 0) (RdO.nil w _)) hS ?_
  refine zW many_122 rfl rfl <| zW many_120 rfl rfl <| zN <| cE <| eR <| eB <| eR <| eB <| eR <| WE.ret2 (P := Tryz.prog) (.inl rfl) Tryz.results58 (resRow rfl many_122 rfl) (resRow rfl many_120 rfl) <| ?_
  exact fun w' h => RMsP.no (hno _ _ (by rw [hop, if_pos (by omega)]; try rfl)) h
  refine zN <| cF rfl <| cK <| eN <| cR <| ?_
  rw [if_neg (by omega)] at hop
  refine zM rfl ?_
  refine zV (v_add rfl rfl rfl (show _ = ((k + 2 : Nat) : Int) from (w_i64 (by omega) (by omega)).trans (by omega))) rfl ?_
  refine zM rfl <| zM rfl <| ?_
  refine zV (v_add rfl rfl rfl (show _ = ((k + 1 : Nat) : Int) from (w_i64 (by omega) (by omega)).trans (by omega))) rfl ?_
  refine zV (v_indexAddr (lo := k + 1) rfl rfl rfl Tryz.underlying25 sz_5 (by omega) (by omega)) rfl ?_
  refine zV (v_load1 rfl rfl one_5 (cellOld (fun h => h) (hW.get (fOf_get (by omega))))) rfl ?_
  refine zV (v_conv rfl rfl Tryz.underlying3 Tryz.underlying5 (w_i64 (by omega) (by omega))) rfl ?_
  refine zV (v_add rfl rfl rfl (show _ = ((k + 2 + n : Nat) : Int) from (w_i64 (by omega) (by omega)).trans (by omega))) rfl ?_
  refine zA rfl <| zR <| zM rfl <| ?_
  refine zV (v_add rfl rfl rfl (show _ = ((k + 2 : Nat) : Int) from (w_i64 (by omega) (by omega)).trans (by omega))) rfl ?_
  refine zA rfl <| zN <| cB <| ?_
  refine WC.loop (fun y : RoS => [(8, .int .i64 ((k + 2 + n : Nat) : Int)), (7, .int .i64 y.k), (6, .pointer (some ⟨g6, 0, none⟩)), (3, .pointer (some ⟨g3, 0, none⟩)), (2, .pointer (some ⟨g2, 0, none⟩)), (0, .slice (some ⟨b, o, none⟩) xs.length c)]) (fun y => y.E ++ (y.KO ++ (.row g6 (MsL.opened (fOf xs 18) ys y.ad y.kc y.cs).rcells :: .row g5 (fltL 0 0 ⟨#[]⟩) :: .row g3 (fltL 0 0 ⟨#[]⟩) :: [.row g2 (MsL.zero 0).rcells]))) (fun y => k + 2 ≤ y.k ∧ y.k ≤ k + 2 + n ∧ y.cs.length ≤ y.k ∧ capsR (cs.map capD) (zs.take n) = capsR (y.cs.map capD) ((xs.drop y.k).take (k + 2 + n - y.k)) ∧ Vec 2 y.ad y.cs.length y.kc (capsL y.cs) y.E ∧ ∀ c ∈ y.cs, CapOwn y.KO c) (fun y => k + 2 + n - y.k) ⟨k + 2, cs, ad, kc, E, KO⟩ ⟨Nat.le_refl _, Nat.le_add_right _ _, by dsimp only; omega, by dsimp only; rw [hzs, Nat.add_sub_cancel_left], hV, hO⟩ (.cons rfl (.cons rfl (.cons rfl (.cons rfl (.cons rfl (.cons rfl .nil)))))) (.refl _) ?_
  rintro ⟨j, ds, ad2, kc2, E2, KO2⟩ ⟨hj2, hje, hdl2, hcap, hV2, hO2⟩
  dsimp only at hj2 hje hdl2 hcap hV2 hO2
  dsimp only
  have hjl : ((xs.drop j).take (k + 2 + n - j)).length = k + 2 + n - j := (by rw [List.length_take, List.length_drop]; omega)
  have hbj1 := fOf_b hW.bys (j + 1)
  have hbj0 := fOf_b hW.bys j
  refine cS <| cR <| zM rfl <| zM rfl <| ?_
  refine zT (v_lss rfl rfl rfl) rfl (fun h170 => ?_) (fun h170 => ?_)
  refine zN <| cT rfl <| cK <| eN <| cB <| cS <| cR <| zM rfl <| ?_
  refine zV (v_add rfl rfl rfl (w_i64 (by omega) (by omega))) rfl ?_
  refine zM rfl ?_
  refine zT (v_gtr rfl rfl rfl) rfl (fun h174 => ?_) (fun h174 => ?_)
  refine zM rfl ?_
  iterate 11 refine WL.sk rfl ?_
  refine zP rfl <| zN <| cT rfl <| cR <| zV (v_build rfl rfl zero_122 plc_122 rfl) rfl <| zK ck_91 rfl <| ?_
  intro w hS
  refine Calls.then (RFault_c w 2 0 none 0 0 (fun _ => 0) (RdO.nil w _)) hS ?_
  refine zW many_122 rfl rfl <| zW many_120 rfl rfl <| zN <| cE <| eR <| eB <| eR <| eB <| eB <| eR <| eB <| eR <| WE.ret2 (P := Tryz.prog) (.inl rfl) Tryz.results58 (resRow rfl many_122 rfl) (resRow rfl many_120 rfl) <| ?_
  exact fun w' h => RMsP.no (hno _ _ (by rw [hop, hcap, capsR_bad _ (by omega) (.inl (by omega))]; try rfl)) h
  refine zM rfl <| zS (v_move rfl rfl) rfl <| ?_
  refine zS (v_add rfl rfl rfl (w_i64 (by omega) (by omega))) rfl ?_
  refine zS (v_move rfl rfl) rfl <| zS (v_move rfl rfl) rfl <| ?_
  refine zS (v_add rfl rfl rfl (show _ = ((j + 1 : Nat) : Int) from (w_i64 (by omega) (by omega)).trans (by omega))) rfl ?_
  refine zS (v_indexAddr (lo := j + 1) rfl rfl rfl Tryz.underlying25 sz_5 (by omega) (by omega)) rfl ?_
  refine zS (v_load1 rfl rfl one_5 (cellOld (fun h => h) (hW.get (fOf_get (by omega))))) rfl ?_
  refine zS (v_conv rfl rfl Tryz.underlying3 Tryz.underlying5 (w_i64 (by omega) (by omega))) rfl ?_
  refine zS (v_add rfl rfl rfl (w_i64 (by omega) (by omega))) rfl ?_
  refine zS (v_move rfl rfl) rfl ?_
  refine WL.test (v_gtr rfl rfl rfl) (.some rfl rfl rfl) rfl rfl (fun h186 => ?_) (fun h186 => ?_)
  refine zQ rfl <| zN <| cT rfl <| cR <| zV (v_build rfl rfl zero_122 plc_122 rfl) rfl <| zK ck_91 rfl <| ?_
  intro w hS
  refine Calls.then (RFault_c w 2 0 none 0 0 (fun _ => 0) (RdO.nil w _)) hS ?_
  refine zW many_122 rfl rfl <| zW many_120 rfl rfl <| zN <| cE <| eR <| eB <| eR <| eB <| eB <| eR <| eB <| eR <| WE.ret2 (P := Tryz.prog) (.inl rfl) Tryz.results58 (resRow rfl many_122 rfl) (resRow rfl many_120 rfl) <| ?_
  exact fun w' h => RMsP.no (hno _ _ (by rw [hop, hcap, capsR_bad _ (by omega) (.inr (by rw [hjl, show fOf ((xs.drop j).take (k + 2 + n - j)) 1 = fOf xs (j + 1) by rw [← fOf_drop]; unfold fOf; rw [List.getD_eq_getElem?_getD, List.getD_eq_getElem?_getD, List.getElem?_take, if_pos (by omega)]]; omega))]; try rfl)) h
  refine zQ rfl <| zN <| cF rfl <| cK <| eN <| cS <| WC.held ([]) mixed <| ?_
  refine WRH.first (g := 8) [0, 2, 3, 4, 5, 6, 8, 9, 10, 11, 12, 13, 14, 15, 16, 17, 18, 19, 20] (by kernel_rfl) (by kernel_rfl) (fun w hS => hS.sub (by repeat (first | exact List.Sublist.refl _ | exact List.nil_sublist _ | refine List.Sublist.cons _ ?_ | refine List.sublist_append_of_sublist_right ?_))) ?_
  obtain ⟨x3, y3, zs3, hdv⟩ := two_of (ys := (xs.drop j).take (k + 2 + n - j)) (by omega)
  have ft : ∀ i, i < k + 2 + n - j → fOf ((xs.drop j).take (k + 2 + n - j)) i = fOf xs (j + i) := (fun i hi => by rw [← fOf_drop]; unfold fOf; rw [List.getD_eq_getElem?_getD, List.getD_eq_getElem?_getD, List.getElem?_take, if_pos hi])
  have ex3 : fOf xs j = x3 := (by have := ft 0 (by omega); rw [hdv] at this; exact this.symm)
  have ey3 : fOf xs (j + 1) = y3 := (by have := ft 1 (by omega); rw [hdv] at this; exact this.symm)
  rw [ey3] at hbj1
  obtain ⟨n3, hn3⟩ := Int.eq_ofNat_of_zero_le hbj1.1
  have hz3 : zs3 = (xs.drop (j + 2)).take (k + 2 + n - (j + 2)) := (by
    have h1 : ((xs.drop j).take (k + 2 + n - j)).drop 2 = zs3 := (by rw [hdv]; rfl)
    rw [← h1, List.drop_take, List.drop_drop, show k + 2 + n - j - 2 = k + 2 + n - (j + 2) by omega])
  have hz3l : zs3.length = k + 2 + n - (j + 2) := (by rw [hz3, List.length_take, List.length_drop]; omega)
  rw [hdv, hn3, capsR_cons, Int.toNat_natCast, if_neg (by omega)] at hcap
  have hvt : (xs.take (j + 2 + n3)).drop (j + 2) = zs3.take n3 := (by rw [hz3, List.take_take, List.drop_take, Nat.min_eq_left (by omega), Nat.add_sub_cancel_left])
  have hvd : (xs.drop (j + 2 + n3)).take (k + 2 + n - (j + 2 + n3)) = zs3.drop n3 := (by rw [hz3, List.drop_take, List.drop_drop, show k + 2 + n - (j + 2) - n3 = k + 2 + n - (j + 2 + n3) by omega])
  have hvl : (zs3.take n3).length = n3 := (by rw [List.length_take]; omega)
  have hWv : Win w0 b (sAddr o (j + 2) c 1) (c - (j + 2)) (zs3.take n3) := (by rw [← hvt]; exact (hW.take _).drop _)
  refine WH.val (v_fieldAddr0 rfl rfl fld_122_4) (.none rfl) rfl rfl <| WH.val (v_move rfl rfl) (.none rfl) rfl rfl <| WH.val (v_move rfl rfl) (.none rfl) rfl rfl <| ?_
  refine WH.val (v_indexAddr (lo := j) rfl rfl rfl Tryz.underlying25 sz_5 (by omega) (by omega)) (.none rfl) rfl rfl ?_
  refine WH.val (v_load1 rfl rfl one_5 (cellOld (fun h => h) (hW.get (fOf_get (by omega))))) (.none rfl) rfl rfl ?_
  refine WH.val (v_conv rfl rfl Tryz.underlying3 Tryz.underlying5 (w_i64 (by omega) (by omega))) (.none rfl) rfl rfl ?_
  refine WH.val (v_move rfl rfl) (.none rfl) rfl rfl <| WH.val (v_move rfl rfl) (.none rfl) rfl rfl <| ?_
  refine WH.val (v_add rfl rfl rfl (show _ = ((j + 2 : Nat) : Int) from (w_i64 (by omega) (by omega)).trans (by omega))) (.none rfl) rfl rfl ?_
  refine WH.val (v_move rfl rfl) (.none rfl) rfl rfl ?_
  refine WH.val (v_add rfl rfl rfl (show _ = ((j + 2 : Nat) : Int) from (w_i64 (by omega) (by omega)).trans (by omega))) (.none rfl) rfl rfl ?_
  refine WH.val (v_move rfl rfl) (.none rfl) rfl rfl <| WH.val (v_move rfl rfl) (.none rfl) rfl rfl <| ?_
  refine WH.val (v_add rfl rfl rfl (show _ = ((j + 1 : Nat) : Int) from (w_i64 (by omega) (by omega)).trans (by omega))) (.none rfl) rfl rfl ?_
  refine WH.val (v_indexAddr (lo := j + 1) rfl rfl rfl Tryz.underlying25 sz_5 (by omega) (by omega)) (.none rfl) rfl rfl ?_
  refine WH.val (v_load1 rfl rfl one_5 (cellOld (fun h => h) (hW.get (fOf_get (by omega))))) (.none rfl) rfl rfl ?_
  refine WH.val (v_conv rfl rfl Tryz.underlying3 Tryz.underlying5 (w_i64 (by omega) (by omega))) (.none rfl) rfl rfl ?_
  refine WH.val (v_add rfl rfl rfl (show _ = ((j + 2 + n3 : Nat) : Int) from (w_i64 (by omega) (by omega)).trans (by omega))) (.none rfl) rfl rfl ?_
  refine WH.val ((v_slice_lh (lo := j + 2) (hi := j + 2 + n3) rfl rfl rfl rfl Tryz.underlying25 sz_5 rfl rfl (by omega) (by omega))) (.none rfl) rfl rfl ?_
  refine WH.nil ?_
  refine WRH.each (g := 7) [1, 7] (by kernel_rfl) (by decide) ?_
  refine ⟨?_, ?_⟩
  refine zV (v_load1 rfl rfl one_114 (cellAt (v := .slice ad2 ds.length kc2) rfl)) rfl ?_
  refine WL.nilH (fun w hS => hS.sub (by repeat (first | exact List.Sublist.refl _ | exact List.nil_sublist _ | refine List.Sublist.cons _ ?_ | refine List.sublist_append_of_sublist_right ?_))) ?_
  refine WRH.one (g := 6) 7 (by kernel_rfl) ?_
  refine zB Tryz.underlying25 sz_5 zero_5 rfl rfl ?_
  intro g197 hg197
  refine WL.nilH (fun w hS => hS.sub (by repeat (first | exact List.Sublist.refl _ | exact List.nil_sublist _ | refine List.Sublist.cons _ ?_ | refine List.sublist_append_of_sublist_right ?_))) ?_
  refine WRH.one (g := 5) 21 (by kernel_rfl) ?_
  refine WL.appendL rfl rfl rfl Tryz.underlying25 Tryz.underlying25 sz_5 by_5 zero_5 rfl rfl (E := [.row g197 []]) (Vec.row (k := 0) (s := 1) (c := 0) rfl rfl (by omega)) (new := u8s (zs3.take n3)) (fun h => ⟨b, sAddr o (j + 2) c 1, rfl, fun w hS' => hS'.rng (fun _ h => h) _ _ _ hWv.at_⟩) (by rw [u8s_len]; omega) (u8s_one _) (by omega) (.none rfl) rfl rfl ?_
  intro ad211 c211 E211 hV211 hr211
  rw [show 0 + (j + 2 + n3 - (j + 2)) = (zs3.take n3).length by omega] at hV211 ⊢
  rw [show List.take (0 * 1) ([] : List Value) = [] from rfl, List.nil_append] at hV211
  refine WL.as (L' := E211 ++ (E2 ++ (KO2 ++ (.row g6 (MsL.opened (fOf xs 18) ys ad2 kc2 ds).rcells :: .row g5 (fltL 0 0 ⟨#[]⟩) :: .row g3 (fltL 0 0 ⟨#[]⟩) :: [.row g2 (MsL.zero 0).rcells])))) rfl ?_
  refine WL.nilH (fun w hS => hS.sub (by repeat (first | exact List.Sublist.refl _ | exact List.nil_sublist _ | refine List.Sublist.cons _ ?_ | refine List.sublist_append_of_sublist_right ?_))) ?_
  refine WRH.first (g := 4) [22] (by kernel_rfl) (by kernel_rfl) (fun w hS => hS.sub (by repeat (first | exact List.Sublist.refl _ | exact List.nil_sublist _ | refine List.Sublist.cons _ ?_ | refine List.sublist_append_of_sublist_right ?_))) ?_
  refine WH.val (v_build rfl rfl zero_169 plc_169 rfl) (.none rfl) rfl rfl <| WH.nil <| ?_
  refine WRH.one (g := 3) 23 (by kernel_rfl) ?_
  refine zB Tryz.underlying114 sz_169 zero_169 rfl rfl ?_
  intro g213 hg213
  refine WL.as (L' := .row g213 (CapL.cells (⟨fOf xs j, ad211, c211, zs3.take n3⟩ : CapL)) :: (E211 ++ (E2 ++ (KO2 ++ (.row g6 (MsL.opened (fOf xs 18) ys ad2 kc2 ds).rcells :: .row g5 (fltL 0 0 ⟨#[]⟩) :: .row g3 (fltL 0 0 ⟨#[]⟩) :: [.row g2 (MsL.zero 0).rcells]))))) rfl ?_
  refine WL.to (L' := E2 ++ (.row g213 (CapL.cells (⟨fOf xs j, ad211, c211, zs3.take n3⟩ : CapL)) :: (E211 ++ (KO2 ++ (.row g6 (MsL.opened (fOf xs 18) ys ad2 kc2 ds).rcells :: .row g5 (fltL 0 0 ⟨#[]⟩) :: .row g3 (fltL 0 0 ⟨#[]⟩) :: [.row g2 (MsL.zero 0).rcells]))))) (fun w hS => hS.permC (by intro c h1 h2 h3 e; simp only [h1, h2, h3]; omega)) ?_
  refine WL.nilH (fun w hS => hS.sub (by repeat (first | exact List.Sublist.refl _ | exact List.nil_sublist _ | refine List.Sublist.cons _ ?_ | refine List.sublist_append_of_sublist_right ?_))) ?_
  refine WRH.one (g := 2) 24 (by kernel_rfl) ?_
  refine WL.appendL rfl rfl rfl Tryz.underlying114 Tryz.underlying114 sz_169 by_169 zero_169 rfl rfl hV2 (new := CapL.cells (⟨fOf xs j, ad211, c211, zs3.take n3⟩ : CapL)) (fun _ => ⟨g213, 0, rfl, fun w hS => allAt (g := g213) w hS⟩) rfl rfl (by omega) (.none rfl) rfl rfl ?_
  intro ad214 c214 E214 hV214 hr214
  rw [← capsL_snoc] at hV214
  rw [show ds.length + 1 = (ds ++ [(⟨fOf xs j, ad211, c211, zs3.take n3⟩ : CapL)]).length by rw [List.length_append]; rfl] at hV214 ⊢
  refine WL.nilH (fun w hS => hS.sub (by repeat (first | exact List.Sublist.refl _ | exact List.nil_sublist _ | refine List.Sublist.cons _ ?_ | refine List.sublist_append_of_sublist_right ?_))) ?_
  refine WRH.first (g := 1) [25] (by kernel_rfl) (by kernel_rfl) (fun w hS => hS.sub (by repeat (first | exact List.Sublist.refl _ | exact List.nil_sublist _ | refine List.Sublist.cons _ ?_ | refine List.sublist_append_of_sublist_right ?_))) ?_
  refine WH.val (v_fieldAddr0 rfl rfl fld_122_4) (.none rfl) rfl rfl <| WH.nil <| ?_
  refine WRH.one (g := 0) 26 (by kernel_rfl) ?_
  refine zO one_114 rfl rfl <| WL.as (L' := E214 ++ (.row g213 (CapL.cells (⟨fOf xs j, ad211, c211, zs3.take n3⟩ : CapL)) :: (E211 ++ (KO2 ++ (.row g6 (MsL.opened (fOf xs 18) ys ad214 c214 (ds ++ [(⟨fOf xs j, ad211, c211, zs3.take n3⟩ : CapL)])).rcells :: .row g5 (fltL 0 0 ⟨#[]⟩) :: .row g3 (fltL 0 0 ⟨#[]⟩) :: [.row g2 (MsL.zero 0).rcells]))))) rfl <| ?_
  refine WL.nilH (fun w hS => hS.sub (by repeat (first | exact List.Sublist.refl _ | exact List.nil_sublist _ | refine List.Sublist.cons _ ?_ | refine List.sublist_append_of_sublist_right ?_))) ?_
  refine WRH.done (by kernel_rfl) ?_
  refine eN <| WC.region <| zM rfl <| zM rfl <| zM rfl <| ?_
  refine zV (v_add rfl rfl rfl (show _ = ((j + 1 : Nat) : Int) from (w_i64 (by omega) (by omega)).trans (by omega))) rfl ?_
  refine zV (v_indexAddr (lo := j + 1) rfl rfl rfl Tryz.underlying25 sz_5 (by omega) (by omega)) rfl ?_
  refine zV (v_load1 rfl rfl one_5 (cellOld (fun h => h) (hW.get (fOf_get (by omega))))) rfl ?_
  refine zV (v_conv rfl rfl Tryz.underlying3 Tryz.underlying5 (w_i64 (by omega) (by omega))) rfl ?_
  refine zV (v_add rfl rfl rfl (show _ = ((2 + n3 : Nat) : Int) from (w_i64 (by omega) (by omega)).trans (by omega))) rfl ?_
  refine zV (v_add rfl rfl rfl (show _ = ((j + 2 + n3 : Nat) : Int) from (w_i64 (by omega) (by omega)).trans (by omega))) rfl ?_
  refine zA rfl <| WL.nil <| eb <| ?_
  exact WE.to (L' := E214 ++ ((E211 ++ KO2) ++ (.row g6 (MsL.opened (fOf xs 18) ys ad214 c214 (ds ++ [(⟨fOf xs j, ad211, c211, zs3.take n3⟩ : CapL)])).rcells :: .row g5 (fltL 0 0 ⟨#[]⟩) :: .row g3 (fltL 0 0 ⟨#[]⟩) :: [.row g2 (MsL.zero 0).rcells]))) (fun w hS => by
  have := hS.sub (L' := E214 ++ (E211 ++ (KO2 ++ (.row g6 (MsL.opened (fOf xs 18) ys ad214 c214 (ds ++ [(⟨fOf xs j, ad211, c211, zs3.take n3⟩ : CapL)])).rcells :: .row g5 (fltL 0 0 ⟨#[]⟩) :: .row g3 (fltL 0 0 ⟨#[]⟩) :: [.row g2 (MsL.zero 0).rcells])))) (List.Sublist.append_left (.cons _ (.refl _)) _)
  rwa [← List.append_assoc E211] at this) (WE.next ⟨j + 2 + n3, ds ++ [(⟨fOf xs j, ad211, c211, zs3.take n3⟩ : CapL)], ad214, c214, E214, E211 ++ KO2⟩ (by dsimp only; omega) ⟨by dsimp only; omega, by dsimp only; omega, by dsimp only; rw [List.length_append]; show _ + 1 ≤ _; omega, by dsimp only; rw [hcap, hvd, List.map_append]; show _ = capsR (_ ++ [(fOf xs j, _)]) _; rw [ex3], hV214, fun c' hc' => (by
  rcases List.mem_append.1 hc' with hc' | hc'
  · obtain ⟨E', r1, r2⟩ := hO2 c' hc'
    exact ⟨E', r1, fun e he => List.mem_append_right _ (r2 e he)⟩
  · rw [List.mem_singleton.1 hc']
    exact ⟨E211, hV211, fun e he => List.mem_append_left _ he⟩)⟩ (.cons rfl (.cons rfl (.cons rfl (.cons rfl (.cons rfl (.cons rfl .nil)))))) (.refl _))
  refine zB Tryz.underlying25 sz_5 zero_5 rfl rfl ?_
  intro g197 hg197
  refine WL.nilH (fun w hS => hS.sub (by repeat (first | exact List.Sublist.refl _ | exact List.nil_sublist _ | refine List.Sublist.cons _ ?_ | refine List.sublist_append_of_sublist_right ?_))) ?_
  refine WRH.each (g := 6) [1, 21] (by kernel_rfl) (by decide) ?_
  refine ⟨?_, ?_⟩
  refine zV (v_load1 rfl rfl one_114 (cellAt (v := .slice ad2 ds.length kc2) rfl)) rfl ?_
  refine WL.nilH (fun w hS => hS.sub (by repeat (first | exact List.Sublist.refl _ | exact List.nil_sublist _ | refine List.Sublist.cons _ ?_ | refine List.sublist_append_of_sublist_right ?_))) ?_
  refine WRH.one (g := 5) 21 (by kernel_rfl) ?_
  refine WL.appendL rfl rfl rfl Tryz.underlying25 Tryz.underlying25 sz_5 by_5 zero_5 rfl rfl (E := [.row g197 []]) (Vec.row (k := 0) (s := 1) (c := 0) rfl rfl (by omega)) (new := u8s (zs3.take n3)) (fun h => ⟨b, sAddr o (j + 2) c 1, rfl, fun w hS' => hS'.rng (fun _ h => h) _ _ _ hWv.at_⟩) (by rw [u8s_len]; omega) (u8s_one _) (by omega) (.none rfl) rfl rfl ?_
  intro ad211 c211 E211 hV211 hr211
  rw [show 0 + (j + 2 + n3 - (j + 2)) = (zs3.take n3).length by omega] at hV211 ⊢
  rw [show List.take (0 * 1) ([] : List Value) = [] from rfl, List.nil_append] at hV211
  refine WL.as (L' := E211 ++ (E2 ++ (KO2 ++ (.row g6 (MsL.opened (fOf xs 18) ys ad2 kc2 ds).rcells :: .row g5 (fltL 0 0 ⟨#[]⟩) :: .row g3 (fltL 0 0 ⟨#[]⟩) :: [.row g2 (MsL.zero 0).rcells])))) rfl ?_
  refine WL.nilH (fun w hS => hS.sub (by repeat (first | exact List.Sublist.refl _ | exact List.nil_sublist _ | refine List.Sublist.cons _ ?_ | refine List.sublist_append_of_sublist_right ?_))) ?_
  refine WRH.first (g := 4) [22] (by kernel_rfl) (by kernel_rfl) (fun w hS => hS.sub (by repeat (first | exact List.Sublist.refl _ | exact List.nil_sublist _ | refine List.Sublist.cons _ ?_ | refine List.sublist_append_of_sublist_right ?_))) ?_
  refine WH.val (v_build rfl rfl zero_169 plc_169 rfl) (.none rfl) rfl rfl <| WH.nil <| ?_
  refine WRH.one (g := 3) 23 (by kernel_rfl) ?_
  refine zB Tryz.underlying114 sz_169 zero_169 rfl rfl ?_
  intro g213 hg213
  refine WL.as (L' := .row g213 (CapL.cells (⟨fOf xs j, ad211, c211, zs3.take n3⟩ : CapL)) :: (E211 ++ (E2 ++ (KO2 ++ (.row g6 (MsL.opened (fOf xs 18) ys ad2 kc2 ds).rcells :: .row g5 (fltL 0 0 ⟨#[]⟩) :: .row g3 (fltL 0 0 ⟨#[]⟩) :: [.row g2 (MsL.zero 0).rcells]))))) rfl ?_
  refine WL.to (L' := E2 ++ (.row g213 (CapL.cells (⟨fOf xs j, ad211, c211, zs3.take n3⟩ : CapL)) :: (E211 ++ (KO2 ++ (.row g6 (MsL.opened (fOf xs 18) ys ad2 kc2 ds).rcells :: .row g5 (fltL 0 0 ⟨#[]⟩) :: .row g3 (fltL 0 0 ⟨#[]⟩) :: [.row g2 (MsL.zero 0).rcells]))))) (fun w hS => hS.permC (by intro c h1 h2 h3 e; simp only [h1, h2, h3]; omega)) ?_
  refine WL.nilH (fun w hS => hS.sub (by repeat (first | exact List.Sublist.refl _ | exact List.nil_sublist _ | refine List.Sublist.cons _ ?_ | refine List.sublist_append_of_sublist_right ?_))) ?_
  refine WRH.one (g := 2) 24 (by kernel_rfl) ?_
  refine WL.appendL rfl rfl rfl Tryz.underlying114 Tryz.underlying114 sz_169 by_169 zero_169 rfl rfl hV2 (new := CapL.cells (⟨fOf xs j, ad211, c211, zs3.take n3⟩ : CapL)) (fun _ => ⟨g213, 0, rfl, fun w hS => allAt (g := g213) w hS⟩) rfl rfl (by omega) (.none rfl) rfl rfl ?_
  intro ad214 c214 E214 hV214 hr214
  rw [← capsL_snoc] at hV214
  rw [show ds.length + 1 = (ds ++ [(⟨fOf xs j, ad211, c211, zs3.take n3⟩ : CapL)]).length by rw [List.length_append]; rfl] at hV214 ⊢
  refine WL.nilH (fun w hS => hS.sub (by repeat (first | exact List.Sublist.refl _ | exact List.nil_sublist _ | refine List.Sublist.cons _ ?_ | refine List.sublist_append_of_sublist_right ?_))) ?_
  refine WRH.first (g := 1) [25] (by kernel_rfl) (by kernel_rfl) (fun w hS => hS.sub (by repeat (first | exact List.Sublist.refl _ | exact List.nil_sublist _ | refine List.Sublist.cons _ ?_ | refine List.sublist_append_of_sublist_right ?_))) ?_
  refine WH.val (v_fieldAddr0 rfl rfl fld_122_4) (.none rfl) rfl rfl <| WH.nil <| ?_
  refine WRH.one (g := 0) 26 (by kernel_rfl) ?_
  refine zO one_114 rfl rfl <| WL.as (L' := E214 ++ (.row g213 (CapL.cells (⟨fOf xs j, ad211, c211, zs3.take n3⟩ : CapL)) :: (E211 ++ (KO2 ++ (.row g6 (MsL.opened (fOf xs 18) ys ad214 c214 (ds ++ [(⟨fOf xs j, ad211, c211, zs3.take n3⟩ : CapL)])).rcells :: .row g5 (fltL 0 0 ⟨#[]⟩) :: .row g3 (fltL 0 0 ⟨#[]⟩) :: [.row g2 (MsL.zero 0).rcells]))))) rfl <| ?_
  refine WL.nilH (fun w hS => hS.sub (by repeat (first | exact List.Sublist.refl _ | exact List.nil_sublist _ | refine List.Sublist.cons _ ?_ | refine List.sublist_append_of_sublist_right ?_))) ?_
  refine WRH.done (by kernel_rfl) ?_
  refine eN <| WC.region <| zM rfl <| zM rfl <| zM rfl <| ?_
  refine zV (v_add rfl rfl rfl (show _ = ((j + 1 : Nat) : Int) from (w_i64 (by omega) (by omega)).trans (by omega))) rfl ?_
  refine zV (v_indexAddr (lo := j + 1) rfl rfl rfl Tryz.underlying25 sz_5 (by omega) (by omega)) rfl ?_
  refine zV (v_load1 rfl rfl one_5 (cellOld (fun h => h) (hW.get (fOf_get (by omega))))) rfl ?_
  refine zV (v_conv rfl rfl Tryz.underlying3 Tryz.underlying5 (w_i64 (by omega) (by omega))) rfl ?_
  refine zV (v_add rfl rfl rfl (show _ = ((2 + n3 : Nat) : Int) from (w_i64 (by omega) (by omega)).trans (by omega))) rfl ?_
  refine zV (v_add rfl rfl rfl (show _ = ((j + 2 + n3 : Nat) : Int) from (w_i64 (by omega) (by omega)).trans (by omega))) rfl ?_
  refine zA rfl <| WL.nil <| eb <| ?_
  exact WE.to (L' := E214 ++ ((E211 ++ KO2) ++ (.row g6 (MsL.opened (fOf xs 18) ys ad214 c214 (ds ++ [(⟨fOf xs j, ad211, c211, zs3.take n3⟩ : CapL)])).rcells :: .row g5 (fltL 0 0 ⟨#[]⟩) :: .row g3 (fltL 0 0 ⟨#[]⟩) :: [.row g2 (MsL.zero 0).rcells]))) (fun w hS => by
  have := hS.sub (L' := E214 ++ (E211 ++ (KO2 ++ (.row g6 (MsL.opened (fOf xs 18) ys ad214 c214 (ds ++ [(⟨fOf xs j, ad211, c211, zs3.take n3⟩ : CapL)])).rcells :: .row g5 (fltL 0 0 ⟨#[]⟩) :: .row g3 (fltL 0 0 ⟨#[]⟩) :: [.row g2 (MsL.zero 0).rcells])))) (List.Sublist.append_left (.cons _ (.refl _)) _)
  rwa [← List.append_assoc E211] at this) (WE.next ⟨j + 2 + n3, ds ++ [(⟨fOf xs j, ad211, c211, zs3.take n3⟩ : CapL)], ad214, c214, E214, E211 ++ KO2⟩ (by dsimp only; omega) ⟨by dsimp only; omega, by dsimp only; omega, by dsimp only; rw [List.length_append]; show _ + 1 ≤ _; omega, by dsimp only; rw [hcap, hvd, List.map_append]; show _ = capsR (_ ++ [(fOf xs j, _)]) _; rw [ex3], hV214, fun c' hc' => (by
  rcases List.mem_append.1 hc' with hc' | hc'
  · obtain ⟨E', r1, r2⟩ := hO2 c' hc'
    exact ⟨E', r1, fun e he => List.mem_append_right _ (r2 e he)⟩
  · rw [List.mem_singleton.1 hc']
    exact ⟨E211, hV211, fun e he => List.mem_append_left _ he⟩)⟩ (.cons rfl (.cons rfl (.cons rfl (.cons rfl (.cons rfl (.cons rfl .nil)))))) (.refl _))
  refine WL.appendL rfl rfl rfl Tryz.underlying25 Tryz.underlying25 sz_5 by_5 zero_5 rfl rfl (E := [.row g197 []]) (Vec.row (k := 0) (s := 1) (c := 0) rfl rfl (by omega)) (new := u8s (zs3.take n3)) (fun h => ⟨b, sAddr o (j + 2) c 1, rfl, fun w hS' => hS'.rng (fun _ h => h) _ _ _ hWv.at_⟩) (by rw [u8s_len]; omega) (u8s_one _) (by omega) (.none rfl) rfl rfl ?_
  intro ad211 c211 E211 hV211 hr211
  rw [show 0 + (j + 2 + n3 - (j + 2)) = (zs3.take n3).length by omega] at hV211 ⊢
  rw [show List.take (0 * 1) ([] : List Value) = [] from rfl, List.nil_append] at hV211
  refine WL.as (L' := E211 ++ (E2 ++ (KO2 ++ (.row g6 (MsL.opened (fOf xs 18) ys ad2 kc2 ds).rcells :: .row g5 (fltL 0 0 ⟨#[]⟩) :: .row g3 (fltL 0 0 ⟨#[]⟩) :: [.row g2 (MsL.zero 0).rcells])))) rfl ?_
  refine WL.nilH (fun w hS => hS.sub (by repeat (first | exact List.Sublist.refl _ | exact List.nil_sublist _ | refine List.Sublist.cons _ ?_ | refine List.sublist_append_of_sublist_right ?_))) ?_
  refine WRH.first (g := 5) [22] (by kernel_rfl) (by kernel_rfl) (fun w hS => hS.sub (by repeat (first | exact List.Sublist.refl _ | exact List.nil_sublist _ | refine List.Sublist.cons _ ?_ | refine List.sublist_append_of_sublist_right ?_))) ?_
  refine WH.val (v_build rfl rfl zero_169 plc_169 rfl) (.none rfl) rfl rfl <| WH.nil <| ?_
  refine WRH.each (g := 4) [1, 23] (by kernel_rfl) (by decide) ?_
  refine ⟨?_, ?_⟩
  refine zV (v_load1 rfl rfl one_114 (cellAt (v := .slice ad2 ds.length kc2) rfl)) rfl ?_
  refine WL.nilH (fun w hS => hS.sub (by repeat (first | exact List.Sublist.refl _ | exact List.nil_sublist _ | refine List.Sublist.cons _ ?_ | refine List.sublist_append_of_sublist_right ?_))) ?_
  refine WRH.one (g := 3) 23 (by kernel_rfl) ?_
  refine zB Tryz.underlying114 sz_169 zero_169 rfl rfl ?_
  intro g213 hg213
  refine WL.as (L' := .row g213 (CapL.cells (⟨fOf xs j, ad211, c211, zs3.take n3⟩ : CapL)) :: (E211 ++ (E2 ++ (KO2 ++ (.row g6 (MsL.opened (fOf xs 18) ys ad2 kc2 ds).rcells :: .row g5 (fltL 0 0 ⟨#[]⟩) :: .row g3 (fltL 0 0 ⟨#[]⟩) :: [.row g2 (MsL.zero 0).rcells]))))) rfl ?_
  refine WL.to (L' := E2 ++ (.row g213 (CapL.cells (⟨fOf xs j, ad211, c211, zs3.take n3⟩ : CapL)) :: (E211 ++ (KO2 ++ (.row g6 (MsL.opened (fOf xs 18) ys ad2 kc2 ds).rcells :: .row g5 (fltL 0 0 ⟨#[]⟩) :: .row g3 (fltL 0 0 ⟨#[]⟩) :: [.row g2 (MsL.zero 0).rcells]))))) (fun w hS => hS.permC (by intro c h1 h2 h3 e; simp only [h1, h2, h3]; omega)) ?_
  refine WL.nilH (fun w hS => hS.sub (by repeat (first | exact List.Sublist.refl _ | exact List.nil_sublist _ | refine List.Sublist.cons _ ?_ | refine List.sublist_append_of_sublist_right ?_))) ?_
  refine WRH.one (g := 2) 24 (by kernel_rfl) ?_
  refine WL.appendL rfl rfl rfl Tryz.underlying114 Tryz.underlying114 sz_169 by_169 zero_169 rfl rfl hV2 (new := CapL.cells (⟨fOf xs j, ad211, c211, zs3.take n3⟩ : CapL)) (fun _ => ⟨g213, 0, rfl, fun w hS => allAt (g := g213) w hS⟩) rfl rfl (by omega) (.none rfl) rfl rfl ?_
  intro ad214 c214 E214 hV214 hr214
  rw [← capsL_snoc] at hV214
  rw [show ds.length + 1 = (ds ++ [(⟨fOf xs j, ad211, c211, zs3.take n3⟩ : CapL)]).length by rw [List.length_append]; rfl] at hV214 ⊢
  refine WL.nilH (fun w hS => hS.sub (by repeat (first | exact List.Sublist.refl _ | exact List.nil_sublist _ | refine List.Sublist.cons _ ?_ | refine List.sublist_append_of_sublist_right ?_))) ?_
  refine WRH.first (g := 1) [25] (by kernel_rfl) (by kernel_rfl) (fun w hS => hS.sub (by repeat (first | exact List.Sublist.refl _ | exact List.nil_sublist _ | refine List.Sublist.cons _ ?_ | refine List.sublist_append_of_sublist_right ?_))) ?_
  refine WH.val (v_fieldAddr0 rfl rfl fld_122_4) (.none rfl) rfl rfl <| WH.nil <| ?_
  refine WRH.one (g := 0) 26 (by kernel_rfl) ?_
  refine zO one_114 rfl rfl <| WL.as (L' := E214 ++ (.row g213 (CapL.cells (⟨fOf xs j, ad211, c211, zs3.take n3⟩ : CapL)) :: (E211 ++ (KO2 ++ (.row g6 (MsL.opened (fOf xs 18) ys ad214 c214 (ds ++ [(⟨fOf xs j, ad211, c211, zs3.take n3⟩ : CapL)])).rcells :: .row g5 (fltL 0 0 ⟨#[]⟩) :: .row g3 (fltL 0 0 ⟨#[]⟩) :: [.row g2 (MsL.zero 0).rcells]))))) rfl <| ?_
  refine WL.nilH (fun w hS => hS.sub (by repeat (first | exact List.Sublist.refl _ | exact List.nil_sublist _ | refine List.Sublist.cons _ ?_ | refine List.sublist_append_of_sublist_right ?_))) ?_
  refine WRH.done (by kernel_rfl) ?_
  refine eN <| WC.region <| zM rfl <| zM rfl <| zM rfl <| ?_
  refine zV (v_add rfl rfl rfl (show _ = ((j + 1 : Nat) : Int) from (w_i64 (by omega) (by omega)).trans (by omega))) rfl ?_
  refine zV (v_indexAddr (lo := j + 1) rfl rfl rfl Tryz.underlying25 sz_5 (by omega) (by omega)) rfl ?_
  refine zV (v_load1 rfl rfl one_5 (cellOld (fun h => h) (hW.get (fOf_get (by omega))))) rfl ?_
  refine zV (v_conv rfl rfl Tryz.underlying3 Tryz.underlying5 (w_i64 (by omega) (by omega))) rfl ?_
  refine zV (v_add rfl rfl rfl (show _ = ((2 + n3 : Nat) : Int) from (w_i64 (by omega) (by omega)).trans (by omega))) rfl ?_
  refine zV (v_add rfl rfl rfl (show _ = ((j + 2 + n3 : Nat) : Int) from (w_i64 (by omega) (by omega)).trans (by omega))) rfl ?_
  refine zA rfl <| WL.nil <| eb <| ?_
  exact WE.to (L' := E214 ++ ((E211 ++ KO2) ++ (.row g6 (MsL.opened (fOf xs 18) ys ad214 c214 (ds ++ [(⟨fOf xs j, ad211, c211, zs3.take n3⟩ : CapL)])).rcells :: .row g5 (fltL 0 0 ⟨#[]⟩) :: .row g3 (fltL 0 0 ⟨#[]⟩) :: [.row g2 (MsL.zero 0).rcells]))) (fun w hS => by
  have := hS.sub (L' := E214 ++ (E211 ++ (KO2 ++ (.row g6 (MsL.opened (fOf xs 18) ys ad214 c214 (ds ++ [(⟨fOf xs j, ad211, c211, zs3.take n3⟩ : CapL)])).rcells :: .row g5 (fltL 0 0 ⟨#[]⟩) :: .row g3 (fltL 0 0 ⟨#[]⟩) :: [.row g2 (MsL.zero 0).rcells])))) (List.Sublist.append_left (.cons _ (.refl _)) _)
  rwa [← List.append_assoc E211] at this) (WE.next ⟨j + 2 + n3, ds ++ [(⟨fOf xs j, ad211, c211, zs3.take n3⟩ : CapL)], ad214, c214, E214, E211 ++ KO2⟩ (by dsimp only; omega) ⟨by dsimp only; omega, by dsimp only; omega, by dsimp only; rw [List.length_append]; show _ + 1 ≤ _; omega, by dsimp only; rw [hcap, hvd, List.map_append]; show _ = capsR (_ ++ [(fOf xs j, _)]) _; rw [ex3], hV214, fun c' hc' => (by
  rcases List.mem_append.1 hc' with hc' | hc'
  · obtain ⟨E', r1, r2⟩ := hO2 c' hc'
    exact ⟨E', r1, fun e he => List.mem_append_right _ (r2 e he)⟩
  · rw [List.mem_singleton.1 hc']
    exact ⟨E211, hV211, fun e he => List.mem_append_left _ he⟩)⟩ (.cons rfl (.cons rfl (.cons rfl (.cons rfl (.cons rfl (.cons rfl .nil)))))) (.refl _))
  refine zB Tryz.underlying114 sz_169 zero_169 rfl rfl ?_
  intro g213 hg213
  refine WL.as (L' := .row g213 (CapL.cells (⟨fOf xs j, ad211, c211, zs3.take n3⟩ : CapL)) :: (E211 ++ (E2 ++ (KO2 ++ (.row g6 (MsL.opened (fOf xs 18) ys ad2 kc2 ds).rcells :: .row g5 (fltL 0 0 ⟨#[]⟩) :: .row g3 (fltL 0 0 ⟨#[]⟩) :: [.row g2 (MsL.zero 0).rcells]))))) rfl ?_
  refine WL.to (L' := E2 ++ (.row g213 (CapL.cells (⟨fOf xs j, ad211, c211, zs3.take n3⟩ : CapL)) :: (E211 ++ (KO2 ++ (.row g6 (MsL.opened (fOf xs 18) ys ad2 kc2 ds).rcells :: .row g5 (fltL 0 0 ⟨#[]⟩) :: .row g3 (fltL 0 0 ⟨#[]⟩) :: [.row g2 (MsL.zero 0).rcells]))))) (fun w hS => hS.permC (by intro c h1 h2 h3 e; simp only [h1, h2, h3]; omega)) ?_
  refine WL.nilH (fun w hS => hS.sub (by repeat (first | exact List.Sublist.refl _ | exact List.nil_sublist _ | refine List.Sublist.cons _ ?_ | refine List.sublist_append_of_sublist_right ?_))) ?_
  refine WRH.one (g := 3) 1 (by kernel_rfl) ?_
  refine zV (v_load1 rfl rfl one_114 (cellAt (v := .slice ad2 ds.length kc2) rfl)) rfl ?_
  refine WL.nilH (fun w hS => hS.sub (by repeat (first | exact List.Sublist.refl _ | exact List.nil_sublist _ | refine List.Sublist.cons _ ?_ | refine List.sublist_append_of_sublist_right ?_))) ?_
  refine WRH.one (g := 2) 24 (by kernel_rfl) ?_
  refine WL.appendL rfl rfl rfl Tryz.underlying114 Tryz.underlying114 sz_169 by_169 zero_169 rfl rfl hV2 (new := CapL.cells (⟨fOf xs j, ad211, c211, zs3.take n3⟩ : CapL)) (fun _ => ⟨g213, 0, rfl, fun w hS => allAt (g := g213) w hS⟩) rfl rfl (by omega) (.none rfl) rfl rfl ?_
  intro ad214 c214 E214 hV214 hr214
  rw [← capsL_snoc] at hV214
  rw [show ds.length + 1 = (ds ++ [(⟨fOf xs j, ad211, c211, zs3.take n3⟩ : CapL)]).length by rw [List.length_append]; rfl] at hV214 ⊢
  refine WL.nilH (fun w hS => hS.sub (by repeat (first | exact List.Sublist.refl _ | exact List.nil_sublist _ | refine List.Sublist.cons _ ?_ | refine List.sublist_append_of_sublist_right ?_))) ?_
  refine WRH.first (g := 1) [25] (by kernel_rfl) (by kernel_rfl) (fun w hS => hS.sub (by repeat (first | exact List.Sublist.refl _ | exact List.nil_sublist _ | refine List.Sublist.cons _ ?_ | refine List.sublist_append_of_sublist_right ?_))) ?_
  refine WH.val (v_fieldAddr0 rfl rfl fld_122_4) (.none rfl) rfl rfl <| WH.nil <| ?_
  refine WRH.one (g := 0) 26 (by kernel_rfl) ?_
  refine zO one_114 rfl rfl <| WL.as (L' := E214 ++ (.row g213 (CapL.cells (⟨fOf xs j, ad211, c211, zs3.take n3⟩ : CapL)) :: (E211 ++ (KO2 ++ (.row g6 (MsL.opened (fOf xs 18) ys ad214 c214 (ds ++ [(⟨fOf xs j, ad211, c211, zs3.take n3⟩ : CapL)])).rcells :: .row g5 (fltL 0 0 ⟨#[]⟩) :: .row g3 (fltL 0 0 ⟨#[]⟩) :: [.row g2 (MsL.zero 0).rcells]))))) rfl <| ?_
  refine WL.nilH (fun w hS => hS.sub (by repeat (first | exact List.Sublist.refl _ | exact List.nil_sublist _ | refine List.Sublist.cons _ ?_ | refine List.sublist_append_of_sublist_right ?_))) ?_
  refine WRH.done (by kernel_rfl) ?_
  refine eN <| WC.region <| zM rfl <| zM rfl <| zM rfl <| ?_
  refine zV (v_add rfl rfl rfl (show _ = ((j + 1 : Nat) : Int) from (w_i64 (by omega) (by omega)).trans (by omega))) rfl ?_
  refine zV (v_indexAddr (lo := j + 1) rfl rfl rfl Tryz.underlying25 sz_5 (by omega) (by omega)) rfl ?_
  refine zV (v_load1 rfl rfl one_5 (cellOld (fun h => h) (hW.get (fOf_get (by omega))))) rfl ?_
  refine zV (v_conv rfl rfl Tryz.underlying3 Tryz.underlying5 (w_i64 (by omega) (by omega))) rfl ?_
  refine zV (v_add rfl rfl rfl (show _ = ((2 + n3 : Nat) : Int) from (w_i64 (by omega) (by omega)).trans (by omega))) rfl ?_
  refine zV (v_add rfl rfl rfl (show _ = ((j + 2 + n3 : Nat) : Int) from (w_i64 (by omega) (by omega)).trans (by omega))) rfl ?_
  refine zA rfl <| WL.nil <| eb <| ?_
  exact WE.to (L' := E214 ++ ((E211 ++ KO2) ++ (.row g6 (MsL.opened (fOf xs 18) ys ad214 c214 (ds ++ [(⟨fOf xs j, ad211, c211, zs3.take n3⟩ : CapL)])).rcells :: .row g5 (fltL 0 0 ⟨#[]⟩) :: .row g3 (fltL 0 0 ⟨#[]⟩) :: [.row g2 (MsL.zero 0).rcells]))) (fun w hS => by
  have := hS.sub (L' := E214 ++ (E211 ++ (KO2 ++ (.row g6 (MsL.opened (fOf xs 18) ys ad214 c214 (ds ++ [(⟨fOf xs j, ad211, c211, zs3.take n3⟩ : CapL)])).rcells :: .row g5 (fltL 0 0 ⟨#[]⟩) :: .row g3 (fltL 0 0 ⟨#[]⟩) :: [.row g2 (MsL.zero 0).rcells])))) (List.Sublist.append_left (.cons _ (.refl _)) _)
  rwa [← List.append_assoc E211] at this) (WE.next ⟨j + 2 + n3, ds ++ [(⟨fOf xs j, ad211, c211, zs3.take n3⟩ : CapL)], ad214, c214, E214, E211 ++ KO2⟩ (by dsimp only; omega) ⟨by dsimp only; omega, by dsimp only; omega, by dsimp only; rw [List.length_append]; show _ + 1 ≤ _; omega, by dsimp only; rw [hcap, hvd, List.map_append]; show _ = capsR (_ ++ [(fOf xs j, _)]) _; rw [ex3], hV214, fun c' hc' => (by
  rcases List.mem_append.1 hc' with hc' | hc'
  · obtain ⟨E', r1, r2⟩ := hO2 c' hc'
    exact ⟨E', r1, fun e he => List.mem_append_right _ (r2 e he)⟩
  · rw [List.mem_singleton.1 hc']
    exact ⟨E211, hV211, fun e he => List.mem_append_left _ he⟩)⟩ (.cons rfl (.cons rfl (.cons rfl (.cons rfl (.cons rfl (.cons rfl .nil)))))) (.refl _))
  refine zN <| cF rfl <| cX <| eX <| eX <| eH <| eb <| ?_
  have hje2 : j = k + 2 + n := (by omega)
  exact WE.next ⟨j, ds, ad2, kc2, E2, KO2⟩ (by dsimp only; omega) ⟨by dsimp only; omega, by dsimp only; omega, hdl2, by
    dsimp only
    rw [hop, hcap, show k + 2 + n - j = 0 by omega, List.take_zero, capsR_nil, hzs, List.drop_drop, hje2], hV2, hO2⟩ (.cons rfl (.cons rfl (.cons rfl (.cons rfl (.cons rfl .nil))))) (.refl _)
  refine zN <| cF rfl <| cX <| eX <| eX <| eH <| eN <| cS <| cR <| zF rfl fld_122_0 <| zV (v_load1 rfl rfl one_3 (cellAt (v := .int .i64 (fOf xs 18)) rfl)) rfl <| ?_
  refine zV ((v_eql rfl rfl rfl).f (by omega)) rfl ?_
  refine zN <| cF rfl <| cK <| eN <| cS <| cR <| zF rfl fld_122_0 <| zV (v_load1 rfl rfl one_3 (cellAt (v := .int .i64 (fOf xs 18)) rfl)) rfl <| ?_
  refine zV ((v_eql rfl rfl rfl).f (by omega)) rfl ?_
  refine zN <| cF rfl <| cK <| eN <| cR <| zV (v_loadN rfl rfl many_122 rfl allAt) rfl <| zV (v_build rfl rfl zero_120 plc_120 rfl) rfl <| zW many_122 rfl rfl <| zW many_120 rfl rfl <| zN <| cE <| WE.ret2 (P := Tryz.prog) (.inl rfl) Tryz.results58 (resRow rfl many_122 rfl) (resRow rfl many_120 rfl) <| ?_
  have hkx : xs.drop k = [] := List.drop_eq_nil_of_le (by omega)
  have e2 : openR ys = .inl (cs.map capD) := (by rw [hop, hkx, optsR_nil])
  have e1 : decM xs = .inl (MsL.d (MsL.opened (fOf xs 18) ys ad kc cs)) := (by rw [e00]; unfold bodyM; rw [if_pos h42, e2]; rfl)
  exact fun w' h => by
    unfold RMsP
    rw [e1]
    refine ⟨MsL.opened (fOf xs 18) ys ad kc cs, E ++ KO, rfl, rfl, ⟨⟨E, hV, fun e he => List.mem_append_left _ he⟩, fun c' hc' => ?_, ⟨[], Vec.nil 2, fun _ h => by cases h⟩, ⟨[], Vec.nil 2, fun _ h => by cases h⟩, AtAll.zero.mono fun _ h => by cases h⟩, h.sub (List.Sublist.append_left (List.sublist_append_left _ _) _)⟩
    obtain ⟨E', r1, r2⟩ := hO c' hc'
    exact ⟨E', r1, fun e he => List.mem_append_right _ (r2 e he)⟩
  refine zN <| cF rfl <| cK <| eN <| cS <| cR <| zF rfl fld_122_0 <| zV (v_load1 rfl rfl one_3 (cellAt (v := .int .i64 (fOf xs 18)) rfl)) rfl <| ?_
  refine zT (v_eql rfl rfl rfl) rfl (fun h227 => ?_) (fun h227 => ?_)
  refine zN <| cT rfl <| cS <| cQ mixed <| ?_
  have hl23 : 23 ≤ xs.length := (by rw [hlst, if_neg h42, if_pos h227] at hle2; omega)
  have hnu : ∀ f, updR ys = .inr f → decM xs = .inr f := (fun f h => by rw [e00]; unfold bodyM; rw [if_neg h42, if_pos h227, h])
  have b0 := hb 0
  have b1 := hb 1
  obtain ⟨g, hgv⟩ := Int.eq_ofNat_of_zero_le (show 0 ≤ fOf ys 0 * 256 + fOf ys 1 by omega)
  refine qV (v_move rfl rfl) rfl ?_
  refine qV (v_indexAddr (lo := 19) rfl rfl rfl Tryz.underlying25 sz_5 rfl (by omega)) rfl ?_
  refine qV (v_load1 rfl rfl one_5 ((fun w hS => hgc w _ 0 (by omega) hS))) rfl ?_
  refine qV (v_conv rfl rfl Tryz.underlying3 Tryz.underlying5 (w_i64 (by omega) (by omega))) rfl ?_
  refine qV (v_mul rfl rfl rfl (w_i64 (by omega) (by omega))) rfl ?_
  refine qV (v_move rfl rfl) rfl ?_
  refine qV (v_indexAddr (lo := 20) rfl rfl rfl Tryz.underlying25 sz_5 rfl (by omega)) rfl ?_
  refine qV (v_load1 rfl rfl one_5 ((fun w hS => hgc w _ 1 (by omega) hS))) rfl ?_
  refine qV (v_conv rfl rfl Tryz.underlying3 Tryz.underlying5 (w_i64 (by omega) (by omega))) rfl ?_
  refine qV (v_add rfl rfl rfl (w_i64 (by omega) (by omega))) rfl ?_
  rw [hgv]
  refine qV (v_assign rfl rfl) rfl <| WQ.nil <| eN <| cS <| cR <| zM rfl <| ?_
  refine zV (v_add rfl rfl rfl (w_i64 (by omega) (by omega))) rfl ?_
  refine zM rfl <| zV (v_len_slice rfl rfl Tryz.underlying25) rfl <| ?_
  refine zT (v_gtr rfl rfl rfl) rfl (fun h242 => ?_) (fun h242 => ?_)
  refine zN <| cT rfl <| cR <| zV (v_build rfl rfl zero_122 plc_122 rfl) rfl <| zK ck_91 rfl <| ?_
  intro w hS
  refine Calls.then (RFault_c w 3 1 none 0 0 (fun _ => 0) (RdO.nil w _)) hS ?_
  refine zW many_122 rfl rfl <| zW many_120 rfl rfl <| zN <| cE <| eR <| eR <| WE.ret2 (P := Tryz.prog) (.inl rfl) Tryz.results58 (resRow rfl many_122 rfl) (resRow rfl many_120 rfl) <| ?_
  have eu : updR ys = .inr (3, 1, ⟨#[]⟩) := (by
    unfold updR
    by_cases hc1 : ys.length < 2 + g
    · rw [show countR ys = none by unfold countR; rw [if_pos (.inr (by omega))]]
    · rw [show countR ys = some ((ys.drop 2).take g, ys.drop (2 + g)) by unfold countR; rw [if_neg (by omega), hgv, Int.toNat_natCast]]
      dsimp only
      rw [show countR (ys.drop (2 + g)) = none by unfold countR; rw [if_pos (.inl (by rw [List.length_drop]; omega))]])
  exact fun w' h => RMsP.no (hnu _ eu) h
  refine zN <| cF rfl <| cK <| eN <| cS <| cQ mixed <| ?_
  have ec1 : countR ys = some ((ys.drop 2).take g, ys.drop (2 + g)) := (by unfold countR; rw [if_neg (by omega), hgv, Int.toNat_natCast])
  have bg0 := hb (2 + g)
  have bg1 := hb (3 + g)
  obtain ⟨q, hqv⟩ := Int.eq_ofNat_of_zero_le (show 0 ≤ fOf ys (2 + g) * 256 + fOf ys (3 + g) by omega)
  have hfr : fOf (ys.drop (2 + g)) 0 * 256 + fOf (ys.drop (2 + g)) 1 = q := (by rw [fOf_drop, fOf_drop, show 2 + g + 1 = 3 + g by omega]; exact hqv)
  have hrl : (ys.drop (2 + g)).length = xs.length - (21 + g) := (by rw [List.length_drop]; omega)
  refine qV (v_move rfl rfl) rfl <| qV (v_move rfl rfl) rfl <| ?_
  refine qV (v_add rfl rfl rfl (show _ = ((19 + (2 + g) : Nat) : Int) from (w_i64 (by omega) (by omega)).trans (by omega))) rfl ?_
  refine qV (v_indexAddr (lo := 19 + (2 + g)) rfl rfl rfl Tryz.underlying25 sz_5 (by omega) (by omega)) rfl ?_
  refine qV (v_load1 rfl rfl one_5 ((fun w hS => hgc w _ (2 + g) (by omega) hS))) rfl ?_
  refine qV (v_conv rfl rfl Tryz.underlying3 Tryz.underlying5 (w_i64 (by omega) (by omega))) rfl ?_
  refine qV (v_mul rfl rfl rfl (w_i64 (by omega) (by omega))) rfl ?_
  refine qV (v_move rfl rfl) rfl <| qV (v_move rfl rfl) rfl <| ?_
  refine qV (v_add rfl rfl rfl (show _ = ((19 + (3 + g) : Nat) : Int) from (w_i64 (by omega) (by omega)).trans (by omega))) rfl ?_
  refine qV (v_indexAddr (lo := 19 + (3 + g)) rfl rfl rfl Tryz.underlying25 sz_5 (by omega) (by omega)) rfl ?_
  refine qV (v_load1 rfl rfl one_5 ((fun w hS => hgc w _ (3 + g) (by omega) hS))) rfl ?_
  refine qV (v_conv rfl rfl Tryz.underlying3 Tryz.underlying5 (w_i64 (by omega) (by omega))) rfl ?_
  refine qV (v_add rfl rfl rfl (w_i64 (by omega) (by omega))) rfl ?_
  rw [hqv]
  refine qV (v_assign rfl rfl) rfl <| WQ.nil <| eN <| cS <| cR <| zM rfl <| ?_
  refine zV (v_add rfl rfl rfl (w_i64 (by omega) (by omega))) rfl ?_
  refine zM rfl ?_
  refine zV (v_add rfl rfl rfl (w_i64 (by omega) (by omega))) rfl ?_
  refine zM rfl <| zV (v_len_slice rfl rfl Tryz.underlying25) rfl <| ?_
  refine zT (v_gtr rfl rfl rfl) rfl (fun h265 => ?_) (fun h265 => ?_)
  refine zN <| cT rfl <| cR <| zV (v_build rfl rfl zero_122 plc_122 rfl) rfl <| zK ck_91 rfl <| ?_
  intro w hS
  refine Calls.then (RFault_c w 3 1 none 0 0 (fun _ => 0) (RdO.nil w _)) hS ?_
  refine zW many_122 rfl rfl <| zW many_120 rfl rfl <| zN <| cE <| eR <| eR <| WE.ret2 (P := Tryz.prog) (.inl rfl) Tryz.results58 (resRow rfl many_122 rfl) (resRow rfl many_120 rfl) <| ?_
  have eu : updR ys = .inr (3, 1, ⟨#[]⟩) := (by
    unfold updR
    rw [ec1]
    dsimp only
    rw [show countR (ys.drop (2 + g)) = none by unfold countR; rw [hfr, if_pos (.inr (by omega))]])
  exact fun w' h => RMsP.no (hnu _ eu) h
  refine zN <| cF rfl <| cK <| eN <| cR <| ?_
  have ec2 : countR (ys.drop (2 + g)) = some (((ys.drop (2 + g)).drop 2).take q, (ys.drop (2 + g)).drop (2 + q)) := (by unfold countR; rw [hfr, if_neg (by omega), Int.toNat_natCast])
  obtain ⟨xg, hxg⟩ : ∃ z, z = (ys.drop 2).take g := ⟨_, rfl⟩
  obtain ⟨xa, hxa⟩ : ∃ z, z = ((ys.drop (2 + g)).drop 2).take q := ⟨_, rfl⟩
  obtain ⟨xn, hxn⟩ : ∃ z, z = (ys.drop (2 + g)).drop (2 + q) := ⟨_, rfl⟩
  have hgl : xg.length = g := (by rw [hxg, List.length_take, List.length_drop]; omega)
  have hal : xa.length = q := (by rw [hxa, List.length_take, List.length_drop]; omega)
  have hnl : xn.length = xs.length - (23 + g + q) := (by rw [hxn, List.length_drop]; omega)
  have hWg : Win w0 b (sAddr o 21 c 1) (c - 21) xg := (by rw [hxg, show (ys.drop 2).take g = (xs.take (21 + g)).drop 21 by rw [hys, List.drop_drop, List.drop_take, Nat.add_sub_cancel_left]]; exact (hW.take _).drop _)
  have hWa : Win w0 b (sAddr o (23 + g) c 1) (c - (23 + g)) xa := (by rw [hxa, show ((ys.drop (2 + g)).drop 2).take q = (xs.take (23 + g + q)).drop (23 + g) by rw [hys, List.drop_drop, List.drop_drop, List.drop_take, Nat.add_sub_cancel_left]; congr 2; omega]; exact (hW.take _).drop _)
  have hWn : Win w0 b (sAddr o (23 + g + q) c 1) (c - (23 + g + q)) xn := (by rw [hxn, show (ys.drop (2 + g)).drop (2 + q) = xs.drop (23 + g + q) by rw [hys, List.drop_drop, List.drop_drop]; congr 1; omega]; exact hW.drop _)
  rw [← hxg] at ec1
  rw [← hxa, ← hxn] at ec2
  refine zM rfl <| zM rfl <| ?_
  refine zV (v_add rfl rfl rfl (show _ = ((21 + g : Nat) : Int) from (w_i64 (by omega) (by omega)).trans (by omega))) rfl ?_
  refine zV ((v_slice_lh (lo := 21) (hi := 21 + g) rfl rfl rfl rfl Tryz.underlying25 sz_5 rfl rfl (by omega) (by omega))) rfl ?_
  rw [show 21 + g - 21 = xg.length by omega]
  refine zK ck_92 rfl ?_
  intro w1 hS
  refine (RRead_u w1 b (sAddr o 21 c 1) (c - 21) xg (hWg.st hS) (by omega)).mono ?_
  rintro e w' ⟨gs, gad, gc, Eg, ok3, rfl, hVg, hSg, hbad3, hok3⟩
  refine ⟨_, _, rfl, hS.join hSg, ?_⟩
  refine zM rfl <| zX rfl <| zX rfl <| ?_
  skip
  cases ok3
  refine zA rfl <| zA rfl <| zN <| cS <| cR <| zM rfl <| zV (v_not rfl rfl rfl) rfl <| zN <| cT rfl <| cR <| zV (v_build rfl rfl zero_122 plc_122 rfl) rfl <| zK ck_91 rfl <| ?_
  intro w hS
  refine Calls.then (RFault_c w 3 1 none 0 0 (fun _ => 0) (RdO.nil w _)) hS ?_
  refine zW many_122 rfl rfl <| zW many_120 rfl rfl <| zN <| cE <| eR <| eR <| WE.ret2 (P := Tryz.prog) (.inl rfl) Tryz.results58 (resRow rfl many_122 rfl) (resRow rfl many_120 rfl) <| ?_
  have eu : updR ys = .inr (3, 1, ⟨#[]⟩) := (by unfold updR; rw [ec1]; dsimp only; rw [ec2]; dsimp only; rw [hbad3 rfl])
  exact fun w' h => RMsP.no (hnu _ eu) h
  refine zA rfl <| zA rfl <| zN <| cS <| cR <| zM rfl <| zV (v_not rfl rfl rfl) rfl <| zN <| cF rfl <| cK <| eN <| cR <| ?_
  refine zM rfl <| zM rfl <| ?_
  refine zV (v_add rfl rfl rfl (show _ = ((23 + g : Nat) : Int) from (w_i64 (by omega) (by omega)).trans (by omega))) rfl ?_
  refine zM rfl ?_
  refine zV (v_add rfl rfl rfl (show _ = ((23 + g : Nat) : Int) from (w_i64 (by omega) (by omega)).trans (by omega))) rfl ?_
  refine zM rfl ?_
  refine zV (v_add rfl rfl rfl (show _ = ((23 + g + q : Nat) : Int) from (w_i64 (by omega) (by omega)).trans (by omega))) rfl ?_
  refine zV ((v_slice_lh (lo := 23 + g) (hi := 23 + g + q) rfl rfl rfl rfl Tryz.underlying25 sz_5 rfl rfl (by omega) (by omega))) rfl ?_
  rw [show 23 + g + q - (23 + g) = xa.length by omega]
  refine zK ck_93 rfl ?_
  intro w1 hS
  refine (RDec06_u w1 b (sAddr o (23 + g) c 1) (c - (23 + g)) xa (hWa.st hS) (by omega)).mono ?_
  rintro e w' ⟨ok4, s4, d4, a, Ka, rfl, hAa, hSa, hbad4, hok4⟩
  refine ⟨_, _, rfl, hS.join hSa, ?_⟩
  refine zM rfl <| zX rfl <| zX rfl <| WL.alloc rfl zero_119 (.none rfl) rfl rfl <| ?_
  intro g13 hg13
  refine WL.alloc rfl zero_120 (.none rfl) rfl rfl ?_
  intro g14 hg14
  refine zW many_119 rfl rfl <| zW many_120 rfl rfl <| WL.as (L' := .row g14 (fltL (if ok4 then 0 else 3) s4 d4) :: .row g13 a.rcells :: (Ka ++ (Eg ++ (.row g6 (MsL.zero (fOf xs 18)).rcells :: .row g5 (fltL 0 0 ⟨#[]⟩) :: .row g3 (fltL 0 0 ⟨#[]⟩) :: [.row g2 (MsL.zero 0).rcells])))) rfl <| ?_
  cases ok4
  refine zN <| cS <| cR <| zF rfl fld_120_0 <| zL rfl one_3 rfl <| ?_
  refine zV ((v_neq rfl rfl rfl).t ((by intro h; simp at h))) rfl ?_
  refine zN <| cT rfl <| cS <| WC.orders mixed <| rF 3 [0] <| pV (v_build rfl rfl zero_122 plc_122 rfl) rfl <| WP.nil <| ?_
  refine WR.each (g := 2) [1, 2] (by kernel_rfl) (by decide) ?_
  refine ⟨?_, ?_⟩
  refine zV (v_loadN rfl rfl many_120 rfl allAt) rfl <| zH <| rO 0 [2, 3] <| zW many_122 rfl rfl <| zW many_120 rfl rfl <| zH <| rD <| eN <| cE <| eR <| eR <| WE.ret2 (P := Tryz.prog) (.inl rfl) Tryz.results58 (resRow rfl many_122 rfl) (resRow rfl many_120 rfl) <| ?_
  have eu : updR ys = .inr (3, s4, d4) := (by unfold updR; rw [ec1]; dsimp only; rw [ec2]; dsimp only; rw [hok3 rfl]; dsimp only; rw [hbad4 rfl])
  exact fun w' h => RMsP.no (hnu _ eu) h
  refine zW many_122 rfl rfl <| zH <| rA 1 [1] rfl <| qV (v_loadN rfl rfl many_120 rfl allAt) rfl <| WQ.nilR <| rO 0 [3] <| zW many_120 rfl rfl <| zH <| rD <| eN <| cE <| eR <| eR <| WE.ret2 (P := Tryz.prog) (.inl rfl) Tryz.results58 (resRow rfl many_122 rfl) (resRow rfl many_120 rfl) <| ?_
  have eu : updR ys = .inr (3, s4, d4) := (by unfold updR; rw [ec1]; dsimp only; rw [ec2]; dsimp only; rw [hok3 rfl]; dsimp only; rw [hbad4 rfl])
  exact fun w' h => RMsP.no (hnu _ eu) h
  refine zN <| cS <| cR <| zF rfl fld_120_0 <| zV (v_load1 rfl rfl one_3 (cellAt (g := g14) (v := .int .i64 0) rfl)) rfl <| ?_
  refine zV ((v_neq rfl rfl rfl).f (by omega)) rfl ?_
  refine zN <| cF rfl <| cK <| eN <| cR <| zM rfl <| zM rfl <| ?_
  refine zV (v_add rfl rfl rfl (show _ = ((23 + g : Nat) : Int) from (w_i64 (by omega) (by omega)).trans (by omega))) rfl ?_
  refine zM rfl ?_
  refine zV (v_add rfl rfl rfl (show _ = ((23 + g + q : Nat) : Int) from (w_i64 (by omega) (by omega)).trans (by omega))) rfl ?_
  refine zV ((v_slice_lo (lo := 23 + g + q) rfl rfl rfl Tryz.underlying25 sz_5 rfl (by omega))) rfl ?_
  obtain ⟨rfl, rfl, dd, ed, ea⟩ := hok4 rfl
  rw [show xs.length - (23 + g + q) = xn.length by omega]
  refine zK ck_92 rfl ?_
  intro w1 hS
  refine (RRead_u w1 b (sAddr o (23 + g + q) c 1) (c - (23 + g + q)) xn (hWn.st hS) (by omega)).mono ?_
  rintro e w' ⟨ns, nad, nc, En, ok5, rfl, hVn, hSn, hbad5, hok5⟩
  refine ⟨_, _, rfl, hS.join hSn, ?_⟩
  have e1 : updR ys = match netsR xn with
      | none => .inr (3, 10, ⟨#[]⟩)
      | some ns => if 200 < gs.length ∨ 200 < ns.length then .inr (6, 1, ⟨#[]⟩) else if missI dd.has ≠ 0 ∧ 0 < ns.length then .inr (3, 3, oneS (missI dd.has)) else .inl (gs, { dd with others := sortO dd.others }, ns) := (by
    unfold updR; rw [ec1]; dsimp only; rw [ec2]; dsimp only; rw [hok3 rfl]; dsimp only; rw [ed]; cases netsR xn <;> rfl)
  have hah : dd.has = a.has := (by have := congrArg AtD.has ea; exact this.symm)
  rw [← ea, hah] at e1
  have hmi := missI_b a.has
  have hSn2 := decD_seen ed hWa.bys
  have hgl2 := netsR_len _ (Nat.le_refl _) (hok3 rfl)
  refine zM rfl <| zX rfl <| zX rfl <| ?_
  skip
  cases ok5
  refine zA rfl <| zA rfl <| zN <| cS <| cR <| zM rfl <| zV (v_not rfl rfl rfl) rfl <| zN <| cT rfl <| cR <| zV (v_build rfl rfl zero_122 plc_122 rfl) rfl <| zK ck_91 rfl <| ?_
  intro w hS
  refine Calls.then (RFault_c w 3 10 none 0 0 (fun _ => 0) (RdO.nil w _)) hS ?_
  refine zW many_122 rfl rfl <| zW many_120 rfl rfl <| zN <| cE <| eR <| eR <| WE.ret2 (P := Tryz.prog) (.inl rfl) Tryz.results58 (resRow rfl many_122 rfl) (resRow rfl many_120 rfl) <| ?_
  rw [hbad5 rfl] at e1
  exact fun w' h => RMsP.no (hnu _ (by rw [e1]; try rfl)) h
  refine zA rfl <| zA rfl <| zN <| cS <| cR <| zM rfl <| zV (v_not rfl rfl rfl) rfl <| zN <| cF rfl <| cK <| eN <| cS <| cS <| ?_
  refine WC.region ?_
  have hnl2 := netsR_len _ (Nat.le_refl _) (hok5 rfl)
  rw [hok5 rfl] at e1
  dsimp only at e1
  refine zM rfl <| zV (v_len_slice rfl rfl Tryz.underlying115) rfl <| ?_
  refine zT (v_gtr rfl rfl rfl) rfl (fun h313 => ?_) (fun h313 => ?_)
  refine zM rfl ?_
  iterate 3 refine WL.sk rfl ?_
  refine zP rfl <| zN <| cT rfl <| cR <| zV (v_build rfl rfl zero_122 plc_122 rfl) rfl <| zK ck_91 rfl <| ?_
  intro w hS
  refine Calls.then (RFault_c w 6 1 none 0 0 (fun _ => 0) (RdO.nil w _)) hS ?_
  refine zW many_122 rfl rfl <| zW many_120 rfl rfl <| zN <| cE <| eR <| eR <| WE.ret2 (P := Tryz.prog) (.inl rfl) Tryz.results58 (resRow rfl many_122 rfl) (resRow rfl many_120 rfl) <| ?_
  rw [if_pos (by omega)] at e1
  exact fun w' h => RMsP.no (hnu _ (by rw [e1]; try rfl)) h
  refine zM rfl <| zS (v_move rfl rfl) rfl <| zS (v_len_slice rfl rfl Tryz.underlying115) rfl <| ?_
  refine WL.test (v_gtr rfl rfl rfl) (.some rfl rfl rfl) rfl rfl (fun h317 => ?_) (fun h317 => ?_)
  refine zQ rfl <| zN <| cT rfl <| cR <| zV (v_build rfl rfl zero_122 plc_122 rfl) rfl <| zK ck_91 rfl <| ?_
  intro w hS
  refine Calls.then (RFault_c w 6 1 none 0 0 (fun _ => 0) (RdO.nil w _)) hS ?_
  refine zW many_122 rfl rfl <| zW many_120 rfl rfl <| zN <| cE <| eR <| eR <| WE.ret2 (P := Tryz.prog) (.inl rfl) Tryz.results58 (resRow rfl many_122 rfl) (resRow rfl many_120 rfl) <| ?_
  rw [if_pos (by omega)] at e1
  exact fun w' h => RMsP.no (hnu _ (by rw [e1]; try rfl)) h
  refine zQ rfl <| zN <| cF rfl <| cK <| eN <| cS <| cR <| ?_
  rw [if_neg (by omega)] at e1
  refine zM rfl <| zV (v_len_slice rfl rfl Tryz.underlying115) rfl <| ?_
  refine zT (v_gtr rfl rfl rfl) rfl (fun h323 => ?_) (fun h323 => ?_)
  refine zM rfl <| zS (v_loadN rfl rfl many_119 rfl allAt) rfl <| WL.call rfl rfl ck_94 (.some rfl rfl rfl) rfl rfl <| ?_
  intro w hS
  refine Calls.then (RMissing_c w a (by omega) (by omega)) hS ?_
  refine WL.test (v_gtr rfl rfl rfl) (.some rfl rfl rfl) rfl rfl (fun h327 => ?_) (fun h327 => ?_)
  refine zP rfl <| zN <| cT rfl <| cR <| zV (v_build rfl rfl zero_122 plc_122 rfl) rfl <| zV (v_loadN rfl rfl many_119 rfl allAt) rfl <| zK ck_94 rfl <| ?_
  intro w hS
  refine Calls.then (RMissing_c w a (by omega) (by omega)) hS ?_
  refine zV (v_conv rfl rfl Tryz.underlying5 Tryz.underlying3 (w_u8 (by omega) (by omega))) rfl ?_
  refine zB Tryz.underlying25 sz_5 zero_5 rfl rfl ?_
  intro g333 hg333
  refine zK ck_91 rfl ?_
  intro w hS
  refine Calls.then (RFault_c w 3 3 (some ⟨g333, 0, none⟩) 1 1 (fun _ => missI a.has) (fun _ => ⟨g333, 0, rfl, fun i hi => by
  obtain rfl : i = 0 := (by omega)
  exact hS.cell (g := g333) rfl⟩)) hS ?_
  refine zW many_122 rfl rfl <| zW many_120 rfl rfl <| zN <| cE <| eR <| eR <| WE.ret2 (P := Tryz.prog) (.inl rfl) Tryz.results58 (resRow rfl many_122 rfl) (resRow rfl many_120 rfl) <| ?_
  rw [if_pos ⟨by omega, by omega⟩] at e1
  exact fun w' h => RMsP.no (hnu _ (by rw [e1]; try rfl)) h
  refine zP rfl <| zN <| cF rfl <| cK <| eN <| cR <| zM rfl <| zF rfl fld_122_5 <| zO one_115 rfl rfl <| zR <| zV (v_loadN rfl rfl many_119 rfl allAt) rfl <| ?_
  refine zF rfl fld_122_6 ?_
  refine WL.storeN rfl rfl rfl rfl many_119 rfl (by first | exact Nat.le_of_ble_eq_true rfl | simp) (.none rfl) rfl ?_
  refine zN <| WC.region <| zM rfl <| zF rfl fld_122_7 <| zO one_115 rfl rfl <| WL.as (L' := En ++ (.row g14 (fltL 0 0 ⟨#[]⟩) :: .row g13 a.rcells :: (Ka ++ (Eg ++ (.row g6 (MsL.upd (fOf xs 18) gad gc gs a nad nc ns).rcells :: .row g5 (fltL 0 0 ⟨#[]⟩) :: .row g3 (fltL 0 0 ⟨#[]⟩) :: [.row g2 (MsL.zero 0).rcells]))))) rfl <| zN <| cS <| cR <| zF rfl fld_122_0 <| zV (v_load1 rfl rfl one_3 (cellAt (v := .int .i64 (fOf xs 18)) rfl)) rfl <| ?_
  refine zV ((v_eql rfl rfl rfl).f (by omega)) rfl ?_
  refine zN <| cF rfl <| cK <| eN <| cR <| zV (v_loadN rfl rfl many_122 rfl allAt) rfl <| zV (v_build rfl rfl zero_120 plc_120 rfl) rfl <| zW many_122 rfl rfl <| zW many_120 rfl rfl <| zN <| cE <| WE.ret2 (P := Tryz.prog) (.inl rfl) Tryz.results58 (resRow rfl many_122 rfl) (resRow rfl many_120 rfl) <| ?_
  rw [if_neg (fun h => h327 (by omega))] at e1
  have e2 : decM xs = .inl (MsL.d (MsL.upd (fOf xs 18) gad gc gs a nad nc ns)) := (by rw [e00]; unfold bodyM; rw [if_neg h42, if_pos h227, e1]; rfl)
  exact fun w' h => by
    unfold RMsP
    rw [e2]
    have hM : MsAll (En ++ (.row g14 (fltL 0 0 ⟨#[]⟩) :: .row g13 a.rcells :: (Ka ++ Eg))) (MsL.upd (fOf xs 18) gad gc gs a nad nc ns) := ⟨⟨[], Vec.nil 2, fun _ h => by cases h⟩, (fun _ h => by cases h), ⟨Eg, hVg, fun e he => List.mem_append_right _ (List.mem_cons_of_mem _ (List.mem_cons_of_mem _ (List.mem_append_right _ he)))⟩, ⟨En, hVn, fun e he => List.mem_append_left _ he⟩, hAa.mono fun e he => List.mem_append_right _ (List.mem_cons_of_mem _ (List.mem_cons_of_mem _ (List.mem_append_left _ he)))⟩
    exact ⟨_, _, rfl, rfl, hM, h.sub (List.Sublist.append_left (.cons_cons _ (.cons_cons _ (List.Sublist.append_left (List.sublist_append_left _ _) _))) _)⟩
  refine zM rfl ?_
  iterate 3 refine WL.sk rfl ?_
  refine zQ rfl <| zN <| cF rfl <| cK <| eN <| cR <| zM rfl <| zF rfl fld_122_5 <| zO one_115 rfl rfl <| zR <| zV (v_loadN rfl rfl many_119 rfl allAt) rfl <| ?_
  refine zF rfl fld_122_6 ?_
  refine WL.storeN rfl rfl rfl rfl many_119 rfl (by first | exact Nat.le_of_ble_eq_true rfl | simp) (.none rfl) rfl ?_
  refine zN <| WC.region <| zM rfl <| zF rfl fld_122_7 <| zO one_115 rfl rfl <| WL.as (L' := En ++ (.row g14 (fltL 0 0 ⟨#[]⟩) :: .row g13 a.rcells :: (Ka ++ (Eg ++ (.row g6 (MsL.upd (fOf xs 18) gad gc gs a nad nc ns).rcells :: .row g5 (fltL 0 0 ⟨#[]⟩) :: .row g3 (fltL 0 0 ⟨#[]⟩) :: [.row g2 (MsL.zero 0).rcells]))))) rfl <| zN <| cS <| cR <| zF rfl fld_122_0 <| zV (v_load1 rfl rfl one_3 (cellAt (v := .int .i64 (fOf xs 18)) rfl)) rfl <| ?_
  refine zV ((v_eql rfl rfl rfl).f (by omega)) rfl ?_
  refine zN <| cF rfl <| cK <| eN <| cR <| zV (v_loadN rfl rfl many_122 rfl allAt) rfl <| zV (v_build rfl rfl zero_120 plc_120 rfl) rfl <| zW many_122 rfl rfl <| zW many_120 rfl rfl <| zN <| cE <| WE.ret2 (P := Tryz.prog) (.inl rfl) Tryz.results58 (resRow rfl many_122 rfl) (resRow rfl many_120 rfl) <| ?_
  rw [if_neg (fun h => h323 (by omega))] at e1
  have e2 : decM xs = .inl (MsL.d (MsL.upd (fOf xs 18) gad gc gs a nad nc ns)) := (by rw [e00]; unfold bodyM; rw [if_neg h42, if_pos h227, e1]; rfl)
  exact fun w' h => by
    unfold RMsP
    rw [e2]
    have hM : MsAll (En ++ (.row g14 (fltL 0 0 ⟨#[]⟩) :: .row g13 a.rcells :: (Ka ++ Eg))) (MsL.upd (fOf xs 18) gad gc gs a nad nc ns) := ⟨⟨[], Vec.nil 2, fun _ h => by cases h⟩, (fun _ h => by cases h), ⟨Eg, hVg, fun e he => List.mem_append_right _ (List.mem_cons_of_mem _ (List.mem_cons_of_mem _ (List.mem_append_right _ he)))⟩, ⟨En, hVn, fun e he => List.mem_append_left _ he⟩, hAa.mono fun e he => List.mem_append_right _ (List.mem_cons_of_mem _ (List.mem_cons_of_mem _ (List.mem_append_left _ he)))⟩
    exact ⟨_, _, rfl, rfl, hM, h.sub (List.Sublist.append_left (.cons_cons _ (.cons_cons _ (List.Sublist.append_left (List.sublist_append_left _ _) _))) _)⟩
  refine zN <| cF rfl <| cK <| eN <| cS <| cR <| zF rfl fld_122_0 <| zV (v_load1 rfl rfl one_3 (cellAt (v := .int .i64 (fOf xs 18)) rfl)) rfl <| ?_
  refine zT (v_eql rfl rfl rfl) rfl (fun h343 => ?_) (fun h343 => ?_)
  refine zN <| cT rfl <| WC.orders mixed <| rF 7 [0, 1, 4, 5, 8, 9] <| ?_
  have hl21 : 21 ≤ xs.length := (by rw [hlst, if_neg h42, if_neg h227, if_pos h343] at hle2; omega)
  have b0 := hb 0
  have b1 := hb 1
  refine pV (v_move rfl rfl) rfl ?_
  refine pV (v_indexAddr (lo := 19) rfl rfl rfl Tryz.underlying25 sz_5 rfl (by omega)) rfl ?_
  refine pV (v_move rfl rfl) rfl ?_
  refine pV (v_indexAddr (lo := 20) rfl rfl rfl Tryz.underlying25 sz_5 rfl (by omega)) rfl ?_
  refine pV (v_move rfl rfl) rfl ?_
  refine pV ((v_slice_lo (lo := 21) rfl rfl rfl Tryz.underlying25 sz_5 rfl (by omega))) rfl ?_
  refine WP.nil <| rA 1 [2, 3, 6, 7, 10, 11] rfl <| ?_
  refine qV (v_load1 rfl rfl one_5 ((fun w hS => hgc w _ 0 (by omega) hS))) rfl ?_
  refine qV (v_conv rfl rfl Tryz.underlying3 Tryz.underlying5 (w_i64 (by omega) (by omega))) rfl ?_
  refine qV (v_load1 rfl rfl one_5 ((fun w hS => hgc w _ 1 (by omega) hS))) rfl ?_
  refine qV (v_conv rfl rfl Tryz.underlying3 Tryz.underlying5 (w_i64 (by omega) (by omega))) rfl ?_
  refine WQ.call _ rfl rfl ck_91 (.none rfl) rfl rfl (fun w hS => Calls.still (RFault_c w (fOf ys 0) (fOf ys 1) (some ⟨b, sAddr o 21 c 1, none⟩) (xs.length - 21) (c - 21) (fun i => fOf ys (2 + i)) (fun _ => ⟨b, sAddr o 21 c 1, rfl, fun i hi => by
  have := ((hW.st hS).drop 21).get (i := i) (x := fOf ys (2 + i)) (by rw [List.getElem?_drop, show 21 + i = 19 + (2 + i) by omega]; exact hg (2 + i) (by omega))
  rwa [Nat.mul_one] at this⟩)) hS) ?_
  rw [show str (fun i => fOf ys (2 + i)) (xs.length - 21) = strD ys by unfold strD; rw [hdl, show xs.length - 19 - 2 = xs.length - 21 by omega]]
  refine qV (v_fieldAddr0 rfl rfl fld_122_8) rfl <| WQ.nilR <| rO 0 [12] <| ?_
  refine WL.storeN rfl rfl rfl rfl many_120 rfl (by first | exact Nat.le_of_ble_eq_true rfl | simp) (.none rfl) rfl ?_
  refine WL.as (L' := .row g6 (MsL.rcells { MsL.zero (fOf xs 18) with fc := fOf ys 0, fs := fOf ys 1, fd := strD ys }) :: .row g5 (fltL 0 0 ⟨#[]⟩) :: .row g3 (fltL 0 0 ⟨#[]⟩) :: [.row g2 (MsL.zero 0).rcells]) rfl <| zH <| rD <| eN <| cR <| zV (v_loadN rfl rfl many_122 rfl allAt) rfl <| zV (v_build rfl rfl zero_120 plc_120 rfl) rfl <| zW many_122 rfl rfl <| zW many_120 rfl rfl <| zN <| cE <| WE.ret2 (P := Tryz.prog) (.inl rfl) Tryz.results58 (resRow rfl many_122 rfl) (resRow rfl many_120 rfl) <| ?_
  skip
  exact fun w' h => by
    unfold RMsP
    rw [e00, show bodyM (fOf xs 18) ys = .inl (MsL.d { MsL.zero (fOf xs 18) with fc := fOf ys 0, fs := fOf ys 1, fd := strD ys }) by unfold bodyM; rw [if_neg h42, if_neg h227, if_pos h343]; rfl]
    exact ⟨{ MsL.zero (fOf xs 18) with fc := fOf ys 0, fs := fOf ys 1, fd := strD ys }, [], rfl, rfl, ⟨⟨[], Vec.nil 2, fun _ h => by cases h⟩, (fun _ h => by cases h), ⟨[], Vec.nil 2, fun _ h => by cases h⟩, ⟨[], Vec.nil 2, fun _ h => by cases h⟩, AtAll.zero⟩, h.sub (List.nil_sublist _)⟩
  refine zN <| cF rfl <| cK <| eN <| cR <| zV (v_loadN rfl rfl many_122 rfl allAt) rfl <| zV (v_build rfl rfl zero_120 plc_120 rfl) rfl <| zW many_122 rfl rfl <| zW many_120 rfl rfl <| zN <| cE <| WE.ret2 (P := Tryz.prog) (.inl rfl) Tryz.results58 (resRow rfl many_122 rfl) (resRow rfl many_120 rfl) <| ?_
  skip
  exact fun w' h => by
    unfold RMsP
    rw [e00, show bodyM (fOf xs 18) ys = .inl (MsL.d (MsL.zero (fOf xs 18))) by unfold bodyM; rw [if_neg h42, if_neg h227, if_neg h343]]
    exact ⟨MsL.zero (fOf xs 18), [], rfl, rfl, MsAll.zero _, h.sub (List.nil_sublist _)⟩
theorem RDec07_c (w0 : World) (b o c : Nat) (xs : List Int) (hW : Win w0 b o c xs) (hn : xs.length ≤ 90000) :
    Calls Tryz.prog 58 #[.slice (some ⟨b, o, none⟩) xs.length c] w0 fun e w' => RMsP w0 w' xs e := by
  rcases sizeR_cases xs.length (fOf xs) with ⟨C, S, d, e, hC⟩ | ⟨e, h1, h2, h3, h4, h5, h6, h7, h8⟩
  · exact RDecBad_c w0 b o c xs hW hn C S d e hC
  · by_cases hk : lenI (fOf xs) = xs.length
    · rw [hk] at e
      exact RDecOk_c w0 b o c xs hW hn e h1 ⟨h5, h6⟩ (by omega)
    · exact RDecLong_c w0 b o c xs hW hn h1 e hk

theorem takeD_sub {d : AtD} {all v : List Int} {s : Int} {x : ByteArray} (h : takeD d all v = .inr (s, x)) : 0 ≤ s ∧ s ≤ 11 := by
  unfold takeD at h
  split at h
  · cases h; decide
  split at h
  · cases h; decide
  split at h
  · cases h; decide
  split at h
  · cases h; decide
  split at h
  · cases h; decide
  split at h
  · cases h; decide
  split at h
  · cases h; decide
  · cases h
theorem otherD_sub {d : AtD} {all v : List Int} {s : Int} {x : ByteArray} (h : otherD d all v = .inr (s, x)) : 0 ≤ s ∧ s ≤ 11 := by
  unfold otherD at h
  split at h
  · cases h; decide
  split at h <;> cases h
theorem decD_sub : ∀ (n : Nat) (d : AtD) (seen xs : List Int) {s : Int} {x : ByteArray}, xs.length ≤ n → decD d seen xs = .inr (s, x) → 0 ≤ s ∧ s ≤ 11
  | _, d, seen, [], s, x, _, h => by rw [decD_nil] at h; cases h
  | 0, d, seen, y :: xs, s, x, hn, _ => by simp at hn
  | n + 1, d, seen, y :: xs, s, x, hn, h => by
    by_cases hc : (y :: xs).length < fromN (y :: xs) ∨ (y :: xs).length < toN (y :: xs) ∨ fOf (y :: xs) 1 ∈ seen
    · rw [decD_bad (by simp) hc] at h; cases h; decide
    · rw [decD_step (by simp) hc] at h
      have hf := fromN_b (y :: xs)
      have ht := toN_ge (y :: xs)
      cases hs : stepD d ((y :: xs).take (toN (y :: xs))) (((y :: xs).take (toN (y :: xs))).drop (fromN (y :: xs))) with
      | inr f =>
        rw [hs] at h
        cases h
        unfold stepD at hs
        split at hs
        · exact takeD_sub hs
        · exact otherD_sub hs
      | inl d2 =>
        rw [hs] at h
        exact decD_sub n d2 _ _ (by rw [List.length_drop]; omega) h
theorem optsR_sub : ∀ (n : Nat) (acc : List (Int × List Int)) (xs : List Int) {s : Int}, xs.length ≤ n → optsR acc xs = .inr s → s = 0 ∨ s = 4
  | _, acc, [], s, _, h => by rw [optsR] at h; cases h
  | _, acc, [_], s, _, h => by rw [optsR] at h; cases h; exact .inl rfl
  | 0, acc, y :: z :: xs, s, hn, _ => by simp at hn
  | n + 1, acc, y :: z :: xs, s, hn, h => by
    rw [optsR_cons] at h
    split at h
    · cases h; exact .inl rfl
    split at h
    · cases h; exact .inr rfl
    split at h
    · cases h; exact .inl rfl
    · rw [List.length_cons, List.length_cons] at hn
      exact optsR_sub n _ _ (by rw [List.length_drop]; omega) h
theorem sizeR_sub (n : Nat) (f : Nat → Int) : (sizeR n f).2.1 ≠ 0 → (sizeR n f).2.1 = 1 ∧ 0 ≤ (sizeR n f).2.2.1 ∧ (sizeR n f).2.2.1 ≤ 3 := by
  unfold sizeR
  repeat' split
  all_goals (intro h; dsimp only at h ⊢; first | exact absurd rfl h | exact ⟨rfl, by decide, by decide⟩)
theorem decM_sub {xs : List Int} {c s : Int} {d : ByteArray} (h : decM xs = .inr (c, s, d)) : c ≠ 0 ∧ 0 ≤ s ∧ s ≤ mostS c := by
  have m1 : mostS 1 = 3 := rfl
  have m2 : mostS 2 = 6 := rfl
  have m3 : mostS 3 = 11 := rfl
  have m6 : mostS 6 = 1 := rfl
  unfold decM at h
  split at h
  · rename_i hne
    have e : (sizeR xs.length (fOf xs)).2 = (c, s, d) := Sum.inr.inj h
    have hs := sizeR_sub _ _ hne
    rw [e] at hs
    obtain ⟨h1, h2, h3⟩ := hs
    have h1' : c = 1 := h1
    rw [h1', m1]
    exact ⟨by decide, h2, h3⟩
  split at h
  · cases h; exact ⟨by decide, by decide, by rw [m1]; decide⟩
  unfold bodyM at h
  split at h
  · split at h
    · cases h
    · rename_i s' d' ho
      cases h
      unfold openR at ho
      refine ⟨by decide, ?_⟩
      rw [m2]
      split at ho
      · cases ho; decide
      split at ho
      · cases ho; decide
      split at ho
      · cases ho; decide
      split at ho
      · cases ho; decide
      split at ho
      · cases ho; decide
      split at ho
      · cases ho
      · rename_i s2 hs2
        cases ho
        rcases optsR_sub _ _ _ (Nat.le_refl _) hs2 with rfl | rfl <;> decide
  split at h
  · split at h
    · cases h
    · rename_i f hu
      cases h
      unfold updR at hu
      split at hu
      · cases hu; exact ⟨by decide, by decide, by rw [m3]; decide⟩
      split at hu
      · cases hu; exact ⟨by decide, by decide, by rw [m3]; decide⟩
      split at hu
      · cases hu; exact ⟨by decide, by decide, by rw [m3]; decide⟩
      split at hu
      · rename_i s2 d2 hd2
        cases hu
        have := decD_sub _ _ _ _ (Nat.le_refl _) hd2
        exact ⟨by decide, this.1, by rw [m3]; exact this.2⟩
      split at hu
      · cases hu; exact ⟨by decide, by decide, by rw [m3]; decide⟩
      split at hu
      · cases hu; exact ⟨by decide, by decide, by rw [m6]; decide⟩
      split at hu
      · cases hu; exact ⟨by decide, by decide, by rw [m3]; decide⟩
      · cases hu
  split at h <;> cases h

def AtD.m (a : AtD) : AtL := ⟨a.has, a.origin, none, 0, a.path.map fun p => ⟨p.1, none, 0, p.2⟩, a.hop, a.med, a.loc, a.aas, a.aid, none, 0, a.comms, none, 0, a.others.map fun p => ⟨p.1, none, 0, p.2⟩⟩
def MsD.m (d : MsD) : MsL := ⟨d.kind, d.asn, d.hold, d.id, none, 0, d.caps.map fun p => ⟨p.1, none, 0, p.2⟩, none, 0, d.gone, d.atr.m, none, 0, d.nets, d.fc, d.fs, d.fd⟩

theorem Bys.drop {xs : List Int} (h : Bys xs) (n : Nat) : Bys (xs.drop n) := fun x hx => h x (List.mem_of_mem_drop hx)
theorem Bys.take {xs : List Int} (h : Bys xs) (n : Nat) : Bys (xs.take n) := fun x hx => h x (List.mem_of_mem_take hx)


def DecIs (xs : List Int) (C S : Int) (d : ByteArray) (md : MsD) : Prop := match decM xs with
  | .inr f => f = (C, S, d) ∧ md = (MsL.zero 0).d
  | .inl y => C = 0 ∧ S = 0 ∧ d = ⟨#[]⟩ ∧ md = y
theorem DecIs.bad {xs : List Int} {C S : Int} {d : ByteArray} (h : decM xs = .inr (C, S, d)) : DecIs xs C S d (MsL.zero 0).d := by unfold DecIs; rw [h]; exact ⟨rfl, rfl⟩
theorem DecIs.ok {xs : List Int} {md : MsD} (h : decM xs = .inl md) : DecIs xs 0 0 ⟨#[]⟩ md := by unfold DecIs; rw [h]; exact ⟨rfl, rfl, rfl, rfl⟩
theorem decM_nil : decM [] = .inr (1, 2, ⟨#[]⟩) := rfl
theorem RDecNil_c (w0 : World) (ad : Option Addr) (c : Nat) :
    Calls Tryz.prog 58 #[.slice ad 0 c] w0 fun e w' => e = .returned (.tuple #[.agg (MsL.zero 0).rcells.toArray, .agg (fltL 1 2 ⟨#[]⟩).toArray]) ∧ Frm (fun _ => False) w0 w' := by
  refine enter Tryz.func58 rfl Tryz.ntmps58 rfl (St.start (fun _ => False) w0) ?_
  refine cR <| WL.alloc rfl zero_122 (.none rfl) rfl rfl <| ?_
  intro g2 hg2
  refine WL.alloc rfl zero_120 (.none rfl) rfl rfl ?_
  intro g3 hg3
  refine zR <| zM rfl <| zK ck_71 rfl <| ?_
  intro w hS
  refine Calls.then (by rw [show (Ending.returned (.tuple #[.int .i64 0, .agg (fltL 1 2 ⟨#[]⟩).toArray])) = .returned (sizeV (sizeR 0 (fun _ => 0))) from rfl]; exact RSize_c w ad 0 c (fun _ => 0) (fun _ => ⟨Int.le_refl _, show (0 : Int) ≤ 255 by decide⟩) (fun hh => by omega) (by omega) (Nat.zero_le _)) hS ?_
  refine zM rfl <| zX rfl <| zX rfl <| WL.alloc rfl zero_120 (.none rfl) rfl rfl <| ?_
  intro g5 hg5
  refine zA rfl <| zW many_120 rfl rfl <| zN <| cS <| cR <| zF rfl fld_120_0 <| zL rfl one_3 rfl <| ?_
  refine zV ((v_neq rfl rfl rfl).t ((by decide))) rfl ?_
  refine zN <| cT rfl <| cS <| WC.orders mixed <| rF 3 [0] <| pV (v_build rfl rfl zero_122 plc_122 rfl) rfl <| WP.nil <| ?_
  refine WR.each (g := 2) [1, 2] (by kernel_rfl) (by decide) ?_
  refine ⟨?_, ?_⟩
  refine zV (v_loadN rfl rfl many_120 rfl allAt) rfl <| zH <| rO 0 [2, 3] <| zW many_122 rfl rfl <| zW many_120 rfl rfl <| zH <| rD <| eN <| cE <| eR <| WE.ret2 (P := Tryz.prog) (.inl rfl) Tryz.results58 (resRow rfl many_122 rfl) (resRow rfl many_120 rfl) <| ?_
  exact fun w' h => ⟨rfl, h.frm⟩
  refine zW many_122 rfl rfl <| zH <| rA 1 [1] rfl <| qV (v_loadN rfl rfl many_120 rfl allAt) rfl <| WQ.nilR <| rO 0 [3] <| zW many_120 rfl rfl <| zH <| rD <| eN <| cE <| eR <| WE.ret2 (P := Tryz.prog) (.inl rfl) Tryz.results58 (resRow rfl many_122 rfl) (resRow rfl many_120 rfl) <| ?_
  exact fun w' h => ⟨rfl, h.frm⟩
theorem RDecAny_c (w0 : World) (ad : Option Addr) (c : Nat) (xs : List Int) (hC : CellsAt w0 ad (u8s xs)) (hB : Bys xs) (hle : xs.length ≤ c) (hn : xs.length ≤ 90000) :
    Calls Tryz.prog 58 #[.slice ad xs.length c] w0 fun e w' => ∃ C S d m K, e = .returned (.tuple #[.agg m.rcells.toArray, .agg (fltL C S d).toArray]) ∧ MsAll K m ∧ St (fun _ => False) w0 w' K ∧ DecIs xs C S d m.d := by
  by_cases h0 : xs.length = 0
  · obtain rfl : xs = [] := List.length_eq_zero_iff.1 h0
    refine (RDecNil_c w0 ad c).mono ?_
    rintro e w' ⟨rfl, hF⟩
    exact ⟨1, 2, ⟨#[]⟩, MsL.zero 0, [], rfl, MsAll.zero 0, (St.start _ _).ext hF, .bad decM_nil⟩
  · obtain ⟨b, o, rfl, hr⟩ := hC (by rw [u8s_len]; omega)
    refine (RDec07_c w0 b o c xs ⟨hr, hB, hle⟩ hn).mono fun e w' h => ?_
    unfold RMsP at h
    cases hd : decM xs with
    | inr f =>
      obtain ⟨C, S, d⟩ := f
      rw [hd] at h
      exact ⟨C, S, d, MsL.zero 0, [], h.1, MsAll.zero 0, (St.start _ _).ext h.2, .bad hd⟩
    | inl md =>
      rw [hd] at h
      obtain ⟨m, K, he, em, hM, hS⟩ := h
      exact ⟨0, 0, ⟨#[]⟩, m, K, he, hM, hS, by rw [em]; exact .ok hd⟩


theorem szL_ge {xs : List Int} (h : (sizeR xs.length (fOf xs)).2.1 = 0) : 19 ≤ szL xs := by
  rcases sizeR_cases xs.length (fOf xs) with ⟨C, S, d, e, hC⟩ | ⟨e, _, _, h, _⟩
  · rw [e] at h; exact absurd h hC
  · have : szL xs = (lenI (fOf xs)).toNat := by unfold szL; rw [e]
    omega
theorem feedM_both : ∀ (n : Nat) (acc : List MsD) (xs : List Int) (ms : List MsD) (f : Option (Int × Int × ByteArray)) (rest : List Int), xs.length ≤ n → feedM acc xs = (ms, f, rest) → ms.length + rest.length ≤ acc.length + xs.length
  | n, acc, xs, ms, f, rest, hn, h => by
    by_cases h1 : xs.length < 19
    · rw [feedM_few h1] at h; cases h; omega
    · by_cases h2 : (sizeR xs.length (fOf xs)).2.1 = 0
      · by_cases h3 : xs.length < szL xs
        · rw [feedM_wait h1 h2 h3] at h; cases h; omega
        · cases hd : decM (xs.take (szL xs)) with
          | inr f => rw [feedM_flt h1 h2 h3 hd] at h; cases h; show _ + 0 ≤ _; omega
          | inl m =>
            have hz := szL_ge h2
            rw [feedM_on h1 h2 h3 hd] at h
            match n with
            | 0 => omega
            | n + 1 =>
              have := feedM_both n _ _ _ _ _ (by rw [List.length_drop]; omega) h
              rw [List.length_drop, List.length_append, List.length_cons, List.length_nil] at this
              omega
      · rw [feedM_bad h1 rfl h2] at h; cases h; show _ + 0 ≤ _; omega

structure MsD.Fit (m : MsD) : Prop where
  kind : 1 ≤ m.kind ∧ m.kind ≤ 4
  id : U32 m.id
  hold : m.hold = 0 ∨ 3 ≤ m.hold ∧ m.hold ≤ 65535
theorem zero_fit {k : Int} (h : 1 ≤ k ∧ k ≤ 4) : ((MsL.zero k).d).Fit := ⟨h, zero_u, .inl rfl⟩
theorem openR_fit {xs : List Int} {cs : List (Int × List Int)} (hB : Bys xs) (h : openR xs = .inl cs) : U32 (idB xs) ∧ (holdB xs = 0 ∨ 3 ≤ holdB xs ∧ holdB xs ≤ 65535) := by
  have a3 := fOf_b hB 3
  have a4 := fOf_b hB 4
  have hid : 0 ≤ idB xs ∧ idB xs ≤ 4294967295 := addrI_b ((hB.take 9).drop 5)
  have eh : holdB xs = fOf xs 3 * 256 + fOf xs 4 := rfl
  unfold openR at h
  split at h
  · cases h
  split at h
  · cases h
  split at h
  · cases h
  · exact ⟨hid, by omega⟩
theorem decM_fit {xs : List Int} {m : MsD} (hB : Bys xs) (h : decM xs = .inl m) : m.Fit := by
  unfold decM at h
  split at h
  · cases h
  rename_i hz
  split at h
  · cases h
  have hk : 1 ≤ fOf xs 18 ∧ fOf xs 18 ≤ 4 := by
    rcases sizeR_cases xs.length (fOf xs) with ⟨C, S, d, e, hC⟩ | ⟨_, _, _, _, _, h1, h2, _⟩
    · rw [e] at hz; exact absurd hC hz
    · exact ⟨h1, h2⟩
  unfold bodyM at h
  split at h
  · split at h
    · rename_i ho
      cases h
      have := openR_fit (Bys.drop hB 19) ho
      exact ⟨hk, this.1, this.2⟩
    · cases h
  split at h
  · split at h
    · cases h
      exact ⟨hk, zero_u, .inl rfl⟩
    · cases h
  split at h
  · cases h
    exact ⟨hk, zero_u, .inl rfl⟩
  · cases h
    exact zero_fit hk
def FltOk (f : Int × Int × ByteArray) : Prop := (f.1 = 1 ∨ f.1 = 2 ∨ f.1 = 3 ∨ f.1 = 6) ∧ (0 ≤ f.2.1 ∧ f.2.1 ≤ 11) ∧ f.2.2.size ≤ 4075
theorem takeD_data {d : AtD} {all v : List Int} {s : Int} {x : ByteArray} (h : takeD d all v = .inr (s, x)) : x.size ≤ all.length := by
  have e : (strOf all).size = all.length := str_size _ _
  unfold takeD at h
  repeat' split at h
  all_goals first | (cases h; rw [e]; exact Nat.le_refl _) | (cases h; exact Nat.zero_le _) | cases h
theorem otherD_data {d : AtD} {all v : List Int} {s : Int} {x : ByteArray} (h : otherD d all v = .inr (s, x)) : x.size ≤ all.length := by
  have e : (strOf all).size = all.length := str_size _ _
  unfold otherD at h
  repeat' split at h
  all_goals first | (cases h; rw [e]; exact Nat.le_refl _) | cases h
theorem decD_data : ∀ (n : Nat) (d : AtD) (seen xs : List Int) {s : Int} {x : ByteArray}, xs.length ≤ n → decD d seen xs = .inr (s, x) → x.size ≤ xs.length
  | _, d, seen, [], s, x, _, h => by rw [decD_nil] at h; cases h
  | 0, d, seen, y :: xs, s, x, hn, _ => by simp at hn
  | n + 1, d, seen, y :: xs, s, x, hn, h => by
    by_cases hc : (y :: xs).length < fromN (y :: xs) ∨ (y :: xs).length < toN (y :: xs) ∨ fOf (y :: xs) 1 ∈ seen
    · rw [decD_bad (by simp) hc] at h; cases h; exact Nat.zero_le _
    · rw [decD_step (by simp) hc] at h
      have hf := fromN_b (y :: xs)
      have ht := toN_ge (y :: xs)
      cases hs : stepD d ((y :: xs).take (toN (y :: xs))) (((y :: xs).take (toN (y :: xs))).drop (fromN (y :: xs))) with
      | inr f =>
        rw [hs] at h
        cases h
        have hl : ((y :: xs).take (toN (y :: xs))).length ≤ (y :: xs).length := by rw [List.length_take]; omega
        unfold stepD at hs
        split at hs
        · exact Nat.le_trans (takeD_data hs) hl
        · exact Nat.le_trans (otherD_data hs) hl
      | inl d2 =>
        rw [hs] at h
        have := decD_data n d2 _ _ (by rw [List.length_drop]; omega) h
        rw [List.length_drop] at this
        omega
theorem countR_len {xs g r : List Int} (hB : Bys xs) (h : countR xs = some (g, r)) : g.length + r.length + 2 ≤ xs.length := by
  have a0 := fOf_b hB 0
  have a1 := fOf_b hB 1
  unfold countR at h
  split at h
  · cases h
  · cases h
    rw [List.length_take, List.length_drop, List.length_drop]
    omega
theorem sizeR_flt {n : Nat} {f : Nat → Int} (hne : (sizeR n f).2.1 ≠ 0) : FltOk (sizeR n f).2 := by
  have h := sizeR_sub n f hne
  refine ⟨.inl h.1, ⟨h.2.1, by omega⟩, ?_⟩
  have hd : (sizeR n f).2.2.2.size ≤ 2 := by
    unfold sizeR
    repeat' split
    all_goals first | exact Nat.zero_le _ | (show ByteArray.size (str _ _) ≤ 2; rw [str_size]; omega)
  omega
theorem decM_flt {xs : List Int} {f : Int × Int × ByteArray} (hB : Bys xs) (hn : xs.length ≤ 4096) (h : decM xs = .inr f) : FltOk f := by
  have h2s : (str (fun i => fOf xs (16 + i)) 2).size = 2 := str_size _ _
  obtain ⟨c, s, d⟩ := f
  have hsub := decM_sub h
  have m1 : mostS 1 = 3 := rfl
  have m2 : mostS 2 = 6 := rfl
  have m3 : mostS 3 = 11 := rfl
  have m6 : mostS 6 = 1 := rfl
  have key : (c = 1 ∨ c = 2 ∨ c = 3 ∨ c = 6) ∧ d.size ≤ 4075 := by
    unfold decM at h
    split at h
    · rename_i hne
      have e : (sizeR xs.length (fOf xs)).2 = (c, s, d) := Sum.inr.inj h
      have hs := sizeR_flt hne
      rw [e] at hs
      exact ⟨hs.1, hs.2.2⟩
    split at h
    · cases h; exact ⟨.inl rfl, by rw [h2s]; decide⟩
    unfold bodyM at h
    split at h
    · split at h
      · cases h
      · rename_i s' d' ho
        cases h
        refine ⟨.inr (.inl rfl), ?_⟩
        unfold openR at ho
        repeat' split at ho
        all_goals first | (cases ho; exact (by decide : (4 : Nat) ≤ 4075) |> fun _ => (by first | exact Nat.zero_le _ | decide)) | cases ho
    split at h
    · split at h
      · cases h
      · rename_i f hu
        cases h
        unfold updR at hu
        split at hu
        · cases hu; exact ⟨.inr (.inr (.inl rfl)), Nat.zero_le _⟩
        rename_i g r hc1
        have l1 := countR_len (Bys.drop hB 19) hc1
        have hBr : Bys r := by
          unfold countR at hc1
          split at hc1
          · cases hc1
          · cases hc1; exact (hB.drop 19).drop _
        split at hu
        · cases hu; exact ⟨.inr (.inr (.inl rfl)), Nat.zero_le _⟩
        rename_i sx nx hc2
        have l2 := countR_len hBr hc2
        rw [List.length_drop] at l1
        split at hu
        · cases hu; exact ⟨.inr (.inr (.inl rfl)), Nat.zero_le _⟩
        split at hu
        · rename_i s2 d2 hd2
          cases hu
          have := decD_data _ _ _ _ (Nat.le_refl _) hd2
          exact ⟨.inr (.inr (.inl rfl)), by omega⟩
        split at hu
        · cases hu; exact ⟨.inr (.inr (.inl rfl)), Nat.zero_le _⟩
        split at hu
        · cases hu; exact ⟨.inr (.inr (.inr rfl)), Nat.zero_le _⟩
        split at hu
        · cases hu
          exact ⟨.inr (.inr (.inl rfl)), by unfold oneS; rw [str_size]; decide⟩
        · cases hu
    split at h <;> cases h
  refine ⟨key.1, ⟨hsub.2.1, ?_⟩, key.2⟩
  rcases key.1 with e | e | e | e
  all_goals (have h3 := hsub.2.2; rw [e] at h3; show s ≤ 11; omega)
theorem feedM_fit : ∀ (n : Nat) (acc : List MsD) (xs : List Int), xs.length ≤ n → Bys xs → (∀ m ∈ acc, m.Fit) → (∀ m ∈ (feedM acc xs).1, m.Fit) ∧ (∀ f, (feedM acc xs).2.1 = some f → FltOk f) ∧ Bys (feedM acc xs).2.2 := by
  intro n
  induction n with
  | zero =>
    intro acc xs h hB ha
    rw [feedM_few (by omega)]
    exact ⟨ha, fun f e => (by cases e), hB⟩
  | succ n ih =>
    intro acc xs h hB ha
    by_cases h19 : xs.length < 19
    · rw [feedM_few h19]
      exact ⟨ha, fun f e => (by cases e), hB⟩
    by_cases hz : (sizeR xs.length (fOf xs)).2.1 = 0
    · by_cases hw : xs.length < szL xs
      · rw [feedM_wait h19 hz hw]
        exact ⟨ha, fun f e => (by cases e), hB⟩
      · have hs : szL xs ≤ 4096 ∧ 0 < szL xs := by
          rcases sizeR_cases xs.length (fOf xs) with ⟨C, S, d, e, hC⟩ | ⟨e, _, _, h1, h2, _⟩
          · rw [e] at hz; exact absurd hz hC
          · unfold szL; rw [e]; dsimp only; omega
        have hB1 : Bys (xs.take (szL xs)) := Bys.take hB _
        cases hd : decM (xs.take (szL xs)) with
        | inr f =>
          rw [feedM_flt h19 hz hw hd]
          exact ⟨ha, fun g e => (by cases e; exact decM_flt hB1 (by rw [List.length_take]; omega) hd), Bys.nil⟩
        | inl m =>
          rw [feedM_on h19 hz hw hd]
          refine ih _ _ (by rw [List.length_drop]; omega) (Bys.drop hB _) fun x hx => ?_
          rcases List.mem_append.1 hx with hx | hx
          · exact ha x hx
          · obtain rfl := List.mem_singleton.1 hx
            exact decM_fit hB1 hd
    · rw [feedM_bad h19 rfl hz]
      refine ⟨ha, fun f e => ?_, Bys.nil⟩
      cases e
      exact sizeR_flt hz
end Go.Proofs.YtcmpamnhegndnaaGreatDoor
