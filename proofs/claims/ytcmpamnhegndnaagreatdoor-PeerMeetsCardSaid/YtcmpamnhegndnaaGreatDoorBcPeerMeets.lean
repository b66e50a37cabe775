/- Texts joined: engine, contracts and laws, in the order in which they build. -/
import Derived.ProofKit
import Derived.Shelf.SlSortCmp.WholeK
import Derived.Shelf.SlSortCmp.NoneTotal
import Derived.Shelf.SlLaysF0
import Derived.Test.YtcmpamnhegndnaaGreatDoorBbPeerMeets
namespace Go.Proofs.YtcmpamnhegndnaaGreatDoor
open Go.RowKit

def badN (m : MsL) : Bool := !(m.gone.all pfOk) || !(m.nets.all pfOk) || decide (0 < m.nets.length ∧ missI m.atr.has ≠ 0)
def updC (m : MsL) : Int := if 200 < m.gone.length ∨ 200 < m.nets.length then 3 else if badN m then 1 else encE m.atr
def updB (m : MsL) : List Int := numB (netsE m.gone).length 2 ++ netsE m.gone ++ numB (bodyA m.atr).length 2 ++ bodyA m.atr ++ netsE m.nets
theorem netsE_len {ps : List PfL} (h : ps.all pfOk = true) : (netsE ps).length ≤ 5 * ps.length := by
  induction ps with
  | nil => exact Nat.zero_le _
  | cons p ps ih =>
    rw [List.all_cons, Bool.and_eq_true] at h
    have h1 := ih h.2
    have h2 := netE_len h.1
    unfold netsE at h1 ⊢
    rw [List.flatMap_cons, List.length_append, List.length_cons]
    omega
theorem encE_len {a : AtL} (h : encE a = 0) : (bodyA a).length ≤ 4096 := by
  unfold encE at h
  by_cases hc : chkA a = true
  · rw [if_pos hc] at h
    by_cases hb : 4096 < (bodyA a).length
    · rw [decide_eq_true hb, Bool.or_true] at h; exact absurd h (by decide)
    · omega
  · rw [if_neg hc] at h; exact absurd h (by decide)
set_option maxHeartbeats 4000000 in
theorem update_g (w0 : World) (m : MsL) (hM : m.At w0) (hI : m.In) (hG : GF w0) (hP : m.atr.path.length ≤ 1100) (hO : m.atr.others.length ≤ 300) : Calls Tryz.prog 45 #[.agg m.cells.toArray] w0 fun e w' => ResB w0 w' (updC m) (updB m) e := by
  refine enter Tryz.func45 rfl Tryz.ntmps45 rfl (St.start (fun _ => False) w0) ?_
  refine cR <| WL.box rfl rfl rfl (.none rfl) rfl rfl <| ?_
  intro g1 hg1
  refine zA rfl <| zA rfl <| zN <| cS <| cR <| zF rfl fld_39_5 <| zL rfl one_30 rfl <| zV (v_len_slice rfl rfl Tryz.underlying30) rfl <| ?_
  refine zT (v_gtr rfl rfl rfl) rfl (fun h11 => ?_) (fun h11 => ?_)
  refine zM rfl ?_
  iterate 4 refine WL.sk rfl ?_
  refine zP rfl <| zN <| cT rfl <| cR <| zA rfl <| zA rfl <| zN <| cE <| eR <| WE.ret2 (P := Tryz.prog) (.inl rfl) Tryz.results45 rfl rfl <| ?_
  have hc : updC m = 3 := (by unfold updC; rw [if_pos (by omega)])
  exact fun w' h => ResB.bad hc (by decide) h
  refine zM rfl <| zS (v_fieldAddr0 rfl rfl fld_39_7) rfl <| zS (v_load1 rfl rfl one_30 (cellAt rfl)) rfl <| zS (v_len_slice rfl rfl Tryz.underlying30) rfl <| ?_
  refine WL.test (v_gtr rfl rfl rfl) (.some rfl rfl rfl) rfl rfl (fun h16 => ?_) (fun h16 => ?_)
  refine zQ rfl <| zN <| cT rfl <| cR <| zA rfl <| zA rfl <| zN <| cE <| eR <| WE.ret2 (P := Tryz.prog) (.inl rfl) Tryz.results45 rfl rfl <| ?_
  have hc : updC m = 3 := (by unfold updC; rw [if_pos (by omega)])
  exact fun w' h => ResB.bad hc (by decide) h
  refine zQ rfl <| zN <| cF rfl <| cK <| eN <| ?_
  refine WC.cut (fun _ : Unit => [(1, .pointer (some ⟨g1, 0, none⟩))]) (fun _ => [.row g1 m.cells]) (fun _ => m.gone.all pfOk = true ∧ m.nets.all pfOk = true ∧ badN m = false) ?_ ?_
  refine cR <| zF rfl fld_39_5 <| zL rfl one_30 rfl <| zK ck_75 rfl <| ?_
  intro w hS
  refine Calls.then (formed_c w m.gad m.gc m.gone (hM.st hS).gone hI.lens.2.1 hI.gone) hS ?_
  generalize hg : m.gone.all pfOk = bg
  cases bg
  refine zV (v_not rfl rfl rfl) rfl <| zM rfl <| ?_
  iterate 4 refine WL.sk rfl ?_
  refine zP rfl <| zM rfl <| ?_
  iterate 10 refine WL.sk rfl ?_
  refine zP rfl <| zN <| cT rfl <| cR <| zA rfl <| zA rfl <| zN <| cE <| eR <| WE.ret2 (P := Tryz.prog) (.inl rfl) Tryz.results45 rfl rfl <| ?_
  have hc : updC m = 1 := (by
    have : badN m = true := by unfold badN; rw [hg]; rfl
    unfold updC; rw [if_neg (by omega), this]; rfl)
  exact fun w' h => ResB.bad hc (by decide) h
  refine zV (v_not rfl rfl rfl) rfl <| zM rfl <| zS (v_fieldAddr0 rfl rfl fld_39_7) rfl <| zS (v_load1 rfl rfl one_30 (cellAt rfl)) rfl <| WL.call rfl rfl ck_75 (.some rfl rfl rfl) rfl rfl <| ?_
  intro w hS
  refine Calls.then (formed_c w m.nad m.nc m.nets (hM.st hS).nets hI.lens.2.2.1 hI.nets) hS ?_
  generalize hn : m.nets.all pfOk = bn
  cases bn
  refine zS (v_not rfl rfl rfl) rfl <| zQ rfl <| zM rfl <| ?_
  iterate 10 refine WL.sk rfl ?_
  refine zP rfl <| zN <| cT rfl <| cR <| zA rfl <| zA rfl <| zN <| cE <| eR <| WE.ret2 (P := Tryz.prog) (.inl rfl) Tryz.results45 rfl rfl <| ?_
  have hc : updC m = 1 := (by
    have : badN m = true := by unfold badN; rw [hg, hn]; rfl
    unfold updC; rw [if_neg (by omega), this]; rfl)
  exact fun w' h => ResB.bad hc (by decide) h
  refine zS (v_not rfl rfl rfl) rfl <| zQ rfl <| zM rfl <| zS (v_fieldAddr0 rfl rfl fld_39_7) rfl <| zS (v_load1 rfl rfl one_30 (cellAt rfl)) rfl <| zS (v_len_slice rfl rfl Tryz.underlying30) rfl <| ?_
  refine WL.test (v_gtr rfl rfl rfl) (.some rfl rfl rfl) rfl rfl (fun h32 => ?_) (fun h32 => ?_)
  refine zS (v_move rfl rfl) rfl <| zS (v_fieldAddr0 rfl rfl fld_39_6) rfl <| zS (v_loadN rfl rfl many_35 rfl (segAt (m := 10) rfl)) rfl <| WL.call rfl rfl ck_76 (.some rfl rfl rfl) rfl rfl <| ?_
  intro w hS
  refine Calls.then (Missing_c w m.atr) hS ?_
  refine WL.test (v_neq rfl rfl rfl) (.some rfl rfl rfl) rfl rfl (fun h37 => ?_) (fun h37 => ?_)
  refine zS (v_pick_t rfl rfl rfl) rfl <| zQ rfl <| zN <| cT rfl <| cR <| zA rfl <| zA rfl <| zN <| cE <| eR <| WE.ret2 (P := Tryz.prog) (.inl rfl) Tryz.results45 rfl rfl <| ?_
  have hc : updC m = 1 := (by
    have : badN m = true := by unfold badN; rw [decide_eq_true ⟨by omega, h37⟩, Bool.or_true]
    unfold updC; rw [if_neg (by omega), this]; rfl)
  exact fun w' h => ResB.bad hc (by decide) h
  refine zS (v_pick_t rfl rfl rfl) rfl <| zQ rfl <| zN <| cF rfl <| cK <| ?_
  exact WE.mid () ⟨rfl, rfl, by unfold badN; rw [hg, hn, decide_eq_false (by omega)]; rfl⟩ (.cons rfl .nil) (.refl _)
  refine zS (v_move rfl rfl) rfl ?_
  iterate 4 refine WL.sk rfl ?_
  refine zS (v_pick_f rfl rfl rfl) rfl <| zQ rfl <| zN <| cF rfl <| cK <| ?_
  exact WE.mid () ⟨rfl, rfl, by unfold badN; rw [hg, hn, decide_eq_false (by omega)]; rfl⟩ (.cons rfl .nil) (.refl _)
  rintro _ ⟨hg, hn, hb⟩
  have hgl := netsE_len hg
  have hnl := netsE_len hn
  refine cR <| zF rfl fld_39_6 <| zV (v_loadN rfl rfl many_35 rfl (segAt (m := 10) rfl)) rfl <| zK ck_77 rfl <| ?_
  intro w1 hS
  refine (AEnc_g w1 m.atr (hM.st hS).at_ hI.at_ (hG.keep (fun h => h) hS) hP hO).mono ?_
  rintro e w' ⟨_, rfl, ad43, c43, E43, rfl, hV43, hS'⟩
  refine ⟨_, _, rfl, hS.join hS', ?_⟩
  refine zM rfl <| zX rfl <| zX rfl <| zA rfl <| zA rfl <| zN <| cS <| cR <| zM rfl <| ?_
  refine zT (v_neq rfl rfl rfl) rfl (fun h47 => ?_) (fun h47 => ?_)
  refine zN <| cT rfl <| cR <| zM rfl <| zA rfl <| zA rfl <| zN <| cE <| eR <| WE.ret2 (P := Tryz.prog) (.inl rfl) Tryz.results45 rfl rfl <| ?_
  have hc : updC m = encE m.atr := (by unfold updC; rw [if_neg (by omega), hb]; rfl)
  exact fun w' h => ResB.bad hc h47 h
  refine zN <| cF rfl <| cK <| eN <| cR <| zF rfl fld_39_5 <| ?_
  have he : encE m.atr = 0 := (by omega)
  have hal := encE_len he
  have ho : outA m.atr = bodyA m.atr := (by unfold outA; rw [if_pos he])
  rw [ho] at hV43 ⊢
  refine zL rfl one_30 rfl <| zK ck_78 rfl <| ?_
  intro w1 hS
  refine (putNets_c w0 w1 (E43 ++ [.row g1 m.cells]) [] none 0 [] m.gone m.gad m.gc (Vec.nil 1) hM.gone hS (by rw [List.length_nil]; omega) hg).mono ?_
  rintro e w' ⟨ad51, c51, E51, rfl, hV51, hS'⟩
  refine ⟨_, _, rfl, hS', ?_⟩
  rw [List.nil_append] at hV51 ⊢
  refine zA rfl <| zR <| zM rfl <| zV (v_len_slice rfl rfl Tryz.underlying25) rfl <| zK ck_48 rfl <| ?_
  intro w1 hS
  refine (put2_b (fun _ => False) w0 w1 (E51 ++ (E43 ++ [.row g1 m.cells])) [] none 0 [] (netsE m.gone).length (Vec.nil 1) hS (by decide) (by omega) (by omega)).mono ?_
  rintro e w' ⟨ad54, c54, E54, rfl, hV54, hS'⟩
  refine ⟨_, _, rfl, hS', ?_⟩
  rw [List.nil_append] at hV54 ⊢
  have hl2 := numB_len ((netsE m.gone).length : Int) 2
  have hl3 := numB_len ((bodyA m.atr).length : Int) 2
  refine zM rfl ?_
  refine WL.appendL rfl rfl rfl Tryz.underlying25 Tryz.underlying25 sz_5 by_5 zero_5 rfl rfl hV54 (new := u8s (netsE m.gone)) (fun h => by obtain ⟨b', o', e, hr'⟩ := hV51.src (L := E54 ++ (E51 ++ (E43 ++ [.row g1 m.cells]))) (fun e he => List.mem_append_right _ (List.mem_append_left _ he)) (by rw [u8s_len]; exact h); exact ⟨b', o', e, fun w hS => hr' _ _ w hS⟩) (by rw [u8s_len]; omega) (u8s_one _) (by omega) (.none rfl) rfl rfl ?_
  intro ad56 c56 E56 hV56 hr56
  rw [← u8s_app] at hV56
  have hk56 := hV56.toB
  rw [hk56] at hV56 ⊢
  refine zA rfl <| zR <| zM rfl <| zM rfl <| zV (v_len_slice rfl rfl Tryz.underlying25) rfl <| zK ck_48 rfl <| ?_
  intro w1 hS
  refine (put2_b (fun _ => False) w0 w1 _ _ _ _ _ (bodyA m.atr).length hV56 hS (by rw [List.length_append]; omega) (by omega) (by omega)).mono ?_
  rintro e w' ⟨ad60, c60, E60, rfl, hV60, hS'⟩
  refine ⟨_, _, rfl, hS', ?_⟩
  refine zM rfl ?_
  refine WL.appendL rfl rfl rfl Tryz.underlying25 Tryz.underlying25 sz_5 by_5 zero_5 rfl rfl hV60 (new := u8s (bodyA m.atr)) (fun h => by obtain ⟨b', o', e, hr'⟩ := hV43.src (L := E60 ++ (E51 ++ (E43 ++ [.row g1 m.cells]))) (fun e he => List.mem_append_right _ (List.mem_append_right _ (List.mem_append_left _ he))) (by rw [u8s_len]; exact h); exact ⟨b', o', e, fun w hS => hr' _ _ w hS⟩) (by rw [u8s_len]; omega) (u8s_one _) (by rw [List.length_append, List.length_append]; omega) (.none rfl) rfl rfl ?_
  intro ad62 c62 E62 hV62 hr62
  rw [← u8s_app] at hV62
  have hk62 := hV62.toB
  rw [hk62] at hV62 ⊢
  refine zA rfl <| zR <| zM rfl <| zF rfl fld_39_7 <| zL rfl one_30 rfl <| zK ck_78 rfl <| ?_
  intro w1 hS
  refine (putNets_c w0 w1 _ _ _ _ _ m.nets m.nad m.nc hV62 hM.nets hS (by rw [List.length_append, List.length_append, List.length_append]; omega) hn).mono ?_
  rintro e w' ⟨ad66, c66, E66, rfl, hV66, hS'⟩
  refine ⟨_, _, rfl, hS', ?_⟩
  refine zA rfl <| zA rfl <| zN <| cE <| WE.ret2 (P := Tryz.prog) (.inl rfl) Tryz.results45 rfl rfl <| ?_
  have hc : updC m = 0 := (by unfold updC; rw [if_neg (by omega), hb]; exact he)
  exact fun w' h => ResB.good hc hV66 h rfl
def bodC (m : MsL) : Int := if m.kind = 1 then openC m else if m.kind = 2 then updC m else if m.kind = 3 then noteC m else if m.kind = 4 then 0 else 12
def bodB (m : MsL) : List Int := if m.kind = 1 then openB m else if m.kind = 2 then updB m else if m.kind = 3 then noteB m else []
def msgC (m : MsL) : Int := if bodC m = 0 then if 4096 < 19 + (bodB m).length then 6 else 0 else bodC m
def msgB (m : MsL) : List Int := List.replicate 16 255 ++ numB (19 + (bodB m).length : Nat) 2 ++ [m.kind] ++ bodB m
theorem strI_len (d : ByteArray) : (strI d).length = d.size := by unfold strI; rw [List.length_map]; rfl
theorem bodB_len {m : MsL} (h : bodC m = 0) : (bodB m).length ≤ 10000 := by
  unfold bodC at h
  unfold bodB
  split at h
  · rename_i hk
    rw [if_pos hk]
    unfold openC at h
    split at h
    · exact absurd h (by decide)
    split at h
    · split at h
      · exact absurd h (by decide)
      unfold openB
      simp only [List.length_append, numB_len, addrB_len _ (show 4 ≤ 4 by decide), List.length_cons, List.length_nil]
      split <;> simp only [List.length_append, List.length_cons, List.length_nil] <;> omega
    · exact absurd h (by decide)
  rename_i hk
  rw [if_neg hk]
  split at h
  · rename_i hk
    rw [if_pos hk]
    unfold updC at h
    split at h
    · exact absurd h (by decide)
    split at h
    · exact absurd h (by decide)
    rename_i hl hb
    have h1 := encE_len h
    have hb' : badN m = false := by simpa using hb
    unfold badN at hb'
    rw [Bool.or_eq_false_iff, Bool.or_eq_false_iff, Bool.not_eq_false', Bool.not_eq_false'] at hb'
    have h2 := netsE_len hb'.1.1
    have h3 := netsE_len hb'.1.2
    unfold updB
    simp only [List.length_append, numB_len]
    omega
  rename_i hk
  rw [if_neg hk]
  split at h
  · rename_i hk
    rw [if_pos hk]
    unfold noteC at h
    split at h
    · exact absurd h (by decide)
    split at h
    · exact absurd h (by decide)
    unfold noteB
    rw [List.length_append, strI_len]
    show 2 + _ ≤ _
    omega
  rename_i hk
  rw [if_neg hk]
  exact Nat.zero_le _
theorem rep_u8s (k : Nat) : bcs (fun _ => 255) k = u8s (List.replicate k 255) := by
  apply List.ext_getElem?
  intro i
  unfold u8s
  by_cases hi : i < k
  · rw [bcs_get _ _ _ hi, List.getElem?_map, List.getElem?_replicate, if_pos hi]; rfl
  · rw [List.getElem?_eq_none (by rw [bcs_len]; omega), List.getElem?_map, List.getElem?_replicate, if_neg hi]; rfl
set_option maxHeartbeats 4000000 in
theorem Enc_g (w0 : World) (m : MsL) (hM : m.At w0) (hI : m.In) (hG : GF w0) (hP : m.atr.path.length ≤ 1100) (hO : m.atr.others.length ≤ 300) : Calls Tryz.prog 10 #[.agg m.cells.toArray] w0 fun e w' => ResB w0 w' (msgC m) (msgB m) e := by
  refine enter Tryz.func10 rfl Tryz.ntmps10 rfl (St.start (fun _ => False) w0) ?_
  refine cR <| WL.box rfl rfl rfl (.none rfl) rfl rfl <| ?_
  intro g1 hg1
  refine zA rfl <| zA rfl <| zR <| zA rfl <| zR <| zA rfl <| zN <| ?_
  refine WC.cut (fun x : List Int × Option Addr × Nat × List Ent => [(4, .slice x.2.1 x.1.length x.2.2.1), (5, .int .i64 (bodC m)), (1, .pointer (some ⟨g1, 0, none⟩))]) (fun x => x.2.2.2 ++ [.row g1 m.cells]) (fun x => x.1 = (if bodC m = 0 then bodB m else []) ∧ BV x.2.1 x.2.2.1 x.1 x.2.2.2) ?_ ?_
  refine cR <| zF rfl fld_39_0 <| zL rfl one_3 rfl <| zN <| cB <| cR <| ?_
  refine zT (v_eql rfl rfl rfl) rfl (fun h10 => ?_) (fun h10 => ?_)
  refine zA rfl <| zN <| cT rfl <| WC.region <| zV (v_loadN rfl rfl many_39 rfl allAt) rfl <| zK ck_44 rfl <| ?_
  intro w1 hS
  have hc : bodC m = openC m := (by unfold bodC; rw [if_pos h10])
  have hd : bodB m = openB m := (by unfold bodB; rw [if_pos h10])
  have hq : (if openC m = 0 then openB m else []) = (if bodC m = 0 then bodB m else []) := (by rw [hc, hd])
  refine (open_c w1 m (hM.st hS) hI).mono ?_
  rintro e w' ⟨_, rfl, ad, c, E, rfl, hV, hS'⟩
  refine ⟨_, _, rfl, hS.join hS', ?_⟩
  refine zM rfl <| zX rfl <| zX rfl <| zA rfl <| zA rfl <| WL.nil <| eY <| ?_
  exact WE.mid (_, ad, c, E) ⟨hq, hV⟩ (.cons rfl (.eq rfl (by rw [hc]) (.cons rfl .nil))) (.refl _)
  refine zA rfl <| zN <| cF rfl <| cR <| ?_
  refine zT (v_eql rfl rfl rfl) rfl (fun h17 => ?_) (fun h17 => ?_)
  refine zA rfl <| zN <| cT rfl <| WC.region <| zV (v_loadN rfl rfl many_39 rfl allAt) rfl <| zK ck_45 rfl <| ?_
  intro w1 hS
  have hc : bodC m = updC m := (by unfold bodC; rw [if_neg h10, if_pos h17])
  have hd : bodB m = updB m := (by unfold bodB; rw [if_neg h10, if_pos h17])
  have hq : (if updC m = 0 then updB m else []) = (if bodC m = 0 then bodB m else []) := (by rw [hc, hd])
  refine (update_g w1 m (hM.st hS) hI (hG.keep (fun h => h) hS) hP hO).mono ?_
  rintro e w' ⟨_, rfl, ad, c, E, rfl, hV, hS'⟩
  refine ⟨_, _, rfl, hS.join hS', ?_⟩
  refine zM rfl <| zX rfl <| zX rfl <| zA rfl <| zA rfl <| WL.nil <| eY <| ?_
  exact WE.mid (_, ad, c, E) ⟨hq, hV⟩ (.cons rfl (.eq rfl (by rw [hc]) (.cons rfl .nil))) (.refl _)
  refine zA rfl <| zN <| cF rfl <| cR <| ?_
  refine zT (v_eql rfl rfl rfl) rfl (fun h24 => ?_) (fun h24 => ?_)
  refine zA rfl <| zN <| cT rfl <| WC.region <| zV (v_loadN rfl rfl many_39 rfl allAt) rfl <| zK ck_46 rfl <| ?_
  intro w1 hS
  have hc : bodC m = noteC m := (by unfold bodC; rw [if_neg h10, if_neg h17, if_pos h24])
  have hd : bodB m = noteB m := (by unfold bodB; rw [if_neg h10, if_neg h17, if_pos h24])
  have hq : (if noteC m = 0 then noteB m else []) = (if bodC m = 0 then bodB m else []) := (by rw [hc, hd])
  refine (note_c w1 m).mono ?_
  rintro e w' ⟨_, rfl, ad, c, E, rfl, hV, hS'⟩
  refine ⟨_, _, rfl, hS.join hS', ?_⟩
  refine zM rfl <| zX rfl <| zX rfl <| zA rfl <| zA rfl <| WL.nil <| eY <| ?_
  exact WE.mid (_, ad, c, E) ⟨hq, hV⟩ (.cons rfl (.eq rfl (by rw [hc]) (.cons rfl .nil))) (.refl _)
  refine zA rfl <| zN <| cF rfl <| cR <| ?_
  refine zT (v_eql rfl rfl rfl) rfl (fun h31 => ?_) (fun h31 => ?_)
  refine zA rfl <| zN <| cT rfl <| cK <| eY <| ?_
  have hc : bodC m = 0 := (by unfold bodC; rw [if_neg h10, if_neg h17, if_neg h24, if_pos h31])
  exact WE.mid ([], none, 0, []) ⟨by dsimp only; rw [hc, if_pos rfl]; unfold bodB; rw [if_neg h10, if_neg h17, if_neg h24], Vec.nil 1⟩ (.cons rfl (.eq rfl (by rw [hc]) (.cons rfl .nil))) (.refl _)
  refine zA rfl <| zN <| cF rfl <| WC.region <| zA rfl <| WL.nil <| eY <| ?_
  have hc : bodC m = 12 := (by unfold bodC; rw [if_neg h10, if_neg h17, if_neg h24, if_neg h31])
  exact WE.mid ([], none, 0, []) ⟨by dsimp only; rw [hc]; rfl, Vec.nil 1⟩ (.cons rfl (.eq rfl (by rw [hc]) (.cons rfl .nil))) (.refl _)
  rintro ⟨xs, ad, c, E⟩ ⟨hx, hV⟩
  dsimp only at hx hV
  dsimp only
  have hlen : xs.length ≤ 4000000000000000000 := (by rw [hx]; split <;> first | exact Nat.le_trans (bodB_len (by assumption)) (by decide) | exact Nat.zero_le _)
  refine cS <| cR <| zM rfl <| ?_
  refine zT (v_eql rfl rfl rfl) rfl (fun h33 => ?_) (fun h33 => ?_)
  refine zM rfl <| zS (v_move rfl rfl) rfl <| zS (v_len_slice rfl rfl Tryz.underlying25) rfl <| ?_
  refine zS (v_add rfl rfl rfl (w_i64 (by omega) (by omega))) rfl ?_
  refine WL.test (v_gtr rfl rfl rfl) (.some rfl rfl rfl) rfl rfl (fun h38 => ?_) (fun h38 => ?_)
  refine zP rfl <| zN <| cT rfl <| WC.region <| zA rfl <| zN <| cS <| cR <| zM rfl <| ?_
  refine zV ((v_neq rfl rfl rfl).t ((by decide))) rfl ?_
  refine zN <| cT rfl <| cR <| zM rfl <| zA rfl <| zA rfl <| zN <| cE <| eR <| WE.ret2 (P := Tryz.prog) (.inl rfl) Tryz.results10 rfl rfl <| ?_
  have hc : msgC m = 6 := (by
    rw [if_pos h33] at hx
    unfold msgC; rw [if_pos h33, if_pos (by rw [← hx]; omega)])
  exact fun w' h => ResB.bad hc (by decide) h
  refine zP rfl <| zN <| cF rfl <| cK <| eN <| cS <| cR <| zM rfl <| ?_
  refine zV ((v_neq rfl rfl rfl).f ((by omega))) rfl ?_
  refine zN <| cF rfl <| cK <| eN <| cR <| ?_
  rw [if_pos h33] at hx
  have hc : msgC m = 0 := (by unfold msgC; rw [if_pos h33, if_neg (by rw [← hx]; omega)])
  have hk4 : 1 ≤ m.kind ∧ m.kind ≤ 4 := (by
    unfold bodC at h33
    by_cases h1 : m.kind = 1
    · omega
    by_cases h2 : m.kind = 2
    · omega
    by_cases h3 : m.kind = 3
    · omega
    by_cases h4 : m.kind = 4
    · omega
    · rw [if_neg h1, if_neg h2, if_neg h3, if_neg h4] at h33; exact absurd h33 (by decide))
  refine zB Tryz.underlying25 sz_5 zero_5 rfl rfl ?_
  intro g43 hg43
  refine WL.as (L' := .row g43 [.int .u8 255] :: (E ++ [.row g1 m.cells])) rfl <| zK ck_47 rfl <| ?_
  intro w1 hS
  refine (Repeat_c w1 g43 1 (hS.cell (g := g43) rfl)).mono ?_
  rintro e w' ⟨gb, cs, rfl, ha, hl, hS'⟩
  refine ⟨_, _, rfl, hS.join hS', ?_⟩
  have hbs : ∀ (L' : List Ent), Ent.row gb cs ∈ L' → ∀ w, St (fun _ => False) w0 w L' → w.rangeAt gb 0 (bcs (fun _ => 255) 16) := (fun L' hm w hS j v hj => by
    have hR : Row w gb cs := hS.holds _ hm
    rw [← ha.take hl, List.getElem?_take] at hj
    split at hj
    · rw [Nat.zero_add]; exact hR.cell hj
    · cases hj)
  refine WL.as (L' := .row gb cs :: .row g43 [.int .u8 255] :: (E ++ [.row g1 m.cells])) rfl ?_
  obtain ⟨nn, hnn⟩ : ∃ nn : Int, nn = ((19 + xs.length : Nat) : Int) := ⟨_, rfl⟩
  refine zA rfl <| zN <| cS <| WC.orders mixed <| rF 6 [0, 1, 2, 3, 5] <| pV (v_move rfl rfl) rfl <| pV (v_move rfl rfl) rfl <| pV (v_len_slice rfl rfl Tryz.underlying25) rfl <| ?_
  refine pV (v_add rfl rfl rfl (show _ = nn from (w_i64 (by omega) (by omega)).trans (by omega))) rfl ?_
  refine pV (v_fieldAddr0 rfl rfl fld_39_0) rfl <| WP.nil <| ?_
  refine WR.each (g := 5) [4, 6] (by kernel_rfl) (by decide) ?_
  refine ⟨?_, ?_⟩
  refine zK ck_48 rfl ?_
  intro w1 hS
  refine (put2_n (fun _ => False) w0 w1 _ gb 0 16 (bcs (fun _ => 255) 16) nn (fun w hS => hbs _ (by first | exact List.mem_cons_self .. | exact List.mem_cons_of_mem _ (List.mem_cons_self ..)) w hS) (bcs_len _ _) hS (by omega) (by omega) (by omega)).mono ?_
  rintro e w' ⟨ad49, c49, E49, rfl, hV49, hS'⟩
  rw [n2_eq, rep_u8s, ← u8s_app] at hV49
  refine ⟨_, _, rfl, hS', ?_⟩
  refine zH <| rA 3 [6, 7] rfl <| qV (v_load1 rfl rfl one_3 (cellAt rfl)) rfl <| ?_
  refine qV (v_conv rfl rfl Tryz.underlying5 Tryz.underlying3 (show _ = (m.kind) from (w_u8m _).trans (by omega))) rfl ?_
  refine WQ.nilR <| rO 1 [8, 9] <| zB Tryz.underlying25 sz_5 zero_5 rfl rfl <| ?_
  intro g53 hg53
  first | (refine WL.as (L' := .row g53 (u8s [m.kind]) :: (E49 ++ (.row gb cs :: .row g43 [.int .u8 255] :: (E ++ [.row g1 m.cells])))) rfl ?_; refine WL.to (L' := E49 ++ (.row g53 (u8s [m.kind]) :: .row gb cs :: .row g43 [.int .u8 255] :: (E ++ [.row g1 m.cells]))) (fun w hS => hS.front [_]) ?_) | refine WL.as (L' := .row g53 (u8s [m.kind]) :: .row gb cs :: .row g43 [.int .u8 255] :: (E ++ [.row g1 m.cells])) rfl ?_
  refine WL.appendL rfl rfl rfl Tryz.underlying25 Tryz.underlying25 sz_5 by_5 zero_5 rfl rfl hV49 (new := u8s [m.kind]) (fun _ => ⟨g53, 0, rfl, fun w hS => allAt (g := g53) w hS⟩) rfl (u8s_one _) (by omega) (.none rfl) rfl rfl ?_
  intro ad54 c54 E54 hV54 hr54
  refine zH <| rF 0 [10] <| pV (v_assign rfl rfl) rfl <| WP.nil <| rD <| eN <| cR <| zM rfl <| zM rfl <| ?_
  refine WL.appendL rfl rfl rfl Tryz.underlying25 Tryz.underlying25 sz_5 by_5 zero_5 rfl rfl hV54 (new := u8s xs) (fun h => by obtain ⟨b', o', e, hr'⟩ := hV.src (L := E54 ++ (.row g53 (u8s [m.kind]) :: .row gb cs :: .row g43 [.int .u8 255] :: (E ++ [.row g1 m.cells]))) (fun e he => List.mem_append_right _ (.tail _ (.tail _ (.tail _ (List.mem_append_left _ he))))) (by rw [u8s_len]; exact h); exact ⟨b', o', e, fun w hS => hr' _ _ w hS⟩) (by rw [u8s_len]; omega) (u8s_one _) (by omega) (.none rfl) rfl rfl ?_
  intro ad57 c57 E57 hV57 hr57
  refine zA rfl <| zA rfl <| zN <| cE <| WE.ret2 (P := Tryz.prog) (.inl rfl) Tryz.results10 rfl rfl <| ?_
  rw [← u8s_app, ← u8s_app] at hV57
  have hkl := hV57.toB
  rw [hkl] at hV57 ⊢
  exact fun w' h => ResB.good hc hV57 h (by unfold msgB; rw [← hx, hnn])
  refine zL rfl one_3 rfl <| zH <| rF 4 [7] <| ?_
  refine pV (v_conv rfl rfl Tryz.underlying5 Tryz.underlying3 (show _ = (m.kind) from (w_u8m _).trans (by omega))) rfl ?_
  refine WP.nil ?_
  refine WR.each (g := 3) [4, 8] (by kernel_rfl) (by decide) ?_
  refine ⟨?_, ?_⟩
  refine zK ck_48 rfl ?_
  intro w1 hS
  refine (put2_n (fun _ => False) w0 w1 _ gb 0 16 (bcs (fun _ => 255) 16) nn (fun w hS => hbs _ (by first | exact List.mem_cons_self .. | exact List.mem_cons_of_mem _ (List.mem_cons_self ..)) w hS) (bcs_len _ _) hS (by omega) (by omega) (by omega)).mono ?_
  rintro e w' ⟨ad49, c49, E49, rfl, hV49, hS'⟩
  rw [n2_eq, rep_u8s, ← u8s_app] at hV49
  refine ⟨_, _, rfl, hS', ?_⟩
  refine zH <| rO 1 [8, 9] <| zB Tryz.underlying25 sz_5 zero_5 rfl rfl <| ?_
  intro g53 hg53
  first | (refine WL.as (L' := .row g53 (u8s [m.kind]) :: (E49 ++ (.row gb cs :: .row g43 [.int .u8 255] :: (E ++ [.row g1 m.cells])))) rfl ?_; refine WL.to (L' := E49 ++ (.row g53 (u8s [m.kind]) :: .row gb cs :: .row g43 [.int .u8 255] :: (E ++ [.row g1 m.cells]))) (fun w hS => hS.front [_]) ?_) | refine WL.as (L' := .row g53 (u8s [m.kind]) :: .row gb cs :: .row g43 [.int .u8 255] :: (E ++ [.row g1 m.cells])) rfl ?_
  refine WL.appendL rfl rfl rfl Tryz.underlying25 Tryz.underlying25 sz_5 by_5 zero_5 rfl rfl hV49 (new := u8s [m.kind]) (fun _ => ⟨g53, 0, rfl, fun w hS => allAt (g := g53) w hS⟩) rfl (u8s_one _) (by omega) (.none rfl) rfl rfl ?_
  intro ad54 c54 E54 hV54 hr54
  refine zH <| rF 0 [10] <| pV (v_assign rfl rfl) rfl <| WP.nil <| rD <| eN <| cR <| zM rfl <| zM rfl <| ?_
  refine WL.appendL rfl rfl rfl Tryz.underlying25 Tryz.underlying25 sz_5 by_5 zero_5 rfl rfl hV54 (new := u8s xs) (fun h => by obtain ⟨b', o', e, hr'⟩ := hV.src (L := E54 ++ (.row g53 (u8s [m.kind]) :: .row gb cs :: .row g43 [.int .u8 255] :: (E ++ [.row g1 m.cells]))) (fun e he => List.mem_append_right _ (.tail _ (.tail _ (.tail _ (List.mem_append_left _ he))))) (by rw [u8s_len]; exact h); exact ⟨b', o', e, fun w hS => hr' _ _ w hS⟩) (by rw [u8s_len]; omega) (u8s_one _) (by omega) (.none rfl) rfl rfl ?_
  intro ad57 c57 E57 hV57 hr57
  refine zA rfl <| zA rfl <| zN <| cE <| WE.ret2 (P := Tryz.prog) (.inl rfl) Tryz.results10 rfl rfl <| ?_
  rw [← u8s_app, ← u8s_app] at hV57
  have hkl := hV57.toB
  rw [hkl] at hV57 ⊢
  exact fun w' h => ResB.good hc hV57 h (by unfold msgB; rw [← hx, hnn])
  refine zB Tryz.underlying25 sz_5 zero_5 rfl rfl ?_
  intro g53 hg53
  first | (refine WL.as (L' := .row g53 (u8s [m.kind]) :: (E49 ++ (.row gb cs :: .row g43 [.int .u8 255] :: (E ++ [.row g1 m.cells])))) rfl ?_; refine WL.to (L' := E49 ++ (.row g53 (u8s [m.kind]) :: .row gb cs :: .row g43 [.int .u8 255] :: (E ++ [.row g1 m.cells]))) (fun w hS => hS.front [_]) ?_) | refine WL.as (L' := .row g53 (u8s [m.kind]) :: .row gb cs :: .row g43 [.int .u8 255] :: (E ++ [.row g1 m.cells])) rfl ?_
  refine zH <| rO 1 [4, 9] <| zK ck_48 rfl <| ?_
  intro w1 hS
  refine (put2_n (fun _ => False) w0 w1 _ gb 0 16 (bcs (fun _ => 255) 16) nn (fun w hS => hbs _ (by first | exact List.mem_cons_self .. | exact List.mem_cons_of_mem _ (List.mem_cons_self ..)) w hS) (bcs_len _ _) hS (by omega) (by omega) (by omega)).mono ?_
  rintro e w' ⟨ad49, c49, E49, rfl, hV49, hS'⟩
  rw [n2_eq, rep_u8s, ← u8s_app] at hV49
  refine ⟨_, _, rfl, hS', ?_⟩
  refine WL.appendL rfl rfl rfl Tryz.underlying25 Tryz.underlying25 sz_5 by_5 zero_5 rfl rfl hV49 (new := u8s [m.kind]) (fun _ => ⟨g53, 0, rfl, fun w hS => allAt (g := g53) w hS⟩) rfl (u8s_one _) (by omega) (.none rfl) rfl rfl ?_
  intro ad54 c54 E54 hV54 hr54
  refine zH <| rF 0 [10] <| pV (v_assign rfl rfl) rfl <| WP.nil <| rD <| eN <| cR <| zM rfl <| zM rfl <| ?_
  refine WL.appendL rfl rfl rfl Tryz.underlying25 Tryz.underlying25 sz_5 by_5 zero_5 rfl rfl hV54 (new := u8s xs) (fun h => by obtain ⟨b', o', e, hr'⟩ := hV.src (L := E54 ++ (.row g53 (u8s [m.kind]) :: .row gb cs :: .row g43 [.int .u8 255] :: (E ++ [.row g1 m.cells]))) (fun e he => List.mem_append_right _ (.tail _ (.tail _ (.tail _ (List.mem_append_left _ he))))) (by rw [u8s_len]; exact h); exact ⟨b', o', e, fun w hS => hr' _ _ w hS⟩) (by rw [u8s_len]; omega) (u8s_one _) (by omega) (.none rfl) rfl rfl ?_
  intro ad57 c57 E57 hV57 hr57
  refine zA rfl <| zA rfl <| zN <| cE <| WE.ret2 (P := Tryz.prog) (.inl rfl) Tryz.results10 rfl rfl <| ?_
  rw [← u8s_app, ← u8s_app] at hV57
  have hkl := hV57.toB
  rw [hkl] at hV57 ⊢
  exact fun w' h => ResB.good hc hV57 h (by unfold msgB; rw [← hx, hnn])
  refine zM rfl ?_
  iterate 4 refine WL.sk rfl ?_
  refine zQ rfl <| zN <| cF rfl <| cK <| eN <| cS <| cR <| zM rfl <| ?_
  refine zV ((v_neq rfl rfl rfl).t ((by omega))) rfl ?_
  refine zN <| cT rfl <| cR <| zM rfl <| zA rfl <| zA rfl <| zN <| cE <| eR <| WE.ret2 (P := Tryz.prog) (.inl rfl) Tryz.results10 rfl rfl <| ?_
  have hc : msgC m = bodC m := (by unfold msgC; rw [if_neg h33])
  exact fun w' h => ResB.bad hc h33 h
theorem Enc_c (w0 : World) (m : MsL) (hM : m.At w0) (hI : m.In) (hG : GF w0) (hP : m.atr.path.length ≤ 1000) (hO : m.atr.others.length ≤ 90) : Calls Tryz.prog 10 #[.agg m.cells.toArray] w0 fun e w' => ResB w0 w' (msgC m) (msgB m) e :=
  Enc_g w0 m hM hI hG (by omega) (by omega)

section
variable {P : Program} {w : World}

def Tree (P : Program) (w : World) (t : TypeId) (cs : List Value) : Prop := ∃ (H : Type) (enc : TypeId × Value → H) (m : Nat) (x : DataW H × List MemPlace), DataW.trod enc P w 0 (fun _ => true) true m t cs = some x
def Arg (P : Program) (w : World) (t : TypeId) (v : Value) : Prop := (∃ base, Value.okWide P w .any base t v) ∧ Tree P w t v.cells.toList

theorem Tree.step {t : TypeId} {cs : List Value} (h : Tree P w t cs) : ∃ (H : Type) (enc : TypeId × Value → H) (m : Nat) (x : DataW H × List MemPlace), DataW.trodStep enc P w 0 (fun _ => true) true (DataW.trod enc P w 0 (fun _ => true) true m) t cs = some x := by
  obtain ⟨H, enc, m, x, hx⟩ := h
  cases m with
  | zero => simp [DataW.trod] at hx
  | succ m => exact ⟨H, enc, m, x, hx⟩
theorem Tree.int {t : TypeId} {k : IntKind} {x : Value} (hu : P.underlying t = some (.int k)) (h : Tree P w t [x]) : ∃ n, x = .int k n ∧ (Lit.int k n).wf = true := by
  obtain ⟨H, enc, m, y, hy⟩ := h.step
  unfold DataW.trodStep at hy
  simp only [hu] at hy
  cases x <;> simp at hy
  obtain ⟨⟨rfl, hw⟩, _⟩ := hy
  exact ⟨_, rfl, hw⟩
def Leaves (P : Program) (w : World) : List TypeId → List Value → Prop
  | [], cs => cs = []
  | t :: ts, cs => ∃ x xs, cs = x :: xs ∧ Tree P w t [x] ∧ Leaves P w ts xs
def flat (P : Program) : Nat → TypeId → List TypeId
  | 0, t => [t]
  | n + 1, t => match P.underlying t with
    | some (.struct fs) => fs.toList.flatMap fun f => flat P n f.type
    | some (.array m e) => (List.replicate m (flat P n e)).flatten
    | _ => [t]
def contigB (P : Program) (total : Nat) : Nat → List Field → Bool
  | k, [] => k == total
  | k, f :: fs => f.offset == k && contigB P total (k + P.cellsOf f.type) fs
def layB (P : Program) : Nat → TypeId → Bool
  | 0, _ => false
  | n + 1, t => match P.underlying t with
    | some (.struct fs) => contigB P (P.cellsOf t) 0 fs.toList && fs.toList.all fun f => layB P n f.type
    | some (.array m e) => m * P.cellsOf e == P.cellsOf t && layB P n e
    | _ => true

/-! ### Arguments -/
theorem Arg.int {t : TypeId} {k : IntKind} {v : Value} (hu : P.underlying t = some (.int k)) (h : Arg P w t v) : ∃ n, v = .int k n ∧ (Lit.int k n).wf = true := by
  obtain ⟨⟨base, ho⟩, hT⟩ := h
  obtain ⟨n, rfl⟩ := WideShapes.okWide_int hu ho
  exact Tree.int hu hT
theorem Arg.bool {t : TypeId} {v : Value} (hu : P.underlying t = some .bool) (h : Arg P w t v) : ∃ b, v = .bool b := by
  obtain ⟨⟨base, ho⟩, hT⟩ := h
  exact WideShapes.okWide_bool hu ho
def Elems (P : Program) (w : World) (e s : Nat) (a : Option Addr) (len : Nat) : Prop :=
  0 < len → ∃ b off, a = some ⟨b, off, none⟩ ∧ ∀ i, i < len → ∃ cs, cs.length = s ∧ w.rangeAt b (off + i * s) cs ∧ Tree P w e cs
theorem wf_u32 {n : Int} (h : (Lit.int .u32 n).wf = true) : 0 ≤ n ∧ n ≤ 4294967295 := by
  simp [Lit.wf, IntKind.min, IntKind.max, IntKind.signed, IntKind.bits] at h; exact h
end


def fOf (xs : List Int) (i : Nat) : Int := xs.getD i 0
theorem fOf_get {xs : List Int} {i : Nat} (h : i < xs.length) : xs[i]? = some (fOf xs i) := by
  unfold fOf; rw [List.getD_eq_getElem?_getD, List.getElem?_eq_getElem h]; rfl
theorem fOf_at {xs : List Int} {i : Nat} {x : Int} (h : xs[i]? = some x) : fOf xs i = x := by
  unfold fOf; rw [List.getD_eq_getElem?_getD, h]; rfl
theorem fOf_byt {xs : List Int} (h : Bys xs) : Byt (fOf xs) := fun i => by
  by_cases hi : i < xs.length
  · exact h _ (List.mem_of_getElem? (fOf_get hi))
  · unfold fOf; rw [List.getD_eq_getElem?_getD, List.getElem?_eq_none (by omega)]; decide
theorem RdO.st {w0 w : World} {L : List Ent} {ad : Option Addr} {n : Nat} {f : Nat → Int} (h : RdO w0 ad n f) (hS : St (fun _ => False) w0 w L) : RdO w ad n f := fun hn => by
  obtain ⟨b, o, e, hr⟩ := h hn
  exact ⟨b, o, e, hS.oldRd (fun h => h) hr⟩
set_option maxHeartbeats 1000000 in
theorem DecBad_c (w0 : World) (ad : Option Addr) (n c : Nat) (f : Nat → Int) (hf : Byt f) (hr0 : RdO w0 ad n f) (hn : n ≤ 1000000) (hnc : n ≤ c) (C S : Int) (d : ByteArray) (hs : sizeR n f = (0, C, S, d)) (hC : C ≠ 0) :
    Calls Tryz.prog 85 #[.slice ad n c] w0 fun e w' => e = .returned (.tuple #[.agg (msgK 0).toArray, .agg (fltL C S d).toArray]) ∧ Frm (fun _ => False) w0 w' := by
  refine enter Tryz.func85 rfl Tryz.ntmps85 rfl (St.start (fun _ => False) w0) ?_
  refine cR <| WL.alloc rfl zero_39 (.none rfl) rfl rfl <| ?_
  intro g2 hg2
  refine WL.alloc rfl zero_37 (.none rfl) rfl rfl ?_
  intro g3 hg3
  refine zR <| zM rfl <| zK ck_84 rfl <| ?_
  intro w hS
  refine Calls.then (by rw [show (Ending.returned (.tuple #[.int .i64 0, .agg (fltL C S d).toArray])) = .returned (sizeV (sizeR n f)) by rw [hs]; rfl]; exact Size_c w ad n c f hf (RdO.st hr0 hS) hn hnc) hS ?_
  refine zM rfl <| zX rfl <| zX rfl <| WL.alloc rfl zero_37 (.none rfl) rfl rfl <| ?_
  intro g5 hg5
  refine zA rfl <| zW many_37 rfl rfl <| zN <| cS <| cR <| zV (v_loadN rfl rfl many_37 rfl allAt) rfl <| zV (v_build rfl rfl zero_37 plc_37 rfl) rfl <| ?_
  refine zV (v_neq_aggT rfl rfl rfl eqk_37 eqg_37 rfl rfl (by exact fun h => by injection h with h1 _; injection h1 with _ h1; exact hC h1)) rfl ?_
  refine zN <| cT rfl <| cS <| WC.orders mixed <| rF 3 [0] <| pV (v_build rfl rfl zero_39 plc_39 rfl) rfl <| WP.nil <| ?_
  refine WR.each (g := 2) [1, 2] (by kernel_rfl) (by decide) ?_
  refine ⟨?_, ?_⟩
  refine zV (v_loadN rfl rfl many_37 rfl allAt) rfl <| zH <| rO 0 [2, 3] <| zW many_39 rfl rfl <| zW many_37 rfl rfl <| zH <| rD <| eN <| cE <| eR <| WE.ret2 (P := Tryz.prog) (.inl rfl) Tryz.results85 (resRow rfl many_39 rfl) (resRow rfl many_37 rfl) <| ?_
  exact fun w' h => ⟨rfl, h.frm⟩
  refine zW many_39 rfl rfl <| zH <| rA 1 [1] rfl <| qV (v_loadN rfl rfl many_37 rfl allAt) rfl <| WQ.nilR <| rO 0 [3] <| zW many_37 rfl rfl <| zH <| rD <| eN <| cE <| eR <| WE.ret2 (P := Tryz.prog) (.inl rfl) Tryz.results85 (resRow rfl many_39 rfl) (resRow rfl many_37 rfl) <| ?_
  exact fun w' h => ⟨rfl, h.frm⟩
set_option maxHeartbeats 1000000 in
theorem DecLong_c (w0 : World) (b o : Nat) (n c : Nat) (f : Nat → Int) (hf : Byt f) (hr : Rd w0 b o n f) (hn : n ≤ 1000000) (hnc : n ≤ c) (h19 : 19 ≤ n) (k : Int) (hs : sizeR n f = (k, 0, 0, ⟨#[]⟩)) (hk : k ≠ n) :
    Calls Tryz.prog 85 #[.slice (some ⟨b, o, none⟩) n c] w0 fun e w' => e = .returned (.tuple #[.agg (msgK 0).toArray, .agg (fltL 1 2 (str (fun i => f (16 + i)) 2)).toArray]) ∧ Frm (fun _ => False) w0 w' := by
  refine enter Tryz.func85 rfl Tryz.ntmps85 rfl (St.start (fun _ => False) w0) ?_
  refine cR <| WL.alloc rfl zero_39 (.none rfl) rfl rfl <| ?_
  intro g2 hg2
  refine WL.alloc rfl zero_37 (.none rfl) rfl rfl ?_
  intro g3 hg3
  refine zR <| zM rfl <| zK ck_84 rfl <| ?_
  intro w hS
  refine Calls.then (by rw [show (Ending.returned (.tuple #[.int .i64 k, .agg (fltL 0 0 ⟨#[]⟩).toArray])) = .returned (sizeV (sizeR n f)) by rw [hs]; rfl]; exact Size_c w (some ⟨b, o, none⟩) n c f hf (fun _ => ⟨b, o, rfl, hS.oldRd (fun h => h) hr⟩) hn hnc) hS ?_
  refine zM rfl <| zX rfl <| zX rfl <| WL.alloc rfl zero_37 (.none rfl) rfl rfl <| ?_
  intro g5 hg5
  refine zA rfl <| zW many_37 rfl rfl <| zN <| cS <| cR <| zV (v_loadN rfl rfl many_37 rfl allAt) rfl <| zV (v_build rfl rfl zero_37 plc_37 rfl) rfl <| ?_
  refine zV (v_neq_aggF rfl rfl rfl eqk_37 eqg_37 rfl rfl (by rfl)) rfl ?_
  refine zN <| cF rfl <| cK <| eN <| cS <| cR <| zM rfl <| zM rfl <| zV (v_len_slice rfl rfl Tryz.underlying25) rfl <| ?_
  refine zV ((v_neq rfl rfl rfl).t (by omega)) rfl ?_
  refine zN <| cT rfl <| cR <| zV (v_build rfl rfl zero_39 plc_39 rfl) rfl <| zM rfl <| zK ck_111 rfl <| ?_
  intro w hS
  refine Calls.then (long_c w b o n c f (hS.oldRd (fun h => h) hr) (by omega) hnc) hS ?_
  refine zW many_39 rfl rfl <| zW many_37 rfl rfl <| zN <| cE <| eR <| WE.ret2 (P := Tryz.prog) (.inl rfl) Tryz.results85 (resRow rfl many_39 rfl) (resRow rfl many_37 rfl) <| ?_
  exact fun w' h => ⟨rfl, h.frm⟩


theorem Bys.flat {α : Type} {f : α → List Int} {l : List α} (h : ∀ a ∈ l, Bys (f a)) : Bys (l.flatMap f) := fun x hx => by
  obtain ⟨a, ha, hx⟩ := List.mem_flatMap.1 hx
  exact h a ha x hx
theorem Bys.one {x : Int} (h0 : 0 ≤ x) (h1 : x ≤ 255) : Bys [x] := fun y hy => by
  rcases List.mem_cons.1 hy with rfl | hy
  · exact ⟨h0, h1⟩
  · cases hy
theorem Bys.cons {x : Int} {xs : List Int} (h0 : 0 ≤ x ∧ x ≤ 255) (h : Bys xs) : Bys (x :: xs) := (Bys.one h0.1 h0.2).app h
theorem addrB_bys (a : Int) (n : Nat) : Bys (addrB a n) := fun x hx => numB_bys a 4 x (List.mem_of_mem_take hx)
theorem valE_bys (a : AtL) (t : Nat) : Bys (valE a t) := by
  unfold valE
  split
  · exact numB_bys _ _
  split
  · exact Bys.flat fun s _ => ((numB_bys _ _).app (numB_bys _ _)).app (Bys.flat fun x _ => numB_bys _ _)
  split
  · exact numB_bys _ _
  split
  · exact numB_bys _ _
  split
  · exact numB_bys _ _
  split
  · exact (numB_bys _ _).app (numB_bys _ _)
  split
  · exact Bys.flat fun x _ => numB_bys _ _
  · exact Bys.nil
theorem putE_bys (fl t : Int) {vs : List Int} (h : Bys vs) : Bys (putE fl t vs) := by
  unfold putE
  split
  · exact (((numB_bys _ _).app (numB_bys _ _)).app (numB_bys _ _)).app h
  · exact (((numB_bys _ _).app (numB_bys _ _)).app (numB_bys _ _)).app h
theorem bodyA_bys {a : AtL} (hI : a.In) : Bys (bodyA a) := by
  unfold bodyA
  refine Bys.app (Bys.flat fun t _ => ?_) (Bys.flat fun o ho => putE_bys _ _ (hI.oths o ho).2.2)
  unfold knownE
  split
  · exact putE_bys _ _ (valE_bys _ _)
  · exact Bys.nil
theorem netsE_bys (ps : List PfL) : Bys (netsE ps) := Bys.flat fun _ _ => (numB_bys _ _).app (addrB_bys _ _)
theorem strI_bys (d : ByteArray) : Bys (strI d) := fun x hx => by
  obtain ⟨b, _, rfl⟩ := List.mem_map.1 hx
  have := b.toNat_lt
  omega
theorem openB_bys {m : MsL} (hI : m.In) : Bys (openB m) := by
  have hc : Bys (capsE m.caps) := Bys.flat fun c hc => Bys.app (Bys.cons (by omega) (Bys.one (by omega) (by omega))) (hI.caps c hc).2.2
  unfold openB
  refine Bys.app ((((Bys.one (by decide) (by decide)).app (numB_bys _ _)).app (numB_bys _ _)).app (addrB_bys _ _)) ?_
  split
  · exact Bys.one (by decide) (by decide)
  · exact Bys.app (Bys.cons (by omega) (Bys.cons (by decide) (Bys.one (by omega) (by omega)))) hc
theorem bodC_kind {m : MsL} (h : bodC m = 0) : 1 ≤ m.kind ∧ m.kind ≤ 4 := by
  unfold bodC at h
  by_cases h1 : m.kind = 1
  · omega
  by_cases h2 : m.kind = 2
  · omega
  by_cases h3 : m.kind = 3
  · omega
  by_cases h4 : m.kind = 4
  · omega
  · rw [if_neg h1, if_neg h2, if_neg h3, if_neg h4] at h; exact absurd h (by decide)
theorem bodB_bys {m : MsL} (hI : m.In) (h : bodC m = 0) : Bys (bodB m) := by
  unfold bodB
  split
  · exact openB_bys hI
  split
  · exact ((((numB_bys _ _).app (netsE_bys _)).app (numB_bys _ _)).app (bodyA_bys hI.at_)).app (netsE_bys _)
  split
  · rename_i h1 h2 h3
    unfold bodC at h
    rw [if_neg h1, if_neg h2, if_pos h3] at h
    unfold noteC at h
    split at h
    · exact absurd h (by decide)
    · exact Bys.app (Bys.cons (by omega) (Bys.one (by omega) (by omega))) (strI_bys _)
  · exact Bys.nil
theorem msgC_bod {m : MsL} (h : msgC m = 0) : bodC m = 0 ∧ 19 + (bodB m).length ≤ 4096 := by
  unfold msgC at h
  split at h
  · split at h
    · exact absurd h (by decide)
    · exact ⟨by assumption, by omega⟩
  · exact absurd h (by assumption)
theorem msgB_len (m : MsL) : (msgB m).length = 19 + (bodB m).length := by
  unfold msgB
  simp only [List.length_append, numB_len, List.length_replicate, List.length_cons, List.length_nil]
theorem msgB_bys {m : MsL} (hI : m.In) (h : msgC m = 0) : Bys (msgB m) := by
  have hk := bodC_kind (msgC_bod h).1
  refine Bys.app (Bys.app (Bys.app (fun x hx => ?_) (numB_bys _ _)) (Bys.one (by omega) (by omega))) (bodB_bys hI (msgC_bod h).1)
  rw [(List.mem_replicate.1 hx).2]; decide
theorem head_of {zs : List Int} {L : Nat} {k : Int} (h : ∀ i, i < 19 → zs[i]? = if i < 16 then some 255 else if i = 16 then some ((L : Int) / 256 % 256) else if i = 17 then some ((L : Int) % 256) else some k) (hL : L ≤ 65535) : mark255 (fOf zs) = true ∧ lenI (fOf zs) = L ∧ fOf zs 18 = k := by
  refine ⟨mark255_iff.2 fun i hi => fOf_at (by rw [h i (by omega), if_pos hi]), ?_, fOf_at (h 18 (by decide))⟩
  unfold lenI
  rw [fOf_at (h 16 (by decide)), fOf_at (h 17 (by decide))]
  omega

theorem rd_u8s {w : World} {b o : Nat} {xs : List Int} (h : w.rangeAt b o (u8s xs)) : Rd w b o xs.length (fOf xs) := fun i hi => h i _ (u8s_get (fOf_get hi))

structure Win (w : World) (b o c : Nat) (xs : List Int) : Prop where
  at_ : w.rangeAt b o (u8s xs)
  bys : Bys xs
  le : xs.length ≤ c
theorem Win.st {w w' : World} {L : List Ent} {b o c : Nat} {xs : List Int} (h : Win w b o c xs) (hS : St (fun _ => False) w w' L) : Win w' b o c xs := ⟨hS.rng (fun _ h => h) _ _ _ h.at_, h.bys, h.le⟩
theorem Win.get {w : World} {b o c i : Nat} {xs : List Int} {x : Int} (h : Win w b o c xs) (hi : xs[i]? = some x) : w.cell? ⟨b, o + i * 1, none⟩ = some (.int .u8 x) := by rw [Nat.mul_one]; exact h.at_ i _ (u8s_get hi)
theorem Win.drop {w : World} {b o c : Nat} {xs : List Int} (h : Win w b o c xs) (k : Nat) : Win w b (sAddr o k c 1) (c - k) (xs.drop k) := by
  refine ⟨?_, fun x hx => h.bys x (List.mem_of_mem_drop hx), by rw [List.length_drop]; have := h.le; omega⟩
  intro j v hj
  by_cases hk : k < xs.length
  · have := h.le
    unfold sAddr
    rw [if_neg (by omega)]
    have h2 := h.at_ (k + j) v (by rw [← hj]; unfold u8s; rw [List.getElem?_map, List.getElem?_map, List.getElem?_drop])
    rwa [show o + k * 1 + j = o + (k + j) by omega]
  · rw [List.drop_eq_nil_of_le (by omega)] at hj; simp [u8s] at hj
theorem Win.take {w : World} {b o c : Nat} {xs : List Int} (h : Win w b o c xs) (k : Nat) : Win w b o c (xs.take k) := by
  refine ⟨?_, fun x hx => h.bys x (List.mem_of_mem_take hx), by rw [List.length_take]; have := h.le; omega⟩
  intro j v hj
  refine h.at_ j v ?_
  unfold u8s at hj ⊢
  rw [List.getElem?_map, List.getElem?_take] at hj
  rw [List.getElem?_map]
  split at hj
  · exact hj
  · cases hj
def addrI (ys : List Int) : Int := fOf ys 0 * 16777216 + fOf ys 1 * 65536 + fOf ys 2 * 256 + fOf ys 3
theorem fOf_b {ys : List Int} (h : Bys ys) (i : Nat) : 0 ≤ fOf ys i ∧ fOf ys i ≤ 255 := fOf_byt h i
theorem addrI_b {ys : List Int} (h : Bys ys) : 0 ≤ addrI ys ∧ addrI ys ≤ 4294967295 := by
  have h0 := fOf_b h 0
  have h1 := fOf_b h 1
  have h2 := fOf_b h 2
  have h3 := fOf_b h 3
  unfold addrI
  omega
theorem fOf_take {ys : List Int} {k i : Nat} : fOf (ys.take k) i = if i < k then fOf ys i else 0 := by
  unfold fOf
  rw [List.getD_eq_getElem?_getD, List.getD_eq_getElem?_getD, List.getElem?_take]
  split <;> rfl
theorem fOf_none {ys : List Int} {i : Nat} (h : ys.length ≤ i) : fOf ys i = 0 := by
  unfold fOf; rw [List.getD_eq_getElem?_getD, List.getElem?_eq_none h]; rfl
theorem addrI_take {ys : List Int} (k : Nat) : addrI (ys.take k) = (if 0 < k then fOf ys 0 else 0) * 16777216 + (if 1 < k then fOf ys 1 else 0) * 65536 + (if 2 < k then fOf ys 2 else 0) * 256 + (if 3 < k then fOf ys 3 else 0) := by
  unfold addrI
  rw [fOf_take, fOf_take, fOf_take, fOf_take]
theorem or32 (i : Nat) (x y : Int) (h0 : 0 ≤ x) (h1 : x % 2 ^ i = 0) (h2 : x < 4294967296) (h3 : 0 ≤ y) (h4 : y < 2 ^ i) (h5 : y < 4294967296) : bits .or .u32 x y = x + y :=
  bits_join .u32 32 (by decide) (fun n h1 h2 => by rw [IntKind.wrap_u32']; omega) i x y h0 h1 (by omega) h3 h4 (by omega)
theorem addr_step {ys : List Int} {k : Nat} {x : Int} (hk : k < 4) (hx : fOf ys k = x) (hB : Bys ys) : bits .or .u32 (addrI (ys.take k)) (IntKind.u32.wrap (x * 2 ^ (24 - 8 * k))) = addrI (ys.take (k + 1)) := by
  have h0 := fOf_b hB 0
  have h1 := fOf_b hB 1
  have h2 := fOf_b hB 2
  have h3 := fOf_b hB 3
  rw [addrI_take, addrI_take]
  have : k = 0 ∨ k = 1 ∨ k = 2 ∨ k = 3 := by omega
  rcases this with rfl | rfl | rfl | rfl
  · subst hx
    simp only [show ¬ (0 < 0) by omega, show ¬ (1 < 0) by omega, show ¬ (2 < 0) by omega, show ¬ (3 < 0) by omega, show 0 < 0 + 1 by omega, show ¬ (1 < 0 + 1) by omega, show ¬ (2 < 0 + 1) by omega, show ¬ (3 < 0 + 1) by omega, if_true, if_false]
    rw [show (2 : Int) ^ (24 - 8 * 0) = 16777216 by decide, IntKind.wrap_u32', or32 32 _ _ (by omega) (by decide) (by omega) (by omega) (by omega) (by omega)]
    omega
  · subst hx
    simp only [show 0 < 1 by omega, show ¬ (1 < 1) by omega, show ¬ (2 < 1) by omega, show ¬ (3 < 1) by omega, show 0 < 1 + 1 by omega, show 1 < 1 + 1 by omega, show ¬ (2 < 1 + 1) by omega, show ¬ (3 < 1 + 1) by omega, if_true, if_false]
    rw [show (2 : Int) ^ (24 - 8 * 1) = 65536 by decide, IntKind.wrap_u32', or32 24 _ _ (by omega) (by omega) (by omega) (by omega) (by omega) (by omega)]
    omega
  · subst hx
    simp only [show 0 < 2 by omega, show 1 < 2 by omega, show ¬ (2 < 2) by omega, show ¬ (3 < 2) by omega, show 0 < 2 + 1 by omega, show 1 < 2 + 1 by omega, show 2 < 2 + 1 by omega, show ¬ (3 < 2 + 1) by omega, if_true, if_false]
    rw [show (2 : Int) ^ (24 - 8 * 2) = 256 by decide, IntKind.wrap_u32', or32 16 _ _ (by omega) (by omega) (by omega) (by omega) (by omega) (by omega)]
    omega
  · subst hx
    simp only [show 0 < 3 by omega, show 1 < 3 by omega, show 2 < 3 by omega, show ¬ (3 < 3) by omega, show 0 < 3 + 1 by omega, show 1 < 3 + 1 by omega, show 2 < 3 + 1 by omega, show 3 < 3 + 1 by omega, if_true, if_false]
    rw [show (2 : Int) ^ (24 - 8 * 3) = 1 by decide, IntKind.wrap_u32', or32 8 _ _ (by omega) (by omega) (by omega) (by omega) (by omega) (by omega)]
    omega
set_option maxHeartbeats 1000000 in
theorem getAddr_c (w : World) (b o c : Nat) (ys : List Int) (hW : Win w b o c ys) (hn : ys.length ≤ 4) :
    Calls Tryz.prog 125 #[.slice (some ⟨b, o, none⟩) ys.length c] w fun e w' => e = .returned (.int .u32 (addrI ys)) ∧ Frm (fun _ => False) w w' := by
  refine enter Tryz.func125 rfl Tryz.ntmps125 rfl (St.start (fun _ => False) w) ?_
  refine cR <| zA rfl <| zR <| zA rfl <| zN <| cS <| cR <| zM rfl <| zV (v_len_slice rfl rfl Tryz.underlying25) rfl <| zM rfl <| ?_
  refine zN <| cB <| WC.loop (fun k : Nat => [(8, .int .i64 k), (7, .int .i64 ys.length), (6, .slice (some ⟨b, o, none⟩) ys.length c), (3, .int .u32 (addrI (ys.take k)))]) (fun _ => []) (fun k => k ≤ ys.length) (fun k => ys.length - k) 0 (Nat.zero_le _) (.cons rfl (.cons rfl (.cons rfl (.cons rfl .nil)))) (.refl _) <| ?_
  intro k hk
  refine cR ?_
  refine zT (v_lss rfl rfl rfl) rfl (fun h9 => ?_) (fun h9 => ?_)
  refine zN <| cS <| cT rfl <| cK <| eN <| cS <| cB <| cR <| zM rfl <| ?_
  obtain ⟨x, hx⟩ : ∃ x, ys[k]? = some x := ⟨ys[k]'(by omega), List.getElem?_eq_getElem _⟩
  have hxb := hW.bys x (List.mem_of_getElem? hx)
  have hfx := fOf_at hx
  refine zV (v_indexAddr (lo := k) rfl rfl rfl Tryz.underlying25 sz_5 (by omega) (by omega)) rfl ?_
  refine zV (v_load1 rfl rfl one_5 (cellOld (fun h => h) (hW.get hx))) rfl <| zA rfl <| zA rfl <| zN <| WC.region <| zM rfl <| zM rfl <| ?_
  refine zV (v_conv rfl rfl Tryz.underlying23 Tryz.underlying5 (by first | exact w_u32 (by omega) (by omega) | exact w_u32m _)) rfl ?_
  refine zM rfl ?_
  refine zV (v_mul rfl rfl rfl (show _ = ((8 * k : Nat) : Int) from (w_i64 (by omega) (by omega)).trans (by omega))) rfl ?_
  refine zV (v_sub rfl rfl rfl (show _ = ((24 - 8 * k : Nat) : Int) from (w_i64 (by omega) (by omega)).trans (by omega))) rfl ?_
  refine zV ((v_shl (m := 24 - 8 * k) (c := (2 : Int) ^ (24 - 8 * k)) rfl rfl rfl rfl (by show 24 - 8 * k ≤ 32; omega) rfl rfl)) rfl ?_
  refine zV (v_or rfl rfl rfl (show _ = addrI (ys.take (k + 1)) from addr_step (by omega) hfx hW.bys)) rfl ?_
  refine zA rfl <| WL.nil <| eY <| eN <| WC.region <| ?_
  refine zV (v_add rfl rfl rfl (w_i64 (by omega) (by omega))) rfl ?_
  refine zM rfl <| WL.nil <| ?_
  exact WE.next (k + 1) (by omega) (by omega) (.int rfl (by omega) (.cons rfl (.cons rfl (.cons rfl .nil)))) (.refl _)
  refine zN <| cS <| cF rfl <| cX <| eX <| eX <| eH <| eN <| cR <| zM rfl <| zA rfl <| zN <| cE <| ?_
  refine tR Tryz.results125 rfl ?_
  obtain rfl : k = ys.length := (by omega)
  exact fun w' h => ⟨by rw [List.take_length], h.frm⟩
theorem Win.get2 {w : World} {b o c : Nat} {xs : List Int} (h : Win w b o c xs) (hn : 2 ≤ xs.length) : Calls Tryz.prog 110 #[.slice (some ⟨b, o, none⟩) xs.length c] w fun e w' => e = .returned (.int .i64 (fOf xs 0 * 256 + fOf xs 1)) ∧ Frm (fun _ => False) w w' :=
  get2_c w b o xs.length c (fOf xs) (fOf_byt h.bys) (rd_u8s h.at_) hn
def winV (b o c k n : Nat) : Value := .slice (some ⟨b, sAddr o k c 1, none⟩) n (c - k)
theorem counted_no (w : World) (b o c : Nat) (xs : List Int) (hW : Win w b o c xs) (hn : xs.length ≤ 1000000) (h : xs.length < 2 ∨ (xs.length : Int) < 2 + (fOf xs 0 * 256 + fOf xs 1)) :
    Calls Tryz.prog 127 #[.slice (some ⟨b, o, none⟩) xs.length c] w fun e w' => e = .returned (.tuple #[.slice none 0 0, .slice none 0 0, .bool false]) ∧ Frm (fun _ => False) w w' := by
  have b0 := fOf_b hW.bys 0
  have b1 := fOf_b hW.bys 1
  refine enter Tryz.func127 rfl Tryz.ntmps127 rfl (St.start (fun _ => False) w) ?_
  refine cR <| zA rfl <| zA rfl <| zA rfl <| zN <| cS <| cR <| zM rfl <| zV (v_len_slice rfl rfl Tryz.underlying25) rfl <| ?_
  refine zT (v_lss rfl rfl rfl) rfl (fun h8 => ?_) (fun h8 => ?_)
  refine zM rfl ?_
  iterate 6 refine WL.sk rfl ?_
  refine zP rfl <| zN <| cT rfl <| cR <| zA rfl <| zA rfl <| zA rfl <| zN <| cE <| eR <| WE.ret3 (P := Tryz.prog) (.inl rfl) Tryz.results127 rfl rfl rfl <| ?_
  exact fun w' h => ⟨rfl, h.frm⟩
  refine zM rfl <| zS (v_move rfl rfl) rfl <| zS (v_len_slice rfl rfl Tryz.underlying25) rfl <| zS (v_move rfl rfl) rfl <| WL.call rfl rfl ck_110 (.some rfl rfl rfl) rfl rfl <| ?_
  intro w hS
  refine Calls.then ((hW.st hS).get2 (by omega)) hS ?_
  refine zS (v_add rfl rfl rfl (w_i64 (by omega) (by omega))) rfl ?_
  refine zS ((v_lss rfl rfl rfl).t (by omega)) rfl ?_
  refine zQ rfl <| zN <| cT rfl <| cR <| zA rfl <| zA rfl <| zA rfl <| zN <| cE <| eR <| WE.ret3 (P := Tryz.prog) (.inl rfl) Tryz.results127 rfl rfl rfl <| ?_
  exact fun w' h => ⟨rfl, h.frm⟩
theorem counted_ok (w : World) (b o c : Nat) (xs : List Int) (hW : Win w b o c xs) (hn : xs.length ≤ 1000000) (h2 : 2 ≤ xs.length) (k : Nat) (hk : (k : Int) = fOf xs 0 * 256 + fOf xs 1) (h : 2 + k ≤ xs.length) :
    Calls Tryz.prog 127 #[.slice (some ⟨b, o, none⟩) xs.length c] w fun e w' => e = .returned (.tuple #[winV b o c 2 (2 + k - 2), winV b o c (2 + k) (xs.length - (2 + k)), .bool true]) ∧ Frm (fun _ => False) w w' := by
  have b0 := fOf_b hW.bys 0
  have b1 := fOf_b hW.bys 1
  have hle := hW.le
  refine enter Tryz.func127 rfl Tryz.ntmps127 rfl (St.start (fun _ => False) w) ?_
  refine cR <| zA rfl <| zA rfl <| zA rfl <| zN <| cS <| cR <| zM rfl <| zV (v_len_slice rfl rfl Tryz.underlying25) rfl <| ?_
  refine zV ((v_lss rfl rfl rfl).f (by omega)) rfl ?_
  refine zM rfl <| zS (v_move rfl rfl) rfl <| zS (v_len_slice rfl rfl Tryz.underlying25) rfl <| zS (v_move rfl rfl) rfl <| WL.call rfl rfl ck_110 (.some rfl rfl rfl) rfl rfl <| ?_
  intro w hS
  refine Calls.then ((hW.st hS).get2 (by omega)) hS ?_
  refine zS (v_add rfl rfl rfl (w_i64 (by omega) (by omega))) rfl ?_
  refine zS ((v_lss rfl rfl rfl).f (by omega)) rfl ?_
  refine zQ rfl <| zN <| cF rfl <| cK <| eN <| cR <| zM rfl <| zK ck_110 rfl <| ?_
  intro w hS
  refine Calls.then ((hW.st hS).get2 (by omega)) hS ?_
  refine zV (v_add rfl rfl rfl (show _ = ((2 + k : Nat) : Int) from (w_i64 (by omega) (by omega)).trans (by omega))) rfl ?_
  refine zA rfl <| zN <| cS <| cQ mixed <| qV (v_move rfl rfl) rfl <| qV (v_move rfl rfl) rfl <| ?_
  refine qV ((v_slice_lh (lo := 2) (hi := 2 + k) rfl rfl rfl rfl Tryz.underlying25 sz_5 rfl rfl (by omega) (by omega))) rfl ?_
  refine qV (v_move rfl rfl) rfl <| qV (v_move rfl rfl) rfl <| ?_
  refine qV ((v_slice_lo (lo := 2 + k) rfl rfl rfl Tryz.underlying25 sz_5 rfl (by omega))) rfl ?_
  refine qV (v_assign rfl rfl) rfl <| qV (v_assign rfl rfl) rfl <| qV (v_assign rfl rfl) rfl <| WQ.nil <| eN <| cE <| WE.ret3 (P := Tryz.prog) (.inl rfl) Tryz.results127 rfl rfl rfl <| ?_
  exact fun w' h => ⟨rfl, h.frm⟩

theorem part_no (w : World) (b o c : Nat) (xs : List Int) (hW : Win w b o c xs) (hn : xs.length ≤ 1000000) (h : xs.length < 2 ∨ (xs.length : Int) < 2 + fOf xs 1) :
    Calls Tryz.prog 126 #[.slice (some ⟨b, o, none⟩) xs.length c] w fun e w' => e = .returned (.tuple #[.int .i64 0, .slice none 0 0, .slice none 0 0, .bool false]) ∧ Frm (fun _ => False) w w' := by
  have b1 := fOf_b hW.bys 1
  refine enter Tryz.func126 rfl Tryz.ntmps126 rfl (St.start (fun _ => False) w) ?_
  refine cR <| zA rfl <| zA rfl <| zA rfl <| zA rfl <| zN <| cS <| cR <| zM rfl <| zV (v_len_slice rfl rfl Tryz.underlying25) rfl <| ?_
  refine zT (v_lss rfl rfl rfl) rfl (fun h9 => ?_) (fun h9 => ?_)
  refine zM rfl ?_
  iterate 8 refine WL.sk rfl ?_
  refine zP rfl <| zN <| cT rfl <| cR <| zA rfl <| zA rfl <| zA rfl <| zA rfl <| zN <| cE <| eR <| WE.ret4 (P := Tryz.prog) (.inl rfl) Tryz.results126 rfl rfl rfl rfl <| ?_
  exact fun w' h => ⟨rfl, h.frm⟩
  refine zM rfl <| zS (v_move rfl rfl) rfl <| zS (v_len_slice rfl rfl Tryz.underlying25) rfl <| zS (v_move rfl rfl) rfl <| ?_
  refine zS (v_indexAddr (lo := 1) rfl rfl rfl Tryz.underlying25 sz_5 rfl (by omega)) rfl ?_
  refine zS (v_load1 rfl rfl one_5 (cellOld (fun h => h) (hW.get (fOf_get (by omega))))) rfl ?_
  refine zS (v_conv rfl rfl Tryz.underlying3 Tryz.underlying5 (w_i64 (by omega) (by omega))) rfl ?_
  refine zS (v_add rfl rfl rfl (w_i64 (by omega) (by omega))) rfl ?_
  refine zS ((v_lss rfl rfl rfl).t (by omega)) rfl ?_
  refine zQ rfl <| zN <| cT rfl <| cR <| zA rfl <| zA rfl <| zA rfl <| zA rfl <| zN <| cE <| eR <| WE.ret4 (P := Tryz.prog) (.inl rfl) Tryz.results126 rfl rfl rfl rfl <| ?_
  exact fun w' h => ⟨rfl, h.frm⟩
theorem part_ok (w : World) (b o c : Nat) (xs : List Int) (hW : Win w b o c xs) (hn : xs.length ≤ 1000000) (h2 : 2 ≤ xs.length) (k : Nat) (hk : (k : Int) = fOf xs 1) (h : 2 + k ≤ xs.length) :
    Calls Tryz.prog 126 #[.slice (some ⟨b, o, none⟩) xs.length c] w fun e w' => e = .returned (.tuple #[.int .i64 (fOf xs 0), winV b o c 2 (2 + k - 2), winV b o c (2 + k) (xs.length - (2 + k)), .bool true]) ∧ Frm (fun _ => False) w w' := by
  have b0 := fOf_b hW.bys 0
  have b1 := fOf_b hW.bys 1
  have hle := hW.le
  refine enter Tryz.func126 rfl Tryz.ntmps126 rfl (St.start (fun _ => False) w) ?_
  refine cR <| zA rfl <| zA rfl <| zA rfl <| zA rfl <| zN <| cS <| cR <| zM rfl <| zV (v_len_slice rfl rfl Tryz.underlying25) rfl <| ?_
  refine zV ((v_lss rfl rfl rfl).f (by omega)) rfl ?_
  refine zM rfl <| zS (v_move rfl rfl) rfl <| zS (v_len_slice rfl rfl Tryz.underlying25) rfl <| zS (v_move rfl rfl) rfl <| ?_
  refine zS (v_indexAddr (lo := 1) rfl rfl rfl Tryz.underlying25 sz_5 rfl (by omega)) rfl ?_
  refine zS (v_load1 rfl rfl one_5 (cellOld (fun h => h) (hW.get (fOf_get (by omega))))) rfl ?_
  refine zS (v_conv rfl rfl Tryz.underlying3 Tryz.underlying5 (w_i64 (by omega) (by omega))) rfl ?_
  refine zS (v_add rfl rfl rfl (w_i64 (by omega) (by omega))) rfl ?_
  refine zS ((v_lss rfl rfl rfl).f (by omega)) rfl ?_
  refine zQ rfl <| zN <| cF rfl <| cK <| eN <| cR <| zM rfl <| ?_
  refine zV (v_indexAddr (lo := 1) rfl rfl rfl Tryz.underlying25 sz_5 rfl (by omega)) rfl ?_
  refine zV (v_load1 rfl rfl one_5 (cellOld (fun h => h) (hW.get (fOf_get (by omega))))) rfl ?_
  refine zV (v_conv rfl rfl Tryz.underlying3 Tryz.underlying5 (w_i64 (by omega) (by omega))) rfl ?_
  refine zV (v_add rfl rfl rfl (show _ = ((2 + k : Nat) : Int) from (w_i64 (by omega) (by omega)).trans (by omega))) rfl ?_
  refine zA rfl <| zN <| cS <| cQ mixed <| qV (v_move rfl rfl) rfl <| ?_
  refine qV (v_indexAddr (lo := 0) rfl rfl rfl Tryz.underlying25 sz_5 rfl (by omega)) rfl ?_
  refine qV (v_load1 rfl rfl one_5 (cellOld (fun h => h) (hW.get (fOf_get (by omega))))) rfl ?_
  refine qV (v_conv rfl rfl Tryz.underlying3 Tryz.underlying5 (w_i64 (by omega) (by omega))) rfl ?_
  refine qV (v_move rfl rfl) rfl <| qV (v_move rfl rfl) rfl <| ?_
  refine qV ((v_slice_lh (lo := 2) (hi := 2 + k) rfl rfl rfl rfl Tryz.underlying25 sz_5 rfl rfl (by omega) (by omega))) rfl ?_
  refine qV (v_move rfl rfl) rfl <| qV (v_move rfl rfl) rfl <| ?_
  refine qV ((v_slice_lo (lo := 2 + k) rfl rfl rfl Tryz.underlying25 sz_5 rfl (by omega))) rfl ?_
  refine qV (v_assign rfl rfl) rfl <| qV (v_assign rfl rfl) rfl <| qV (v_assign rfl rfl) rfl <| qV (v_assign rfl rfl) rfl <| WQ.nil <| eN <| cE <| WE.ret4 (P := Tryz.prog) (.inl rfl) Tryz.results126 rfl rfl rfl rfl <| ?_
  exact fun w' h => ⟨rfl, h.frm⟩
def needN (x : Int) : Nat := (x.toNat + 7) / 8
def netsR : List Int → Option (List PfL)
  | [] => some []
  | x :: xs => if 32 < x ∨ xs.length < needN x then none else (netsR (xs.drop (needN x))).map (⟨cutI (addrI (xs.take (needN x))) x, inI x⟩ :: ·)
termination_by xs => xs.length
decreasing_by simp only [List.length_drop, List.length_cons]; omega
theorem netsR_cons (x : Int) (xs : List Int) : netsR (x :: xs) = if 32 < x ∨ xs.length < needN x then none else (netsR (xs.drop (needN x))).map (⟨cutI (addrI (xs.take (needN x))) x, inI x⟩ :: ·) := by rw [netsR]
def pfsL (ps : List PfL) : List Value := ps.flatMap PfL.cells
theorem pfsL_snoc (ps : List PfL) (p : PfL) : pfsL (ps ++ [p]) = pfsL ps ++ p.cells := by unfold pfsL; rw [List.flatMap_append, List.flatMap_cons, List.flatMap_nil, List.append_nil]
theorem PfL.cells_one (p : PfL) : p.cells.all one = true := rfl
def NetsP (w w' : World) (r : Option (List PfL)) (e : Ending) : Prop :=
  match r with
  | none => e = .returned (.tuple #[.slice none 0 0, .bool false]) ∧ Frm (fun _ => False) w w'
  | some ps => ∃ ad c E, e = .returned (.tuple #[.slice ad ps.length c, .bool true]) ∧ Vec 2 ad ps.length c (pfsL ps) E ∧ St (fun _ => False) w w' E
set_option maxHeartbeats 1000000 in
theorem getNets_c (w0 : World) (b o c : Nat) (xs : List Int) (hW : Win w0 b o c xs) (hn : xs.length ≤ 100000) :
    Calls Tryz.prog 128 #[.slice (some ⟨b, o, none⟩) xs.length c] w0 fun e w' => NetsP w0 w' (netsR xs) e := by
  refine enter Tryz.func128 rfl Tryz.ntmps128 rfl (St.start (fun _ => False) w0) ?_
  refine cR <| zA rfl <| zA rfl <| zR <| zA rfl <| zN <| cS <| cB <| ?_
  refine WC.loop (fun x : List Int × Nat × Nat × List PfL × Option Addr × Nat × List Ent => [(0, .slice (some ⟨b, x.2.1, none⟩) x.1.length x.2.2.1), (4, .slice x.2.2.2.2.1 x.2.2.2.1.length x.2.2.2.2.2.1)]) (fun x => x.2.2.2.2.2.2 ++ []) (fun x => x.1.length + x.2.2.2.1.length ≤ xs.length ∧ Win w0 b x.2.1 x.2.2.1 x.1 ∧ netsR xs = (netsR x.1).map (x.2.2.2.1 ++ ·) ∧ Vec 2 x.2.2.2.2.1 x.2.2.2.1.length x.2.2.2.2.2.1 (pfsL x.2.2.2.1) x.2.2.2.2.2.2) (fun x => x.1.length) (xs, o, c, [], none, 0, []) ⟨Nat.le_refl _, hW, by dsimp only; cases netsR xs <;> rfl, Vec.nil 2⟩ (.cons rfl (.cons rfl .nil)) (.refl _) ?_
  rintro ⟨ys, o2, c2, ps, ad, cc, E⟩ ⟨hl, hW2, hy, hV⟩
  dsimp only at hl hW2 hy hV
  dsimp only
  refine cS <| cR <| zM rfl <| zV (v_len_slice rfl rfl Tryz.underlying25) rfl <| ?_
  refine zT (v_gtr rfl rfl rfl) rfl (fun h8 => ?_) (fun h8 => ?_)
  refine zN <| cT rfl <| cK <| eN <| cB <| cR <| zM rfl <| ?_
  obtain ⟨x, zs, rfl⟩ : ∃ x zs, ys = x :: zs := (by cases ys with | nil => exact absurd h8 (by simp) | cons x zs => exact ⟨x, zs, rfl⟩)
  have hxb := hW2.bys x (List.mem_cons_self ..)
  have hle := hW2.le
  rw [List.length_cons] at hl hle
  rw [netsR_cons] at hy
  have hcl : (x :: zs).length = zs.length + 1 := List.length_cons ..
  refine zV (v_indexAddr (lo := 0) rfl rfl rfl Tryz.underlying25 sz_5 rfl (by omega)) rfl ?_
  refine zV (v_load1 rfl rfl one_5 (cellOld (fun h => h) (hW2.get (i := 0) rfl))) rfl ?_
  refine zV (v_conv rfl rfl Tryz.underlying3 Tryz.underlying5 (w_i64 (by omega) (by omega))) rfl ?_
  refine zK ck_102 rfl ?_
  intro w hS
  refine Calls.then (needs_c w x (by omega) (by omega)) hS ?_
  refine zV (v_add rfl rfl rfl (show _ = ((1 + needN x : Nat) : Int) from (w_i64 (by omega) (by omega)).trans (by unfold needN; omega))) rfl ?_
  refine zA rfl <| zN <| cS <| cR <| zM rfl <| ?_
  refine zV (v_indexAddr (lo := 0) rfl rfl rfl Tryz.underlying25 sz_5 rfl (by omega)) rfl ?_
  refine zV (v_load1 rfl rfl one_5 (cellOld (fun h => h) (hW2.get (i := 0) rfl))) rfl ?_
  refine zT (v_gtr rfl rfl rfl) rfl (fun h18 => ?_) (fun h18 => ?_)
  refine zM rfl ?_
  iterate 4 refine WL.sk rfl ?_
  refine zP rfl <| zN <| cT rfl <| cR <| zA rfl <| zA rfl <| zN <| cE <| eR <| eB <| eR <| eB <| eR <| ?_
  refine WE.ret2 (P := Tryz.prog) (.inl rfl) Tryz.results128 rfl rfl ?_
  have e0 : netsR xs = none := (by rw [hy, if_pos (by omega)]; rfl)
  rw [e0]
  exact fun w' h => ⟨rfl, h.frm⟩
  refine zM rfl <| zS (v_move rfl rfl) rfl <| zS (v_len_slice rfl rfl Tryz.underlying25) rfl <| zS (v_move rfl rfl) rfl <| ?_
  refine WL.test (v_lss rfl rfl rfl) (.some rfl rfl rfl) rfl rfl (fun h23 => ?_) (fun h23 => ?_)
  refine zQ rfl <| zN <| cT rfl <| cR <| zA rfl <| zA rfl <| zN <| cE <| eR <| eB <| eR <| eB <| eR <| ?_
  refine WE.ret2 (P := Tryz.prog) (.inl rfl) Tryz.results128 rfl rfl ?_
  have e0 : netsR xs = none := (by rw [hy, if_pos (by omega)]; rfl)
  rw [e0]
  exact fun w' h => ⟨rfl, h.frm⟩
  refine zQ rfl <| zN <| cF rfl <| cK <| eN <| cS <| WC.orders mixed <| rF 7 [0, 1, 2, 3, 5, 6] <| ?_
  have hm : needN x ≤ 4 := (by unfold needN; omega)
  have htl : (zs.take (needN x)).length = needN x := (by rw [List.length_take]; exact Nat.min_eq_left (by omega))
  have hWt := ((hW2.take (1 + needN x)).drop 1)
  have htk : ((x :: zs).take (1 + needN x)).drop 1 = zs.take (needN x) := (by rw [show 1 + needN x = needN x + 1 by omega, List.take_succ_cons]; rfl)
  rw [htk] at hWt
  have hab := addrI_b hWt.bys
  rw [if_neg (by omega)] at hy
  refine pV (v_move rfl rfl) rfl <| pV (v_move rfl rfl) rfl <| pV (v_move rfl rfl) rfl <| ?_
  refine pV ((v_slice_lh (lo := 1) (hi := 1 + needN x) rfl rfl rfl rfl Tryz.underlying25 sz_5 rfl rfl (by omega) (by omega))) rfl ?_
  rw [show 1 + needN x - 1 = (zs.take (needN x)).length by omega]
  refine pV (v_move rfl rfl) rfl ?_
  refine pV (v_indexAddr (lo := 0) rfl rfl rfl Tryz.underlying25 sz_5 rfl (by omega)) rfl ?_
  refine WP.nil <| rA 3 [4, 7, 8, 9] rfl <| ?_
  refine WQ.call _ rfl rfl ck_125 (.none rfl) rfl rfl (fun w hS => Calls.still (getAddr_c w b (sAddr o2 1 c2 1) (c2 - 1) _ (hWt.st hS) (by omega)) hS) ?_
  refine qV (v_load1 rfl rfl one_5 (cellOld (fun h => h) (hW2.get (i := 0) rfl))) rfl ?_
  refine qV (v_conv rfl rfl Tryz.underlying3 Tryz.underlying5 (w_i64 (by omega) (by omega))) rfl ?_
  refine WQ.call _ rfl rfl ck_120 (.none rfl) rfl rfl (fun w hS => Calls.still (Of_c w _ x hab.1 hab.2) hS) <| WQ.nilR <| rO 1 [10, 11] <| zB Tryz.underlying30 sz_177 zero_177 rfl rfl <| ?_
  intro g35 hg35
  refine WL.as (L' := .row g35 (PfL.cells ⟨cutI (addrI (zs.take (needN x))) x, inI x⟩) :: (E ++ [])) rfl <| WL.to (L' := E ++ [.row g35 (PfL.cells ⟨cutI (addrI (zs.take (needN x))) x, inI x⟩)]) (fun w hS => hS.front [_]) <| ?_
  refine WL.appendL rfl rfl rfl Tryz.underlying30 Tryz.underlying30 sz_177 by_177 zero_177 rfl rfl hV (new := PfL.cells ⟨cutI (addrI (zs.take (needN x))) x, inI x⟩) (fun _ => ⟨g35, 0, rfl, fun w hS => allAt (g := g35) w hS⟩) rfl (PfL.cells_one _) (by omega) (.none rfl) rfl rfl ?_
  intro ad36 c36 E36 hV36 hr36
  rw [← pfsL_snoc] at hV36
  rw [show ps.length + 1 = (ps ++ [(⟨cutI (addrI (zs.take (needN x))) x, inI x⟩ : PfL)]).length by rw [List.length_append]; rfl] at hV36 ⊢
  refine zH <| rF 0 [12] <| pV (v_assign rfl rfl) rfl <| WP.nil <| rD <| eN <| WC.region <| zM rfl <| zM rfl <| ?_
  refine zV ((v_slice_lo (lo := 1 + needN x) rfl rfl rfl Tryz.underlying25 sz_5 rfl (by rw [List.length_cons]; omega))) rfl ?_
  refine zA rfl <| WL.nil <| eY <| ?_
  have hd : (x :: zs).drop (1 + needN x) = zs.drop (needN x) := (by rw [show 1 + needN x = needN x + 1 by omega]; rfl)
  have hWd := hW2.drop (1 + needN x)
  rw [hd] at hWd
  exact WE.next (zs.drop (needN x), sAddr o2 (1 + needN x) c2 1, c2 - (1 + needN x), ps ++ [⟨cutI (addrI (zs.take (needN x))) x, inI x⟩], ad36, c36, E36) (by dsimp only; rw [List.length_drop]; omega) ⟨by dsimp only; rw [List.length_drop, List.length_append, List.length_cons, List.length_nil]; omega, hWd, by
    dsimp only
    rw [hy]
    cases netsR (zs.drop (needN x)) with
    | none => rfl
    | some r => simp [Option.map], hV36⟩ (.eq rfl (by dsimp only; rw [List.length_drop, List.length_cons]; congr 1; omega) (.cons rfl .nil)) (List.Sublist.append_left (List.nil_sublist _) _)
  refine zN <| cF rfl <| cX <| eX <| eX <| eH <| eN <| cR <| zM rfl <| zA rfl <| zA rfl <| zN <| cE <| ?_
  refine WE.ret2 (P := Tryz.prog) (.inl rfl) Tryz.results128 rfl rfl ?_
  obtain rfl : ys = [] := List.length_eq_zero_iff.1 (by omega)
  have e0 : netsR xs = some ps := (by rw [hy, netsR]; simp)
  rw [e0]
  exact fun w' h => ⟨ad, cc, E, rfl, hV, h.sub (List.sublist_append_left _ _)⟩

def readI (ys : List Int) : Int := ys.foldl (fun n y => n * 256 + y) 0
theorem readI_snoc (ys : List Int) (y : Int) : readI (ys ++ [y]) = readI ys * 256 + y := by unfold readI; rw [List.foldl_append]; rfl
theorem readI_b : ∀ (k : Nat) (ys : List Int), ys.length = k → Bys ys → 0 ≤ readI ys ∧ readI ys < (256 : Int) ^ k := by
  intro k
  induction k with
  | zero => intro ys h _; rw [List.length_eq_zero_iff.1 h]; decide
  | succ k ih =>
    intro ys h hB
    have hne : ys ≠ [] := fun e => by rw [e] at h; cases h
    obtain ⟨zs, z, rfl⟩ : ∃ zs z, ys = zs ++ [z] := ⟨ys.dropLast, ys.getLast hne, (List.dropLast_concat_getLast hne).symm⟩
    rw [List.length_append, List.length_cons, List.length_nil] at h
    have h1 := ih zs (by omega) (fun x hx => hB x (List.mem_append_left _ hx))
    have h2 := hB z (List.mem_append_right _ (List.mem_cons_self ..))
    rw [readI_snoc, Int.pow_succ]
    omega
set_option maxHeartbeats 1000000 in
theorem read_c (w : World) (b o c : Nat) (ys : List Int) (hW : Win w b o c ys) (hn : ys.length ≤ 6) :
    Calls Tryz.prog 142 #[.slice (some ⟨b, o, none⟩) ys.length c] w fun e w' => e = .returned (.int .i64 (readI ys)) ∧ Frm (fun _ => False) w w' := by
  refine enter Tryz.func142 rfl Tryz.ntmps142 rfl (St.start (fun _ => False) w) ?_
  refine cR <| zA rfl <| zR <| zA rfl <| zN <| cS <| cR <| zM rfl <| zV (v_len_slice rfl rfl Tryz.underlying25) rfl <| zM rfl <| ?_
  refine zN <| cB <| WC.loop (fun k : Nat => [(8, .int .i64 k), (7, .int .i64 ys.length), (6, .slice (some ⟨b, o, none⟩) ys.length c), (3, .int .i64 (readI (ys.take k)))]) (fun _ => []) (fun k => k ≤ ys.length) (fun k => ys.length - k) 0 (Nat.zero_le _) (.cons rfl (.cons rfl (.cons rfl (.cons rfl .nil)))) (.refl _) <| ?_
  intro k hk
  refine cR ?_
  refine zT (v_lss rfl rfl rfl) rfl (fun h9 => ?_) (fun h9 => ?_)
  refine zN <| cS <| cT rfl <| cK <| eN <| cS <| cB <| cR <| ?_
  obtain ⟨x, hx⟩ : ∃ x, ys[k]? = some x := ⟨ys[k]'(by omega), List.getElem?_eq_getElem _⟩
  have hxb := hW.bys x (List.mem_of_getElem? hx)
  have htl : (ys.take k).length = k := (by rw [List.length_take]; exact Nat.min_eq_left (by omega))
  have hrb := readI_b k (ys.take k) htl (fun x hx => hW.bys x (List.mem_of_mem_take hx))
  have hp : (256 : Int) ^ k ≤ 256 ^ 5 := (by
    have : k = 0 ∨ k = 1 ∨ k = 2 ∨ k = 3 ∨ k = 4 ∨ k = 5 := by omega
    rcases this with rfl | rfl | rfl | rfl | rfl | rfl <;> decide)
  have hp5 : (256 : Int) ^ 5 = 1099511627776 := (by decide)
  refine zV (v_indexAddr (lo := k) rfl rfl rfl Tryz.underlying25 sz_5 (by omega) (by omega)) rfl ?_
  refine zV (v_load1 rfl rfl one_5 (cellOld (fun h => h) (hW.get hx))) rfl <| zA rfl <| zN <| WC.region <| zM rfl <| ?_
  refine zV (v_shl (m := 8) (c := 256) rfl rfl rfl rfl (by decide) (by decide) (w_i64 (by omega) (by omega))) rfl ?_
  refine zM rfl ?_
  refine zV (v_conv rfl rfl Tryz.underlying3 Tryz.underlying5 (w_i64 (by omega) (by omega))) rfl ?_
  refine WL.val (v_or rfl rfl rfl (show _ = readI (ys.take (k + 1)) from by
  rw [take_succ_get hx, readI_snoc]
  exact bits_join .i64 63 (by decide) (fun n h1 h2 => w_i64 (by omega) (by omega)) 8 _ _ (by omega) (by omega) (by omega) (by omega) (by omega) (by omega))) (.none rfl) rfl rfl ?_
  refine zA rfl <| WL.nil <| eY <| eN <| WC.region <| ?_
  refine zV (v_add rfl rfl rfl (w_i64 (by omega) (by omega))) rfl ?_
  refine zM rfl <| WL.nil <| ?_
  exact WE.next (k + 1) (by omega) (by omega) (.int rfl (by omega) (.cons rfl (.cons rfl (.cons rfl .nil)))) (.refl _)
  refine zN <| cS <| cF rfl <| cX <| eX <| eX <| eH <| eN <| cR <| zM rfl <| zA rfl <| zN <| cE <| ?_
  refine tR Tryz.results142 rfl ?_
  obtain rfl : k = ys.length := (by omega)
  exact fun w' h => ⟨by rw [List.take_length], h.frm⟩
theorem and_u8 : ∀ n : Nat, n < 256 → bits .and .u8 (n : Int) 16 = (n : Int) / 16 % 2 * 16 ∧ bits .and .u8 (n : Int) 32 = (n : Int) / 32 % 2 * 32 ∧ bits .and .u8 (n : Int) 64 = (n : Int) / 64 % 2 * 64 ∧ bits .and .u8 (n : Int) 128 = (n : Int) / 128 % 2 * 128 ∧ bits .and .i64 (n : Int) 192 = (n : Int) / 64 * 64 := by
  set_option maxRecDepth 20000 in decide
def fromN (xs : List Int) : Nat := if fOf xs 0 / 16 % 2 = 1 then 4 else 3
def toN (xs : List Int) : Nat := fromN xs + (readI ((xs.take (fromN xs)).drop 2)).toNat
def cutV (xs : List Int) : Value := if xs.length < fromN xs then .tuple #[.int .i64 0, .int .i64 0, .bool false] else .tuple #[.int .i64 (fromN xs), .int .i64 (toN xs), .bool (decide (toN xs ≤ xs.length))]
theorem and16 {x : Int} (h : 0 ≤ x ∧ x ≤ 255) : bits .and .u8 x 16 = x / 16 % 2 * 16 := by
  obtain ⟨n, rfl⟩ := Int.eq_ofNat_of_zero_le h.1
  exact (and_u8 n (by omega)).1
set_option maxHeartbeats 1000000 in
theorem cut_c (w : World) (b o c : Nat) (xs : List Int) (hW : Win w b o c xs) (hn : xs.length ≤ 1000000) :
    Calls Tryz.prog 136 #[.slice (some ⟨b, o, none⟩) xs.length c] w fun e w' => e = .returned (cutV xs) ∧ Frm (fun _ => False) w w' := by
  have h0 := fOf_b hW.bys 0
  have hle := hW.le
  refine enter Tryz.func136 rfl Tryz.ntmps136 rfl (St.start (fun _ => False) w) ?_
  refine cR <| zA rfl <| zA rfl <| zA rfl <| zR <| zA rfl <| zN <| ?_
  refine WC.cut (fun _ : Unit => [(5, .int .i64 (fromN xs)), (0, .slice (some ⟨b, o, none⟩) xs.length c)]) (fun _ => []) (fun _ => True) ?_ ?_
  refine cR <| zM rfl <| zV (v_len_slice rfl rfl Tryz.underlying25) rfl <| ?_
  refine zT (v_gtr rfl rfl rfl) rfl (fun h9 => ?_) (fun h9 => ?_)
  refine zM rfl <| zS (v_move rfl rfl) rfl <| ?_
  refine zS (v_indexAddr (lo := 0) rfl rfl rfl Tryz.underlying25 sz_5 rfl (by omega)) rfl ?_
  refine zS (v_load1 rfl rfl one_5 (cellOld (fun h => h) (hW.get (fOf_get (by omega))))) rfl ?_
  refine zS (v_and rfl rfl rfl (and16 h0)) rfl ?_
  refine WL.test (v_neq rfl rfl rfl) (.some rfl rfl rfl) rfl rfl (fun h15 => ?_) (fun h15 => ?_)
  refine zP rfl <| zN <| cT rfl <| WC.region <| zA rfl <| WL.nil <| ?_
  exact WE.mid () trivial (.eq rfl (by unfold fromN; rw [if_pos (by omega)]; rfl) (.cons rfl .nil)) (.refl _)
  refine zP rfl <| zN <| cF rfl <| cK <| ?_
  exact WE.mid () trivial (.eq rfl (by unfold fromN; rw [if_neg (by omega)]; rfl) (.cons rfl .nil)) (.refl _)
  refine zM rfl ?_
  iterate 5 refine WL.sk rfl ?_
  refine zQ rfl <| zN <| cF rfl <| cK <| ?_
  exact WE.mid () trivial (.eq rfl (by unfold fromN; rw [fOf_none (by omega)]; rfl) (.cons rfl .nil)) (.refl _)
  intro _ _
  have hfr : 3 ≤ fromN xs ∧ fromN xs ≤ 4 := (by unfold fromN; split <;> omega)
  refine cS <| cR <| zM rfl <| zV (v_len_slice rfl rfl Tryz.underlying25) rfl <| zM rfl <| ?_
  refine zT (v_lss rfl rfl rfl) rfl (fun h20 => ?_) (fun h20 => ?_)
  refine zN <| cT rfl <| cR <| zA rfl <| zA rfl <| zA rfl <| zN <| cE <| eR <| WE.ret3 (P := Tryz.prog) (.inl rfl) Tryz.results136 rfl rfl rfl <| ?_
  exact fun w' h => ⟨by unfold cutV; rw [if_pos (by omega)], h.frm⟩
  refine zN <| cF rfl <| cK <| eN <| cR <| zM rfl <| zM rfl <| zM rfl <| ?_
  have htl : ((xs.take (fromN xs)).drop 2).length = fromN xs - 2 := (by rw [List.length_drop, List.length_take, Nat.min_eq_left (by omega)])
  have hWt := ((hW.take (fromN xs)).drop 2)
  have hrb := readI_b _ _ htl hWt.bys
  have hp : (256 : Int) ^ (fromN xs - 2) ≤ 65536 := (by
    have : fromN xs - 2 = 1 ∨ fromN xs - 2 = 2 := by omega
    rcases this with e | e <;> rw [e] <;> decide)
  have hto : (toN xs : Int) = fromN xs + readI ((xs.take (fromN xs)).drop 2) := (by unfold toN; omega)
  refine zV ((v_slice_lh (lo := 2) (hi := fromN xs) rfl rfl rfl rfl Tryz.underlying25 sz_5 rfl rfl (by omega) (by omega))) rfl ?_
  rw [← htl]
  refine zK ck_142 rfl ?_
  intro w hS
  refine Calls.then (read_c w b (sAddr o 2 c 1) (c - 2) _ (hWt.st hS) (by omega)) hS ?_
  refine zV (v_add rfl rfl rfl (show _ = (toN xs : Int) from (w_i64 (by omega) (by omega)).trans hto.symm)) rfl ?_
  refine zA rfl <| zR <| zM rfl <| zM rfl <| zM rfl <| zM rfl <| zV (v_len_slice rfl rfl Tryz.underlying25) rfl <| zV (v_leq rfl rfl rfl) rfl <| zA rfl <| zA rfl <| zA rfl <| zN <| ?_
  refine cE <| WE.ret3 (P := Tryz.prog) (.inl rfl) Tryz.results136 rfl rfl rfl <| ?_
  exact fun w' h => ⟨by unfold cutV; rw [if_neg (by omega)]; simp only [Int.ofNat_le], h.frm⟩

def SegOwn (K : List Ent) (s : SegL) : Prop := ∃ E, Vec 1 s.ad s.asl.length s.cap (i64s s.asl) E ∧ ∀ e ∈ E, e ∈ K
def segsL (ss : List SegL) : List Value := ss.flatMap SegL.cells
theorem segsL_snoc (ss : List SegL) (s : SegL) : segsL (ss ++ [s]) = segsL ss ++ s.cells := by unfold segsL; rw [List.flatMap_append, List.flatMap_cons, List.flatMap_nil, List.append_nil]
theorem segsL_get : ∀ {ss : List SegL} {i : Nat} {s : SegL}, ss[i]? = some s → ∀ (j : Nat) (v : Value), s.cells[j]? = some v → (segsL ss)[i * 2 + j]? = some v
  | t :: ss, 0, s, h, j, v, hj => by
    simp only [List.getElem?_cons_zero, Option.some.injEq] at h
    subst h
    have hlt : j < t.cells.length := (List.getElem?_eq_some_iff.1 hj).1
    unfold segsL
    rw [List.flatMap_cons, Nat.zero_mul, Nat.zero_add, List.getElem?_append_left hlt]
    exact hj
  | t :: ss, i + 1, s, h, j, v, hj => by
    rw [List.getElem?_cons_succ] at h
    have ih := segsL_get h j v hj
    unfold segsL at ih ⊢
    rw [List.flatMap_cons, List.getElem?_append_right (by show 2 ≤ _; omega)]
    rw [show (i + 1) * 2 + j - t.cells.length = i * 2 + j by show (i + 1) * 2 + j - 2 = _; omega]
    exact ih
def pathR : List Int → Option (List (Bool × List Int))
  | [] => some []
  | [_] => none
  | x :: n :: xs => if x ≠ 1 ∧ x ≠ 2 ∨ xs.length < 2 * n.toNat then none else (pathR (xs.drop (2 * n.toNat))).map ((decide (x = 1), (List.range n.toNat).map fun i => readI ((xs.drop (2 * i)).take 2)) :: ·)
termination_by xs => xs.length
decreasing_by simp only [List.length_drop, List.length_cons]; omega
def segD (s : SegL) : Bool × List Int := (s.set, s.asl)
def PathP (w w' : World) (r : Option (List (Bool × List Int))) (e : Ending) : Prop :=
  match r with
  | none => e = .returned (.tuple #[.slice none 0 0, .bool false]) ∧ Frm (fun _ => False) w w'
  | some ps => ∃ ss ad c E K, e = .returned (.tuple #[.slice ad ss.length c, .bool (ss.all segB)]) ∧ ss.map segD = ps ∧ Vec 2 ad ss.length c (segsL ss) E ∧ (∀ s ∈ ss, SegOwn K s) ∧ St (fun _ => False) w w' (E ++ K)
theorem pathR_cons (x n : Int) (xs : List Int) : pathR (x :: n :: xs) = if x ≠ 1 ∧ x ≠ 2 ∨ xs.length < 2 * n.toNat then none else (pathR (xs.drop (2 * n.toNat))).map ((decide (x = 1), (List.range n.toNat).map fun i => readI ((xs.drop (2 * i)).take 2)) :: ·) := by rw [pathR]
theorem two_of {ys : List Int} (h : 2 ≤ ys.length) : ∃ x n zs, ys = x :: n :: zs := by
  match ys, h with
  | x :: n :: zs, _ => exact ⟨x, n, zs, rfl⟩
theorem pathR_bad {ys : List Int} (h0 : 0 < ys.length) (h : ys.length < 2 ∨ (fOf ys 0 ≠ 1 ∧ fOf ys 0 ≠ 2)) : pathR ys = none := by
  by_cases h2 : ys.length < 2
  · match ys, h0, h2 with
    | [y], _, _ => rw [pathR]
  · obtain ⟨x, n, zs, rfl⟩ := two_of (ys := ys) (by omega)
    rw [pathR_cons, if_pos]
    rcases h with h | h
    · omega
    · exact .inl h
theorem SegL.rows {w : World} {b o : Nat} {ss : List SegL} (h : w.rangeAt b o (segsL ss)) : RowsAt w (some ⟨b, o, none⟩) 2 SegL.cells ss := fun i s hi => ⟨b, o, rfl, fun j v hj => by
  have := h (i * 2 + j) v (segsL_get hi j v hj)
  rwa [show o + i * 2 + j = o + (i * 2 + j) by omega]⟩
theorem SegOwn.cells {w0 w : World} {p : Nat → Prop} {K L : List Ent} {s : SegL} (h : SegOwn K s) (hm : ∀ e ∈ K, e ∈ L) (hS : St p w0 w L) : CellsAt w s.ad (i64s s.asl) := fun hn => by
  obtain ⟨E, hV, hE⟩ := h
  obtain ⟨b, o, e, hr⟩ := hV.src (fun e he => hm e (hE e he)) hn
  exact ⟨b, o, e, hr _ _ _ hS⟩
theorem segs_rows {w0 w : World} {p : Nat → Prop} {ad : Option Addr} {c : Nat} {ss : List SegL} {E L : List Ent} (hV : Vec 2 ad ss.length c (segsL ss) E) (hm : ∀ e ∈ E, e ∈ L) (hS : St p w0 w L) : RowsAt w ad 2 SegL.cells ss := fun i s hi => by
  have hlt : i < ss.length := (List.getElem?_eq_some_iff.1 hi).1
  obtain ⟨b, o, rfl, hr⟩ := hV.src hm (by rw [hV.len.1]; omega)
  exact SegL.rows (hr _ _ _ hS) i s hi
set_option maxHeartbeats 4000000 in
theorem readPath_c (w0 : World) (b o c : Nat) (xs : List Int) (hW : Win w0 b o c xs) (hn : xs.length ≤ 100000) :
    Calls Tryz.prog 147 #[.slice (some ⟨b, o, none⟩) xs.length c] w0 fun e w' => PathP w0 w' (pathR xs) e := by
  refine enter Tryz.func147 rfl Tryz.ntmps147 rfl (St.start (fun _ => False) w0) ?_
  refine cR <| zA rfl <| zA rfl <| zR <| zA rfl <| zN <| cS <| cB <| ?_
  refine WC.loop (fun x : List Int × Nat × Nat × List SegL × Option Addr × Nat × List Ent × List Ent => [(0, .slice (some ⟨b, x.2.1, none⟩) x.1.length x.2.2.1), (4, .slice x.2.2.2.2.1 x.2.2.2.1.length x.2.2.2.2.2.1)]) (fun x => x.2.2.2.2.2.2.1 ++ x.2.2.2.2.2.2.2) (fun x => x.1.length + x.2.2.2.1.length ≤ xs.length ∧ Win w0 b x.2.1 x.2.2.1 x.1 ∧ pathR xs = (pathR x.1).map (x.2.2.2.1.map segD ++ ·) ∧ Vec 2 x.2.2.2.2.1 x.2.2.2.1.length x.2.2.2.2.2.1 (segsL x.2.2.2.1) x.2.2.2.2.2.2.1 ∧ ∀ s ∈ x.2.2.2.1, SegOwn x.2.2.2.2.2.2.2 s ∧ s.asl.length ≤ 1000 ∧ ∀ y ∈ s.asl, I64 y) (fun x => x.1.length) (xs, o, c, [], none, 0, [], []) ⟨Nat.le_refl _, hW, by dsimp only; cases pathR xs <;> rfl, Vec.nil 2, fun s hs => by cases hs⟩ (.cons rfl (.cons rfl .nil)) (.refl _) ?_
  rintro ⟨ys, o2, c2, ss, ad, cc, E, K⟩ ⟨hl, hW2, hy, hV, hK⟩
  dsimp only at hl hW2 hy hV hK
  dsimp only
  have hle := hW2.le
  have h0 := fOf_b hW2.bys 0
  have h1 := fOf_b hW2.bys 1
  refine cS <| cR <| zM rfl <| zV (v_len_slice rfl rfl Tryz.underlying25) rfl <| ?_
  refine zT (v_gtr rfl rfl rfl) rfl (fun h10 => ?_) (fun h10 => ?_)
  refine zN <| cT rfl <| cK <| eN <| cB <| ?_
  refine WC.cut (fun _ : Unit => [(0, .slice (some ⟨b, o2, none⟩) ys.length c2), (4, .slice ad ss.length cc)]) (fun _ => E ++ K) (fun _ => 2 ≤ ys.length ∧ (fOf ys 0 = 1 ∨ fOf ys 0 = 2)) ?_ ?_
  refine cR <| zM rfl <| zV (v_len_slice rfl rfl Tryz.underlying25) rfl <| ?_
  refine zT (v_lss rfl rfl rfl) rfl (fun h13 => ?_) (fun h13 => ?_)
  refine zM rfl ?_
  iterate 10 refine WL.sk rfl ?_
  refine zP rfl <| zN <| cT rfl <| cR <| zA rfl <| zA rfl <| zN <| cE <| eR <| eB <| eR <| eB <| eR <| ?_
  refine WE.ret2 (P := Tryz.prog) (.inl rfl) Tryz.results147 rfl rfl ?_
  have e0 : pathR xs = none := (by rw [hy, pathR_bad (by omega) (by omega)]; rfl)
  rw [e0]
  exact fun w' h => ⟨rfl, h.frm⟩
  refine zM rfl <| zS (v_move rfl rfl) rfl <| ?_
  refine zS (v_indexAddr (lo := 0) rfl rfl rfl Tryz.underlying25 sz_5 rfl (by omega)) rfl ?_
  refine zS (v_load1 rfl rfl one_5 (cellOld (fun h => h) (hW2.get (fOf_get (by omega))))) rfl ?_
  refine WL.test (v_neq rfl rfl rfl) (.some rfl rfl rfl) rfl rfl (fun h18 => ?_) (fun h18 => ?_)
  refine zS (v_move rfl rfl) rfl <| zS (v_move rfl rfl) rfl <| ?_
  refine zS (v_indexAddr (lo := 0) rfl rfl rfl Tryz.underlying25 sz_5 rfl (by omega)) rfl ?_
  refine zS (v_load1 rfl rfl one_5 (cellOld (fun h => h) (hW2.get (fOf_get (by omega))))) rfl ?_
  refine WL.test (v_neq rfl rfl rfl) (.some rfl rfl rfl) rfl rfl (fun h23 => ?_) (fun h23 => ?_)
  refine zS (v_pick_t rfl rfl rfl) rfl <| zQ rfl <| zN <| cT rfl <| cR <| zA rfl <| zA rfl <| zN <| cE <| eR <| eB <| eR <| eB <| ?_
  refine eR <| WE.ret2 (P := Tryz.prog) (.inl rfl) Tryz.results147 rfl rfl <| ?_
  have e0 : pathR xs = none := (by rw [hy, pathR_bad (by omega) (by omega)]; rfl)
  rw [e0]
  exact fun w' h => ⟨rfl, h.frm⟩
  refine zS (v_pick_t rfl rfl rfl) rfl <| zQ rfl <| zN <| cF rfl <| cK <| ?_
  exact WE.mid () ⟨by omega, by omega⟩ (.cons rfl (.cons rfl .nil)) (.refl _)
  refine zS (v_move rfl rfl) rfl ?_
  iterate 4 refine WL.sk rfl ?_
  refine zS (v_pick_f rfl rfl rfl) rfl <| zQ rfl <| zN <| cF rfl <| cK <| ?_
  exact WE.mid () ⟨by omega, by omega⟩ (.cons rfl (.cons rfl .nil)) (.refl _)
  rintro _ ⟨hy2, hkd⟩
  obtain ⟨x, n, zs, rfl⟩ := two_of hy2
  have hnb : 0 ≤ n ∧ n ≤ 255 := h1
  have hkd' : x = 1 ∨ x = 2 := hkd
  obtain ⟨N, rfl⟩ := Int.eq_ofNat_of_zero_le hnb.1
  rw [pathR_cons, Int.toNat_natCast] at hy
  have hcl : (x :: (N : Int) :: zs).length = zs.length + 2 := rfl
  refine cR <| zM rfl <| ?_
  refine zV (v_indexAddr (lo := 1) rfl rfl rfl Tryz.underlying25 sz_5 rfl (by omega)) rfl ?_
  refine zV (v_load1 rfl rfl one_5 (cellOld (fun h => h) (hW2.get (i := 1) rfl))) rfl ?_
  refine zV (v_conv rfl rfl Tryz.underlying3 Tryz.underlying5 (w_i64 (by omega) (by omega))) rfl ?_
  refine zV (v_mul rfl rfl rfl (show _ = ((2 * N : Nat) : Int) from (w_i64 (by omega) (by omega)).trans (by omega))) rfl ?_
  refine zV (v_add rfl rfl rfl (show _ = ((2 + 2 * N : Nat) : Int) from (w_i64 (by omega) (by omega)).trans (by omega))) rfl ?_
  refine zA rfl <| zN <| cS <| cR <| zM rfl <| zV (v_len_slice rfl rfl Tryz.underlying25) rfl <| zM rfl <| ?_
  refine zT (v_lss rfl rfl rfl) rfl (fun h35 => ?_) (fun h35 => ?_)
  refine zN <| cT rfl <| cR <| zA rfl <| zA rfl <| zN <| cE <| eR <| eB <| eR <| eB <| eR <| WE.ret2 (P := Tryz.prog) (.inl rfl) Tryz.results147 rfl rfl <| ?_
  have e0 : pathR xs = none := (by rw [hy, if_pos (by omega)]; rfl)
  rw [e0]
  exact fun w' h => ⟨rfl, h.frm⟩
  refine zN <| cF rfl <| cK <| eN <| cR <| ?_
  rw [if_neg (by omega)] at hy
  refine zM rfl ?_
  refine zV (v_indexAddr (lo := 0) rfl rfl rfl Tryz.underlying25 sz_5 rfl (by omega)) rfl ?_
  refine zV (v_load1 rfl rfl one_5 (cellOld (fun h => h) (hW2.get (i := 0) rfl))) rfl <| zV (v_eql rfl rfl rfl) rfl <| zV (v_build rfl rfl zero_207 plc_207 rfl) rfl <| WL.alloc rfl zero_207 (.none rfl) rfl rfl <| ?_
  intro g6 hg6
  refine zW many_207 rfl rfl <| zN <| cS <| cR <| zA rfl <| zN <| cB <| ?_
  refine WC.loop (fun y : Nat × List Int × Option Addr × Nat × List Ent => [(7, .int .i64 ((2 + 2 * y.1 : Nat) : Int)), (5, .int .i64 ((2 + 2 * N : Nat) : Int)), (6, .pointer (some ⟨g6, 0, none⟩)), (0, .slice (some ⟨b, o2, none⟩) (x :: (N : Int) :: zs).length c2), (4, .slice ad ss.length cc)]) (fun y => y.2.2.2.2 ++ (.row g6 (SegL.cells ⟨decide (x = 1), y.2.2.1, y.2.2.2.1, y.2.1⟩) :: (E ++ K))) (fun y => y.1 ≤ N ∧ y.2.1 = (List.range y.1).map (fun i => readI ((zs.drop (2 * i)).take 2)) ∧ Vec 1 y.2.2.1 y.2.1.length y.2.2.2.1 (i64s y.2.1) y.2.2.2.2 ∧ ∀ z ∈ y.2.1, I64 z) (fun y => N - y.1) (0, [], none, 0, []) ⟨Nat.zero_le _, rfl, Vec.nil 1, fun z hz => by cases hz⟩ (.cons rfl (.cons rfl (.cons rfl (.cons rfl (.cons rfl .nil))))) (.refl _) ?_
  rintro ⟨i, us, ad6, c6, E6⟩ ⟨hi, hu, hV6, hI6⟩
  dsimp only at hi hu hV6 hI6
  dsimp only
  have hul : us.length = i := (by rw [hu, List.length_map, List.length_range])
  refine cS <| cR <| zM rfl <| zM rfl <| ?_
  refine zT (v_lss rfl rfl rfl) rfl (fun h43 => ?_) (fun h43 => ?_)
  refine zN <| cT rfl <| cK <| eN <| cS <| cB <| WC.orders mixed <| rF 6 [0, 2, 3, 4, 5, 6] <| pV (v_fieldAddr0 rfl rfl fld_207_1) rfl <| ?_
  have hWi := ((hW2.take (2 + 2 * i + 2)).drop (2 + 2 * i))
  have hwe : ((x :: (N : Int) :: zs).take (2 + 2 * i + 2)).drop (2 + 2 * i) = (zs.drop (2 * i)).take 2 := (by
    rw [List.drop_take, show 2 + 2 * i + 2 - (2 + 2 * i) = 2 by omega, show 2 + 2 * i = 2 * i + 1 + 1 by omega]; rfl)
  rw [hwe] at hWi
  have hwl : ((zs.drop (2 * i)).take 2).length = 2 := (by rw [List.length_take, List.length_drop]; omega)
  have hrb := readI_b 2 _ hwl hWi.bys
  have hp2 : (256 : Int) ^ 2 = 65536 := (by decide)
  refine pV (v_move rfl rfl) rfl <| pV (v_move rfl rfl) rfl <| pV (v_move rfl rfl) rfl <| ?_
  refine pV (v_add rfl rfl rfl (show _ = ((2 + 2 * i + 2 : Nat) : Int) from (w_i64 (by omega) (by omega)).trans (by omega))) rfl ?_
  refine pV ((v_slice_lh (lo := 2 + 2 * i) (hi := 2 + 2 * i + 2) rfl rfl rfl rfl Tryz.underlying25 sz_5 rfl rfl (by omega) (by omega))) rfl ?_
  rw [show 2 + 2 * i + 2 - (2 + 2 * i) = ((zs.drop (2 * i)).take 2).length by omega]
  refine WP.nil ?_
  refine WR.each (g := 5) [1, 7] (by kernel_rfl) (by decide) ?_
  refine ⟨?_, ?_⟩
  refine zL rfl one_32 rfl <| zH <| rA 4 [7] rfl <| ?_
  refine WQ.call _ rfl rfl ck_142 (.none rfl) rfl rfl (fun w hS => Calls.still (read_c w b _ _ _ (hWi.st hS) (by omega)) hS) ?_
  refine WQ.nilR <| rO 2 [8, 9] <| zB Tryz.underlying32 sz_3 zero_3 rfl rfl <| ?_
  intro g54 hg54
  refine WL.as (L' := .row g54 (i64s [readI ((zs.drop (2 * i)).take 2)]) :: (E6 ++ (.row g6 (SegL.cells ⟨decide (x = 1), ad6, c6, us⟩) :: (E ++ K)))) rfl <| WL.to (L' := E6 ++ (.row g54 (i64s [readI ((zs.drop (2 * i)).take 2)]) :: .row g6 (SegL.cells ⟨decide (x = 1), ad6, c6, us⟩) :: (E ++ K))) (fun w hS => hS.front [_]) <| ?_
  refine WL.appendL rfl rfl rfl Tryz.underlying32 Tryz.underlying32 sz_3 by_3 zero_3 rfl rfl hV6 (new := i64s [readI ((zs.drop (2 * i)).take 2)]) (fun _ => ⟨g54, 0, rfl, fun w hS => allAt (g := g54) w hS⟩) rfl (i64s_one _) (by dsimp only; omega) (.none rfl) rfl rfl ?_
  intro ad55 c55 E55 hV55 hr55
  rw [← i64s_app] at hV55
  rw [show us.length + 1 = (us ++ [readI ((zs.drop (2 * i)).take 2)]).length by rw [List.length_append]; rfl] at hV55 ⊢
  refine zH <| rF 1 [10] <| pV (v_fieldAddr0 rfl rfl fld_207_1) rfl <| WP.nil <| rO 0 [11] <| zO one_32 rfl rfl <| WL.as (L' := E55 ++ (.row g54 (i64s [readI ((zs.drop (2 * i)).take 2)]) :: .row g6 (SegL.cells ⟨decide (x = 1), ad55, c55, us ++ [readI ((zs.drop (2 * i)).take 2)]⟩) :: (E ++ K))) rfl <| zH <| rD <| eY <| eN <| WC.region <| zM rfl <| ?_
  refine zV (v_add rfl rfl rfl (show _ = ((2 + 2 * (i + 1) : Nat) : Int) from (w_i64 (by omega) (by omega)).trans (by omega))) rfl ?_
  refine zA rfl <| WL.nil <| ?_
  exact WE.next (i + 1, us ++ [readI ((zs.drop (2 * i)).take 2)], ad55, c55, E55) (by dsimp only; omega) ⟨by dsimp only; omega, by dsimp only; rw [hu, List.range_succ, List.map_append]; rfl, hV55, fun z hz => by
  rcases List.mem_append.1 hz with hz | hz
  · exact hI6 z hz
  · rcases List.mem_cons.1 hz with rfl | hz
    · unfold I64; omega
    · cases hz⟩ (.cons rfl (.cons rfl (.cons rfl (.cons rfl (.cons rfl .nil))))) (List.Sublist.append_left (.cons _ (.refl _)) _)
  refine zK ck_142 rfl ?_
  intro w hS
  refine Calls.then (read_c w b _ _ _ (hWi.st hS) (by omega)) hS ?_
  refine zH ?_
  refine WR.each (g := 4) [1, 8] (by kernel_rfl) (by decide) ?_
  refine ⟨?_, ?_⟩
  refine zL rfl one_32 rfl <| zH <| rO 2 [8, 9] <| zB Tryz.underlying32 sz_3 zero_3 rfl rfl <| ?_
  intro g54 hg54
  refine WL.as (L' := .row g54 (i64s [readI ((zs.drop (2 * i)).take 2)]) :: (E6 ++ (.row g6 (SegL.cells ⟨decide (x = 1), ad6, c6, us⟩) :: (E ++ K)))) rfl <| WL.to (L' := E6 ++ (.row g54 (i64s [readI ((zs.drop (2 * i)).take 2)]) :: .row g6 (SegL.cells ⟨decide (x = 1), ad6, c6, us⟩) :: (E ++ K))) (fun w hS => hS.front [_]) <| ?_
  refine WL.appendL rfl rfl rfl Tryz.underlying32 Tryz.underlying32 sz_3 by_3 zero_3 rfl rfl hV6 (new := i64s [readI ((zs.drop (2 * i)).take 2)]) (fun _ => ⟨g54, 0, rfl, fun w hS => allAt (g := g54) w hS⟩) rfl (i64s_one _) (by dsimp only; omega) (.none rfl) rfl rfl ?_
  intro ad55 c55 E55 hV55 hr55
  rw [← i64s_app] at hV55
  rw [show us.length + 1 = (us ++ [readI ((zs.drop (2 * i)).take 2)]).length by rw [List.length_append]; rfl] at hV55 ⊢
  refine zH <| rF 1 [10] <| pV (v_fieldAddr0 rfl rfl fld_207_1) rfl <| WP.nil <| rO 0 [11] <| zO one_32 rfl rfl <| WL.as (L' := E55 ++ (.row g54 (i64s [readI ((zs.drop (2 * i)).take 2)]) :: .row g6 (SegL.cells ⟨decide (x = 1), ad55, c55, us ++ [readI ((zs.drop (2 * i)).take 2)]⟩) :: (E ++ K))) rfl <| zH <| rD <| eY <| eN <| WC.region <| zM rfl <| ?_
  refine zV (v_add rfl rfl rfl (show _ = ((2 + 2 * (i + 1) : Nat) : Int) from (w_i64 (by omega) (by omega)).trans (by omega))) rfl ?_
  refine zA rfl <| WL.nil <| ?_
  exact WE.next (i + 1, us ++ [readI ((zs.drop (2 * i)).take 2)], ad55, c55, E55) (by dsimp only; omega) ⟨by dsimp only; omega, by dsimp only; rw [hu, List.range_succ, List.map_append]; rfl, hV55, fun z hz => by
  rcases List.mem_append.1 hz with hz | hz
  · exact hI6 z hz
  · rcases List.mem_cons.1 hz with rfl | hz
    · unfold I64; omega
    · cases hz⟩ (.cons rfl (.cons rfl (.cons rfl (.cons rfl (.cons rfl .nil))))) (List.Sublist.append_left (.cons _ (.refl _)) _)
  refine zB Tryz.underlying32 sz_3 zero_3 rfl rfl ?_
  intro g54 hg54
  refine WL.as (L' := .row g54 (i64s [readI ((zs.drop (2 * i)).take 2)]) :: (E6 ++ (.row g6 (SegL.cells ⟨decide (x = 1), ad6, c6, us⟩) :: (E ++ K)))) rfl <| WL.to (L' := E6 ++ (.row g54 (i64s [readI ((zs.drop (2 * i)).take 2)]) :: .row g6 (SegL.cells ⟨decide (x = 1), ad6, c6, us⟩) :: (E ++ K))) (fun w hS => hS.front [_]) <| zH <| rA 3 [1] rfl <| qV (v_load1 rfl rfl one_32 (cellAt rfl)) rfl <| WQ.nilR <| rO 2 [9] <| ?_
  refine WL.appendL rfl rfl rfl Tryz.underlying32 Tryz.underlying32 sz_3 by_3 zero_3 rfl rfl hV6 (new := i64s [readI ((zs.drop (2 * i)).take 2)]) (fun _ => ⟨g54, 0, rfl, fun w hS => allAt (g := g54) w hS⟩) rfl (i64s_one _) (by dsimp only; omega) (.none rfl) rfl rfl ?_
  intro ad55 c55 E55 hV55 hr55
  rw [← i64s_app] at hV55
  rw [show us.length + 1 = (us ++ [readI ((zs.drop (2 * i)).take 2)]).length by rw [List.length_append]; rfl] at hV55 ⊢
  refine zH <| rF 1 [10] <| pV (v_fieldAddr0 rfl rfl fld_207_1) rfl <| WP.nil <| rO 0 [11] <| zO one_32 rfl rfl <| WL.as (L' := E55 ++ (.row g54 (i64s [readI ((zs.drop (2 * i)).take 2)]) :: .row g6 (SegL.cells ⟨decide (x = 1), ad55, c55, us ++ [readI ((zs.drop (2 * i)).take 2)]⟩) :: (E ++ K))) rfl <| zH <| rD <| eY <| eN <| WC.region <| zM rfl <| ?_
  refine zV (v_add rfl rfl rfl (show _ = ((2 + 2 * (i + 1) : Nat) : Int) from (w_i64 (by omega) (by omega)).trans (by omega))) rfl ?_
  refine zA rfl <| WL.nil <| ?_
  exact WE.next (i + 1, us ++ [readI ((zs.drop (2 * i)).take 2)], ad55, c55, E55) (by dsimp only; omega) ⟨by dsimp only; omega, by dsimp only; rw [hu, List.range_succ, List.map_append]; rfl, hV55, fun z hz => by
  rcases List.mem_append.1 hz with hz | hz
  · exact hI6 z hz
  · rcases List.mem_cons.1 hz with rfl | hz
    · unfold I64; omega
    · cases hz⟩ (.cons rfl (.cons rfl (.cons rfl (.cons rfl (.cons rfl .nil))))) (List.Sublist.append_left (.cons _ (.refl _)) _)
  refine zN <| cF rfl <| cX <| eX <| eX <| eH <| eN <| cR <| zM rfl <| ?_
  obtain rfl : i = N := (by omega)
  have hsg : (decide (x = 1), (List.range i).map fun i => readI ((zs.drop (2 * i)).take 2)) = segD ⟨decide (x = 1), ad6, c6, us⟩ := (by unfold segD; rw [hu])
  rw [hsg] at hy
  refine zV (v_loadN rfl rfl many_207 rfl allAt) rfl <| zB Tryz.underlying31 sz_207 zero_207 rfl rfl <| ?_
  intro g59 hg59
  refine WL.as (L' := .row g59 (SegL.cells ⟨decide (x = 1), ad6, c6, us⟩) :: (E6 ++ (.row g6 (SegL.cells ⟨decide (x = 1), ad6, c6, us⟩) :: (E ++ K)))) rfl ?_
  refine WL.to (L' := E ++ (.row g59 (SegL.cells ⟨decide (x = 1), ad6, c6, us⟩) :: ((E6 ++ [.row g6 (SegL.cells ⟨decide (x = 1), ad6, c6, us⟩)]) ++ K))) (fun w hS => St.front (R := E) (L := K) (.row g59 (SegL.cells ⟨decide (x = 1), ad6, c6, us⟩) :: (E6 ++ [.row g6 (SegL.cells ⟨decide (x = 1), ad6, c6, us⟩)])) (by simpa [List.append_assoc] using hS)) ?_
  refine WL.appendL rfl rfl rfl Tryz.underlying31 Tryz.underlying31 sz_207 by_207 zero_207 rfl rfl hV (new := SegL.cells ⟨decide (x = 1), ad6, c6, us⟩) (fun _ => ⟨g59, 0, rfl, fun w hS => allAt (g := g59) w hS⟩) rfl rfl (by omega) (.none rfl) rfl rfl ?_
  intro ad60 c60 E60 hV60 hr60
  rw [← segsL_snoc] at hV60
  rw [show ss.length + 1 = (ss ++ [(⟨decide (x = 1), ad6, c6, us⟩ : SegL)]).length by rw [List.length_append]; rfl] at hV60 ⊢
  refine zA rfl <| zN <| WC.region <| zM rfl <| zM rfl <| ?_
  refine zV ((v_slice_lo (lo := 2 + 2 * i) rfl rfl rfl Tryz.underlying25 sz_5 rfl (by omega))) rfl ?_
  refine zA rfl <| WL.nil <| eY <| ?_
  have hd : (x :: (i : Int) :: zs).drop (2 + 2 * i) = zs.drop (2 * i) := (by rw [show 2 + 2 * i = 2 * i + 1 + 1 by omega]; rfl)
  have hWd := hW2.drop (2 + 2 * i)
  rw [hd] at hWd
  exact WE.next (zs.drop (2 * i), sAddr o2 (2 + 2 * i) c2 1, c2 - (2 + 2 * i), ss ++ [⟨decide (x = 1), ad6, c6, us⟩], ad60, c60, E60, E6 ++ K) (by dsimp only; rw [List.length_drop]; omega) ⟨by dsimp only; rw [List.length_drop, List.length_append, List.length_cons, List.length_nil]; omega, hWd, by
    dsimp only
    rw [hy]
    cases pathR (zs.drop (2 * i)) with
    | none => rfl
    | some r => simp [Option.map], hV60, fun s hs => by
    rcases List.mem_append.1 hs with hs | hs
    · obtain ⟨⟨E', h1, h2⟩, h3⟩ := hK s hs
      exact ⟨⟨E', h1, fun e he => List.mem_append_right _ (h2 e he)⟩, h3⟩
    · rcases List.mem_cons.1 hs with rfl | hs
      · exact ⟨⟨E6, hV6, fun e he => List.mem_append_left _ he⟩, by dsimp only; omega, hI6⟩
      · cases hs⟩ (.eq rfl (by dsimp only; rw [List.length_drop, hcl]; congr 1; omega) (.cons rfl .nil)) (List.Sublist.append_left (.cons _ (List.Sublist.append (List.sublist_append_left _ _) (.refl _))) _)
  refine zN <| cF rfl <| cX <| eX <| eX <| eH <| eN <| cR <| zM rfl <| zM rfl <| zK ck_133 rfl <| ?_
  intro w hS
  refine Calls.then (goodPath_c w ad cc ss (segs_rows hV (fun e he => List.mem_append_left _ he) hS) (fun s hs => (hK s hs).1.cells (fun e he => List.mem_append_right _ he) hS) (by omega) (fun s hs => ⟨by have := (hK s hs).2.1; omega, (hK s hs).2.2⟩)) hS ?_
  refine zA rfl <| zA rfl <| zN <| cE <| WE.ret2 (P := Tryz.prog) (.inl rfl) Tryz.results147 rfl rfl <| ?_
  obtain rfl : ys = [] := List.length_eq_zero_iff.1 (by omega)
  have e0 : pathR xs = some (ss.map segD) := (by rw [hy, pathR]; simp)
  rw [e0]
  exact fun w' h => ⟨ss, ad, cc, E, K, rfl, rfl, hV, fun s hs => (hK s hs).1, h⟩

structure AtD where
  has : Int
  origin : Int
  path : List (Bool × List Int)
  hop : Int
  med : Int
  loc : Int
  aas : Int
  aid : Int
  comms : List Int
  others : List (Int × List Int)
def othD (o : OthL) : Int × List Int := (o.ty, o.val)
def AtL.d (a : AtL) : AtD := ⟨a.has, a.origin, a.path.map segD, a.hop, a.med, a.loc, a.aas, a.aid, a.comms, a.others.map othD⟩
structure AtOwn (K : List Ent) (a : AtL) : Prop where
  path : ∃ E, Vec 2 a.pad a.path.length a.pc (segsL a.path) E ∧ ∀ e ∈ E, e ∈ K
  segs : ∀ s ∈ a.path, SegOwn K s
  comms : ∃ E, Vec 1 a.cad a.comms.length a.cc (i64s a.comms) E ∧ ∀ e ∈ E, e ∈ K
theorem AtOwn.mono {K K' : List Ent} {a : AtL} (h : AtOwn K a) (hm : ∀ e ∈ K, e ∈ K') : AtOwn K' a := by
  obtain ⟨⟨E1, p1, p2⟩, hs, ⟨E2, q1, q2⟩⟩ := h
  exact ⟨⟨E1, p1, fun e he => hm e (p2 e he)⟩, fun s h => by obtain ⟨E, r1, r2⟩ := hs s h; exact ⟨E, r1, fun e he => hm e (r2 e he)⟩, ⟨E2, q1, fun e he => hm e (q2 e he)⟩⟩
theorem AtOwn.zero : AtOwn [] .zero := ⟨⟨[], Vec.nil 2, fun _ h => by cases h⟩, (fun _ h => by cases h), ⟨[], Vec.nil 1, fun _ h => by cases h⟩⟩
def fours : List Int → List Int
  | a :: b :: c :: d :: xs => readI [a, b, c, d] :: fours xs
  | _ => []
theorem four_of {xs : List Int} (h : 4 ≤ xs.length) : ∃ a b c d ys, xs = a :: b :: c :: d :: ys := by
  match xs, h with
  | a :: b :: c :: d :: ys, _ => exact ⟨a, b, c, d, ys, rfl⟩
def setD (a : AtD) (t : Nat) (v : List Int) : Option AtD :=
  if t = 1 then some { a with origin := readI v }
  else if t = 2 then (pathR v).map fun p => { a with path := p }
  else if t = 3 then some { a with hop := readI v }
  else if t = 4 then some { a with med := readI v }
  else if t = 5 then some { a with loc := readI v }
  else if t = 7 then some { a with aas := readI (v.take 2), aid := readI (v.drop 2) }
  else if t = 8 then some { a with comms := a.comms ++ fours v }
  else some a
theorem readPath_u (w0 : World) (b o c : Nat) (xs : List Int) (hW : Win w0 b o c xs) (hn : xs.length ≤ 100000) :
    Calls Tryz.prog 147 #[.slice (some ⟨b, o, none⟩) xs.length c] w0 fun e w' => ∃ ss ad c E K ok, e = .returned (.tuple #[.slice ad ss.length c, .bool ok]) ∧ Vec 2 ad ss.length c (segsL ss) E ∧ (∀ s ∈ ss, SegOwn K s) ∧ St (fun _ => False) w0 w' (E ++ K) ∧
      (match pathR xs with | none => ok = false ∧ ss = [] | some ps => ok = ss.all segB ∧ ss.map segD = ps) :=
  (readPath_c w0 b o c xs hW hn).mono fun e w' h => by
    unfold PathP at h
    cases hp : pathR xs with
    | none =>
      rw [hp] at h
      obtain ⟨rfl, hF⟩ := h
      exact ⟨[], none, 0, [], [], false, rfl, Vec.nil 2, (fun _ h => by cases h), (St.start _ _).ext hF, rfl, rfl⟩
    | some ps =>
      rw [hp] at h
      obtain ⟨ss, ad, c, E, K, rfl, rfl, hV, hK, hS⟩ := h
      exact ⟨ss, ad, c, E, K, _, rfl, hV, hK, hS, rfl, rfl⟩
def SetP (w0 w' : World) (ga : Nat) (a : AtL) (t : Nat) (v : List Int) (K L : List Ent) (e : Ending) : Prop :=
  ∃ a' K' ok, e = .returned (.bool ok) ∧ AtOwn K' a' ∧ a'.others = a.others ∧ a'.oad = a.oad ∧ a'.oc = a.oc ∧ (t = 8 ∨ (a'.cad = a.cad ∧ a'.cc = a.cc)) ∧ St (fun _ => False) w0 w' (.row ga a'.cells :: (K' ++ L)) ∧ (∀ e ∈ K, e ∈ K') ∧
    (match setD a.d t v with | none => ok = false | some d => a'.d = d ∧ ok = if t = 2 then a'.path.all segB else true)
set_option maxHeartbeats 4000000 in
theorem set_c (w0 w1 : World) (ga b o c : Nat) (v : List Int) (a : AtL) (t : Nat) (K L : List Ent) (hW : Win w0 b o c v) (hn : v.length ≤ 100000) (hA : AtOwn K a) (hS0 : St (fun _ => False) w0 w1 (.row ga a.cells :: (K ++ L)))
    (h1 : t = 1 → v.length = 1) (h3 : t = 3 ∨ t = 4 ∨ t = 5 → v.length = 4) (h7 : t = 7 → v.length = 6) (h8 : t = 8 → v.length % 4 = 0 ∧ a.cad = none ∧ a.cc = 0 ∧ a.comms = []) :
    Calls Tryz.prog 143 #[.pointer (some ⟨ga, 0, none⟩), .int .i64 t, .slice (some ⟨b, o, none⟩) v.length c] w1 fun e w' => SetP w0 w' ga a t v K L e := by
  refine enter Tryz.func143 rfl Tryz.ntmps143 rfl hS0 ?_
  refine cR <| zA rfl <| zN <| cS <| cR <| zM rfl <| zN <| cB <| cR <| ?_
  refine zT (v_eql rfl rfl rfl) rfl (fun h11 => ?_) (fun h11 => ?_)
  refine zA rfl <| zN <| cT rfl <| WC.region <| zM rfl <| zM rfl <| zK ck_142 rfl <| ?_
  intro w hS
  refine Calls.then (read_c w b o c v (hW.st hS) (by omega)) hS ?_
  refine zC rfl <| zF rfl fld_35_1 <| zO one_3 rfl rfl <| WL.as (L' := .row ga (AtL.cells { a with origin := readI v }) :: (K ++ L)) rfl <| WL.nil <| eY <| eN <| cR <| zA rfl <| zN <| cE <| tR Tryz.results143 rfl <| ?_
  obtain rfl : t = 1 := (by omega)
  exact fun w' h => ⟨{ a with origin := readI v }, K, true, rfl, ⟨hA.path, hA.segs, hA.comms⟩, rfl, rfl, rfl, .inr ⟨rfl, rfl⟩, h, fun _ h => h, rfl, rfl⟩
  refine zA rfl <| zN <| cF rfl <| cR <| ?_
  refine zT (v_eql rfl rfl rfl) rfl (fun h18 => ?_) (fun h18 => ?_)
  refine zA rfl <| zN <| cT rfl <| cR <| zM rfl <| zK ck_147 rfl <| ?_
  intro w1 hS
  refine (readPath_u w1 b o c v (hW.st hS) hn).mono ?_
  rintro e w' ⟨ss, ad, cc, E, K2, ok, rfl, hV, hK, hS', hp⟩
  refine ⟨_, _, rfl, hS.join hS', ?_⟩
  refine zM rfl <| zX rfl <| zX rfl <| zA rfl <| zA rfl <| zR <| zM rfl <| zM rfl <| zC rfl <| zF rfl fld_35_2 <| zO one_31 rfl rfl <| WL.as (L' := (E ++ K2) ++ (.row ga (AtL.cells { a with pad := ad, pc := cc, path := ss }) :: (K ++ L))) rfl <| ?_
  refine zR <| zM rfl <| zA rfl <| zN <| cE <| eB <| eR <| tR Tryz.results143 rfl <| ?_
  obtain rfl : t = 2 := (by omega)
  refine fun w' h => ⟨{ a with pad := ad, pc := cc, path := ss }, E ++ K2 ++ K, ok, rfl, ⟨⟨E, hV, fun e he => List.mem_append_left _ (List.mem_append_left _ he)⟩, fun s hs => ?_, ?_⟩, rfl, rfl, rfl, .inr ⟨rfl, rfl⟩, ?_, fun e he => List.mem_append_right _ he, ?_⟩
  · obtain ⟨E', r1, r2⟩ := hK s hs
    exact ⟨E', r1, fun e he => List.mem_append_left _ (List.mem_append_right _ (r2 e he))⟩
  · obtain ⟨E', r1, r2⟩ := hA.comms
    exact ⟨E', r1, fun e he => List.mem_append_right _ (r2 e he)⟩
  · have h2 := St.front (R := [.row ga (AtL.cells { a with pad := ad, pc := cc, path := ss })]) (L := K ++ L) (E ++ K2) h
    simpa [List.append_assoc] using h2
  · show (match (pathR v).map (fun p => { a.d with path := p }) with | none => _ | some d => _)
    cases hq : pathR v with
    | none => rw [hq] at hp; exact hp.1
    | some ps => rw [hq] at hp; refine ⟨?_, hp.1⟩; rw [← hp.2]; rfl
  refine zA rfl <| zN <| cF rfl <| cR <| ?_
  refine zT (v_eql rfl rfl rfl) rfl (fun h30 => ?_) (fun h30 => ?_)
  refine zA rfl <| zN <| cT rfl <| WC.region <| zM rfl <| zM rfl <| zK ck_142 rfl <| ?_
  intro w hS
  refine Calls.then (read_c w b o c v (hW.st hS) (by omega)) hS ?_
  have hrb := readI_b 4 v (by omega) hW.bys
  have hp4 : (256 : Int) ^ 4 = 4294967296 := (by decide)
  refine zV (v_conv rfl rfl Tryz.underlying23 Tryz.underlying3 (show _ = readI v from (IntKind.wrap_u32' _).trans (by omega))) rfl ?_
  refine zC rfl <| zF rfl fld_35_3 <| zO one_23 rfl rfl <| WL.as (L' := .row ga (AtL.cells { a with hop := readI v }) :: (K ++ L)) rfl <| WL.nil <| eY <| eN <| cR <| zA rfl <| zN <| cE <| tR Tryz.results143 rfl <| ?_
  obtain rfl : t = 3 := (by omega)
  exact fun w' h => ⟨{ a with hop := readI v }, K, true, rfl, ⟨hA.path, hA.segs, hA.comms⟩, rfl, rfl, rfl, .inr ⟨rfl, rfl⟩, h, fun _ h => h, rfl, rfl⟩
  refine zA rfl <| zN <| cF rfl <| cR <| ?_
  refine zT (v_eql rfl rfl rfl) rfl (fun h38 => ?_) (fun h38 => ?_)
  refine zA rfl <| zN <| cT rfl <| WC.region <| zM rfl <| zM rfl <| zK ck_142 rfl <| ?_
  intro w hS
  refine Calls.then (read_c w b o c v (hW.st hS) (by omega)) hS ?_
  refine zC rfl <| zF rfl fld_35_4 <| zO one_3 rfl rfl <| WL.as (L' := .row ga (AtL.cells { a with med := readI v }) :: (K ++ L)) rfl <| WL.nil <| eY <| eN <| cR <| zA rfl <| zN <| cE <| tR Tryz.results143 rfl <| ?_
  obtain rfl : t = 4 := (by omega)
  exact fun w' h => ⟨{ a with med := readI v }, K, true, rfl, ⟨hA.path, hA.segs, hA.comms⟩, rfl, rfl, rfl, .inr ⟨rfl, rfl⟩, h, fun _ h => h, rfl, rfl⟩
  refine zA rfl <| zN <| cF rfl <| cR <| ?_
  refine zT (v_eql rfl rfl rfl) rfl (fun h45 => ?_) (fun h45 => ?_)
  refine zA rfl <| zN <| cT rfl <| WC.region <| zM rfl <| zM rfl <| zK ck_142 rfl <| ?_
  intro w hS
  refine Calls.then (read_c w b o c v (hW.st hS) (by omega)) hS ?_
  refine zC rfl <| zF rfl fld_35_5 <| zO one_3 rfl rfl <| WL.as (L' := .row ga (AtL.cells { a with loc := readI v }) :: (K ++ L)) rfl <| WL.nil <| eY <| eN <| cR <| zA rfl <| zN <| cE <| tR Tryz.results143 rfl <| ?_
  obtain rfl : t = 5 := (by omega)
  exact fun w' h => ⟨{ a with loc := readI v }, K, true, rfl, ⟨hA.path, hA.segs, hA.comms⟩, rfl, rfl, rfl, .inr ⟨rfl, rfl⟩, h, fun _ h => h, rfl, rfl⟩
  refine zA rfl <| zN <| cF rfl <| cR <| ?_
  refine zT (v_eql rfl rfl rfl) rfl (fun h52 => ?_) (fun h52 => ?_)
  refine zA rfl <| zN <| cT rfl <| WC.orders mixed <| rF 9 [0, 1, 2, 3, 5, 6] <| pV (v_move rfl rfl) rfl <| pV (v_move rfl rfl) rfl <| pV (v_move rfl rfl) rfl <| ?_
  have hl6 : v.length = 6 := h7 (by omega)
  have hle := hW.le
  have hWa := hW.take 2
  have hWb := hW.drop 2
  have hla : (v.take 2).length = 2 := (by rw [List.length_take]; omega)
  have hlb : (v.drop 2).length = 4 := (by rw [List.length_drop]; omega)
  have hrb := readI_b 4 (v.drop 2) hlb hWb.bys
  have hp4 : (256 : Int) ^ 4 = 4294967296 := (by decide)
  refine pV ((v_slice_hi (hi := 2) rfl rfl rfl Tryz.underlying25 sz_5 rfl (by omega))) rfl ?_
  refine pV (v_move rfl rfl) rfl ?_
  refine pV ((v_slice_lo (lo := 2) rfl rfl rfl Tryz.underlying25 sz_5 rfl (by omega))) rfl ?_
  refine WP.nil <| rA 7 [4, 7] rfl <| ?_
  refine WQ.call _ rfl rfl ck_142 (.none rfl) rfl rfl (fun w hS => Calls.still (by rw [show (Value.slice (some ⟨b, o, none⟩) 2 c) = .slice (some ⟨b, o, none⟩) (v.take 2).length c by rw [hla]]; exact read_c w b o c (v.take 2) (hWa.st hS) (by omega)) hS) ?_
  refine WQ.call _ rfl rfl ck_142 (.none rfl) rfl rfl (fun w hS => Calls.still (by rw [show v.length - 2 = (v.drop 2).length by omega]; exact read_c w b (sAddr o 2 c 1) (c - 2) (v.drop 2) (hWb.st hS) (by omega)) hS) ?_
  refine WQ.nilR <| rF 4 [8, 9, 10] <| ?_
  refine pV (v_conv rfl rfl Tryz.underlying23 Tryz.underlying3 (show _ = readI (v.drop 2) from (IntKind.wrap_u32' _).trans (by omega))) rfl ?_
  refine pV (v_nilCheck rfl rfl) rfl <| pV (v_fieldAddr0 rfl rfl fld_35_6) rfl <| WP.nil <| rO 3 [11] <| zO one_3 rfl rfl <| zH <| rF 1 [12, 13] <| pV (v_nilCheck rfl rfl) rfl <| pV (v_fieldAddr0 rfl rfl fld_35_7) rfl <| WP.nil <| rO 0 [14] <| zO one_23 rfl rfl <| zH <| rD <| ?_
  refine eY <| eN <| cR <| zA rfl <| zN <| cE <| tR Tryz.results143 rfl <| ?_
  obtain rfl : t = 7 := (by omega)
  exact fun w' h => ⟨{ a with aas := readI (v.take 2), aid := readI (v.drop 2) }, K, true, rfl, ⟨hA.path, hA.segs, hA.comms⟩, rfl, rfl, rfl, .inr ⟨rfl, rfl⟩, h, fun _ h => h, rfl, rfl⟩
  refine zA rfl <| zN <| cF rfl <| cR <| ?_
  refine zT (v_eql rfl rfl rfl) rfl (fun h67 => ?_) (fun h67 => ?_)
  refine zA rfl <| zN <| cT rfl <| cB <| ?_
  refine WC.loop (fun x : List Int × Nat × Nat × List Int × Option Addr × Nat × List Ent => [(0, .pointer (some ⟨ga, 0, none⟩)), (2, .slice (some ⟨b, x.2.1, none⟩) x.1.length x.2.2.1)]) (fun x => x.2.2.2.2.2.2 ++ (.row ga (AtL.cells { a with cad := x.2.2.2.2.1, cc := x.2.2.2.2.2.1, comms := x.2.2.2.1 }) :: (K ++ L))) (fun x => x.1.length % 4 = 0 ∧ x.1.length + x.2.2.2.1.length ≤ v.length ∧ Win w0 b x.2.1 x.2.2.1 x.1 ∧ x.2.2.2.1 ++ fours x.1 = fours v ∧ Vec 1 x.2.2.2.2.1 x.2.2.2.1.length x.2.2.2.2.2.1 (i64s x.2.2.2.1) x.2.2.2.2.2.2) (fun x => x.1.length) (v, o, c, [], none, 0, []) ⟨(h8 (by omega)).1, Nat.le_refl _, hW, rfl, Vec.nil 1⟩ (.cons rfl (.cons rfl .nil)) (by
  obtain ⟨_, e1, e2, e3⟩ := h8 (by omega)
  show List.Sublist (.row ga (AtL.cells { a with cad := none, cc := 0, comms := [] }) :: (K ++ L)) _
  rw [show AtL.cells { a with cad := none, cc := 0, comms := [] } = a.cells by unfold AtL.cells; rw [e1, e2, e3]]
  exact .refl _) ?_
  rintro ⟨ys, o2, c2, cs, ad, cc, E⟩ ⟨hm4, hl, hW2, hy, hV⟩
  dsimp only at hm4 hl hW2 hy hV
  dsimp only
  refine cS <| cR <| zM rfl <| zV (v_len_slice rfl rfl Tryz.underlying25) rfl <| ?_
  refine zT (v_gtr rfl rfl rfl) rfl (fun h70 => ?_) (fun h70 => ?_)
  refine zN <| cT rfl <| cK <| eN <| cS <| cB <| WC.orders mixed <| rF 7 [0, 1, 2, 3, 5, 6] <| ?_
  obtain ⟨x0, x1, x2, x3, zs, rfl⟩ := four_of (xs := ys) (by omega)
  have hcl : (x0 :: x1 :: x2 :: x3 :: zs).length = zs.length + 4 := rfl
  have hle := hW2.le
  have hWa := hW2.take 4
  rw [show (x0 :: x1 :: x2 :: x3 :: zs).take 4 = [x0, x1, x2, x3] from rfl] at hWa
  rw [show fours (x0 :: x1 :: x2 :: x3 :: zs) = readI [x0, x1, x2, x3] :: fours zs from rfl] at hy
  refine pV (v_move rfl rfl) rfl <| pV (v_move rfl rfl) rfl <| pV (v_nilCheck rfl rfl) rfl <| pV (v_fieldAddr0 rfl rfl fld_35_8) rfl <| pV (v_move rfl rfl) rfl <| ?_
  refine pV ((v_slice_hi (hi := 4) rfl rfl rfl Tryz.underlying25 sz_5 rfl (by omega))) rfl ?_
  refine WP.nil ?_
  refine WR.each (g := 6) [4, 7] (by kernel_rfl) (by decide) ?_
  refine ⟨?_, ?_⟩
  refine zL rfl one_32 rfl <| zH <| rA 5 [7] rfl <| ?_
  refine WQ.call _ rfl rfl ck_142 (.none rfl) rfl rfl (fun w hS => Calls.still (read_c w b o2 c2 [x0, x1, x2, x3] (hWa.st hS) (by show 4 ≤ 6; omega)) hS) ?_
  refine WQ.nilR <| rO 3 [8, 9] <| zB Tryz.underlying32 sz_3 zero_3 rfl rfl <| ?_
  intro g81 hg81
  refine WL.as (L' := .row g81 (i64s [readI [x0, x1, x2, x3]]) :: (E ++ (.row ga (AtL.cells { a with cad := ad, cc := cc, comms := cs }) :: (K ++ L)))) rfl <| WL.to (L' := E ++ (.row g81 (i64s [readI [x0, x1, x2, x3]]) :: .row ga (AtL.cells { a with cad := ad, cc := cc, comms := cs }) :: (K ++ L))) (fun w hS => hS.front [_]) <| ?_
  refine WL.appendL rfl rfl rfl Tryz.underlying32 Tryz.underlying32 sz_3 by_3 zero_3 rfl rfl hV (new := i64s [readI [x0, x1, x2, x3]]) (fun _ => ⟨g81, 0, rfl, fun w hS => allAt (g := g81) w hS⟩) rfl (i64s_one _) (by dsimp only; omega) (.none rfl) rfl rfl ?_
  intro ad82 c82 E82 hV82 hr82
  rw [← i64s_app] at hV82
  rw [show cs.length + 1 = (cs ++ [readI [x0, x1, x2, x3]]).length by rw [List.length_append]; rfl] at hV82 ⊢
  refine zH <| rF 1 [10, 11] <| pV (v_nilCheck rfl rfl) rfl <| pV (v_fieldAddr0 rfl rfl fld_35_8) rfl <| WP.nil <| rO 0 [12] <| zO one_32 rfl rfl <| WL.as (L' := E82 ++ (.row g81 (i64s [readI [x0, x1, x2, x3]]) :: .row ga (AtL.cells { a with cad := ad82, cc := c82, comms := cs ++ [readI [x0, x1, x2, x3]] }) :: (K ++ L))) rfl <| zH <| rD <| eY <| eN <| WC.region <| zM rfl <| ?_
  refine zV ((v_slice_lo (lo := 4) rfl rfl rfl Tryz.underlying25 sz_5 rfl (by omega))) rfl ?_
  refine zA rfl <| WL.nil <| ?_
  have hWd := hW2.drop 4
  rw [show (x0 :: x1 :: x2 :: x3 :: zs).drop 4 = zs from rfl] at hWd
  exact WE.next (zs, sAddr o2 4 c2 1, c2 - 4, cs ++ [readI [x0, x1, x2, x3]], ad82, c82, E82) (by dsimp only; omega) ⟨by dsimp only; omega, by dsimp only; rw [List.length_append, List.length_cons, List.length_nil]; omega, hWd, by dsimp only; rw [List.append_assoc]; exact hy, hV82⟩ (.cons rfl (.cons rfl .nil)) (List.Sublist.append_left (.cons _ (.refl _)) _)
  refine zK ck_142 rfl ?_
  intro w hS
  refine Calls.then (read_c w b o2 c2 [x0, x1, x2, x3] (hWa.st hS) (by show 4 ≤ 6; omega)) hS ?_
  refine zH ?_
  refine WR.each (g := 5) [4, 8] (by kernel_rfl) (by decide) ?_
  refine ⟨?_, ?_⟩
  refine zL rfl one_32 rfl <| zH <| rO 3 [8, 9] <| zB Tryz.underlying32 sz_3 zero_3 rfl rfl <| ?_
  intro g81 hg81
  refine WL.as (L' := .row g81 (i64s [readI [x0, x1, x2, x3]]) :: (E ++ (.row ga (AtL.cells { a with cad := ad, cc := cc, comms := cs }) :: (K ++ L)))) rfl <| WL.to (L' := E ++ (.row g81 (i64s [readI [x0, x1, x2, x3]]) :: .row ga (AtL.cells { a with cad := ad, cc := cc, comms := cs }) :: (K ++ L))) (fun w hS => hS.front [_]) <| ?_
  refine WL.appendL rfl rfl rfl Tryz.underlying32 Tryz.underlying32 sz_3 by_3 zero_3 rfl rfl hV (new := i64s [readI [x0, x1, x2, x3]]) (fun _ => ⟨g81, 0, rfl, fun w hS => allAt (g := g81) w hS⟩) rfl (i64s_one _) (by dsimp only; omega) (.none rfl) rfl rfl ?_
  intro ad82 c82 E82 hV82 hr82
  rw [← i64s_app] at hV82
  rw [show cs.length + 1 = (cs ++ [readI [x0, x1, x2, x3]]).length by rw [List.length_append]; rfl] at hV82 ⊢
  refine zH <| rF 1 [10, 11] <| pV (v_nilCheck rfl rfl) rfl <| pV (v_fieldAddr0 rfl rfl fld_35_8) rfl <| WP.nil <| rO 0 [12] <| zO one_32 rfl rfl <| WL.as (L' := E82 ++ (.row g81 (i64s [readI [x0, x1, x2, x3]]) :: .row ga (AtL.cells { a with cad := ad82, cc := c82, comms := cs ++ [readI [x0, x1, x2, x3]] }) :: (K ++ L))) rfl <| zH <| rD <| eY <| eN <| WC.region <| zM rfl <| ?_
  refine zV ((v_slice_lo (lo := 4) rfl rfl rfl Tryz.underlying25 sz_5 rfl (by omega))) rfl ?_
  refine zA rfl <| WL.nil <| ?_
  have hWd := hW2.drop 4
  rw [show (x0 :: x1 :: x2 :: x3 :: zs).drop 4 = zs from rfl] at hWd
  exact WE.next (zs, sAddr o2 4 c2 1, c2 - 4, cs ++ [readI [x0, x1, x2, x3]], ad82, c82, E82) (by dsimp only; omega) ⟨by dsimp only; omega, by dsimp only; rw [List.length_append, List.length_cons, List.length_nil]; omega, hWd, by dsimp only; rw [List.append_assoc]; exact hy, hV82⟩ (.cons rfl (.cons rfl .nil)) (List.Sublist.append_left (.cons _ (.refl _)) _)
  refine zB Tryz.underlying32 sz_3 zero_3 rfl rfl ?_
  intro g81 hg81
  refine WL.as (L' := .row g81 (i64s [readI [x0, x1, x2, x3]]) :: (E ++ (.row ga (AtL.cells { a with cad := ad, cc := cc, comms := cs }) :: (K ++ L)))) rfl <| WL.to (L' := E ++ (.row g81 (i64s [readI [x0, x1, x2, x3]]) :: .row ga (AtL.cells { a with cad := ad, cc := cc, comms := cs }) :: (K ++ L))) (fun w hS => hS.front [_]) <| zH <| rA 4 [4] rfl <| qV (v_load1 rfl rfl one_32 (cellAt rfl)) rfl <| WQ.nilR <| rO 3 [9] <| ?_
  refine WL.appendL rfl rfl rfl Tryz.underlying32 Tryz.underlying32 sz_3 by_3 zero_3 rfl rfl hV (new := i64s [readI [x0, x1, x2, x3]]) (fun _ => ⟨g81, 0, rfl, fun w hS => allAt (g := g81) w hS⟩) rfl (i64s_one _) (by dsimp only; omega) (.none rfl) rfl rfl ?_
  intro ad82 c82 E82 hV82 hr82
  rw [← i64s_app] at hV82
  rw [show cs.length + 1 = (cs ++ [readI [x0, x1, x2, x3]]).length by rw [List.length_append]; rfl] at hV82 ⊢
  refine zH <| rF 1 [10, 11] <| pV (v_nilCheck rfl rfl) rfl <| pV (v_fieldAddr0 rfl rfl fld_35_8) rfl <| WP.nil <| rO 0 [12] <| zO one_32 rfl rfl <| WL.as (L' := E82 ++ (.row g81 (i64s [readI [x0, x1, x2, x3]]) :: .row ga (AtL.cells { a with cad := ad82, cc := c82, comms := cs ++ [readI [x0, x1, x2, x3]] }) :: (K ++ L))) rfl <| zH <| rD <| eY <| eN <| WC.region <| zM rfl <| ?_
  refine zV ((v_slice_lo (lo := 4) rfl rfl rfl Tryz.underlying25 sz_5 rfl (by omega))) rfl ?_
  refine zA rfl <| WL.nil <| ?_
  have hWd := hW2.drop 4
  rw [show (x0 :: x1 :: x2 :: x3 :: zs).drop 4 = zs from rfl] at hWd
  exact WE.next (zs, sAddr o2 4 c2 1, c2 - 4, cs ++ [readI [x0, x1, x2, x3]], ad82, c82, E82) (by dsimp only; omega) ⟨by dsimp only; omega, by dsimp only; rw [List.length_append, List.length_cons, List.length_nil]; omega, hWd, by dsimp only; rw [List.append_assoc]; exact hy, hV82⟩ (.cons rfl (.cons rfl .nil)) (List.Sublist.append_left (.cons _ (.refl _)) _)
  refine zN <| cF rfl <| cX <| eX <| eX <| eH <| eY <| eN <| cR <| zA rfl <| zN <| cE <| tR Tryz.results143 rfl <| ?_
  obtain rfl : t = 8 := (by omega)
  obtain rfl : ys = [] := List.length_eq_zero_iff.1 (by omega)
  have hcs : cs = fours v := (by rw [← hy]; exact (List.append_nil _).symm)
  refine fun w' h => ⟨{ a with cad := ad, cc := cc, comms := cs }, E ++ K, true, rfl, ⟨?_, ?_, ⟨E, hV, fun e he => List.mem_append_left _ he⟩⟩, rfl, rfl, rfl, .inl rfl, ?_, fun e he => List.mem_append_right _ he, ?_, rfl⟩
  · obtain ⟨E', r1, r2⟩ := hA.path
    exact ⟨E', r1, fun e he => List.mem_append_right _ (r2 e he)⟩
  · intro s hs
    obtain ⟨E', r1, r2⟩ := hA.segs s hs
    exact ⟨E', r1, fun e he => List.mem_append_right _ (r2 e he)⟩
  · have h2 := St.front (R := [.row ga (AtL.cells { a with cad := ad, cc := cc, comms := cs })]) (L := K ++ L) E h
    simpa [List.append_assoc] using h2
  · show AtL.d { a with cad := ad, cc := cc, comms := cs } = { a.d with comms := a.comms ++ fours v }
    rw [(h8 rfl).2.2.2, ← hcs]
    rfl
  refine zA rfl <| zN <| cF rfl <| cK <| eY <| eN <| cR <| zA rfl <| zN <| cE <| tR Tryz.results143 rfl <| ?_
  have e0 : setD a.d t v = some a.d := (by unfold setD; rw [if_neg (by omega), if_neg (by omega), if_neg (by omega), if_neg (by omega), if_neg (by omega), if_neg (by omega), if_neg (by omega)])
  exact fun w' h => ⟨a, K, true, rfl, hA, rfl, rfl, rfl, .inr ⟨rfl, rfl⟩, h, fun _ h => h, by rw [e0]; exact ⟨rfl, by rw [if_neg (by omega)]⟩⟩

def sizeI (k : Nat) : Int := if k = 1 then 1 else if k = 2 then -1 else if k = 3 then 4 else if k = 4 then 4 else if k = 5 then 4 else if k = 7 then 6 else if k = 8 then -1 else 0
def GZ (w : World) : Prop := ∀ i, i < 9 → w.cell? ⟨2, i, none⟩ = some (.int .i64 (sizeI i))
theorem GZ.keep {p : Nat → Prop} {w0 w : World} {L : List Ent} (hp : ¬ p 2) (h : GZ w0) (hS : St p w0 w L) : GZ w := fun i hi => hS.old hp (h i hi)
def strOf (xs : List Int) : ByteArray := str (fOf xs) xs.length
theorem and_byte {x : Int} (h : 0 ≤ x ∧ x ≤ 255) : bits .and .u8 x 32 = x / 32 % 2 * 32 ∧ bits .and .u8 x 64 = x / 64 % 2 * 64 ∧ bits .and .u8 x 128 = x / 128 % 2 * 128 ∧ bits .and .i64 x 192 = x / 64 * 64 := by
  obtain ⟨n, rfl⟩ := Int.eq_ofNat_of_zero_le h.1
  exact (and_u8 n (by omega)).2
theorem or_bit : ∀ t : Nat, t < 9 → ∀ n : Nat, n < 512 → n / 2 ^ t % 2 = 0 → n ||| 2 ^ t = n + 2 ^ t := by
  set_option maxRecDepth 20000 in decide +kernel
theorem or_has {h : Int} {t : Nat} (h0 : 0 ≤ h) (h1 : h ≤ 511) (ht : t ≤ 8) (hb : h / 2 ^ t % 2 = 0) : bits .or .i64 h (2 ^ t) = h + 2 ^ t := by
  obtain ⟨n, rfl⟩ := Int.eq_ofNat_of_zero_le h0
  have hp : (2 : Int) ^ t = ((2 ^ t : Nat) : Int) := by simp
  have hp2 : 2 ^ t ≤ 2 ^ 8 := Nat.pow_le_pow_right (by decide) ht
  have key := or_bit t (by omega) n (by omega)
  rw [hp] at hb ⊢
  generalize 2 ^ t = m at hb hp2 key ⊢
  rw [bits_or_i64 (by omega) (by omega) (by omega) (by omega)]
  unfold orN
  rw [Int.toNat_natCast, Int.toNat_natCast, key (by omega)]
  omega
def takeD (d : AtD) (all v : List Int) : AtD ⊕ (Int × ByteArray) :=
  if fOf all 0 / 64 * 64 ≠ flagI (fOf all 1).toNat ∨ (fOf all 0 / 32 % 2 * 32 ≠ 0 ∧ fOf all 0 / 64 * 64 ≠ 192) then .inr (4, strOf all)
  else if (0 ≤ sizeI (fOf all 1).toNat ∧ (v.length : Int) ≠ sizeI (fOf all 1).toNat) ∨ (fOf all 1 = 8 ∧ v.length % 4 ≠ 0) then .inr (5, strOf all)
  else if fOf all 1 = 8 ∧ 256 < v.length / 4 then .inr (9, strOf all)
  else match setD d (fOf all 1).toNat v with
    | none => .inr (11, ⟨#[]⟩)
    | some d' =>
      if fOf all 1 = 2 ∧ (d'.path.all fun p => segB ⟨p.1, none, 0, p.2⟩) = false then .inr (11, ⟨#[]⟩)
      else if fOf all 1 = 1 ∧ wiB d'.origin 2 = false then .inr (6, strOf all)
      else if fOf all 1 = 3 ∧ hopB d'.hop = false then .inr (8, strOf all)
      else .inl { d' with has := d'.has + 2 ^ (fOf all 1).toNat }

def TakeP (w0 w' : World) (ga : Nat) (a : AtL) (all v : List Int) (K L : List Ent) (e : Ending) : Prop :=
  ∃ a' K', AtOwn K' a' ∧ a'.others = a.others ∧ a'.oad = a.oad ∧ a'.oc = a.oc ∧ (fOf all 1 = 8 ∨ (a'.cad = a.cad ∧ a'.cc = a.cc)) ∧ St (fun _ => False) w0 w' (.row ga a'.cells :: (K' ++ L)) ∧ (∀ e ∈ K, e ∈ K') ∧
    (match takeD a.d all v with | .inr (s, d) => e = .returned (.agg (fltL 3 s d).toArray) | .inl d => e = .returned (.agg (fltL 0 0 ⟨#[]⟩).toArray) ∧ a'.d = d)
theorem good_1 (w : World) (a : AtL) : Calls Tryz.prog 122 #[.agg a.cells.toArray, .int .i64 ((1 : Nat) : Int)] w fun e w' => e = .returned (.bool (wiB a.origin 2)) ∧ Frm (fun _ => False) w w' := by
  refine enter Tryz.func122 rfl Tryz.ntmps122 rfl (St.start (fun _ => False) w) ?_
  refine cR <| WL.box rfl rfl rfl (.none rfl) rfl rfl <| ?_
  intro g2 hg2
  refine zA rfl <| zN <| cS <| cR <| zM rfl <| zN <| cB <| cR <| ?_
  refine zV ((v_eql rfl rfl rfl).t (by omega)) rfl ?_
  refine zA rfl <| zN <| cT rfl <| cR <| zF rfl fld_35_1 <| zL rfl one_3 rfl <| zK ck_132 rfl <| ?_
  intro w hS
  refine Calls.then (AWithin_c w a.origin 2) hS ?_
  refine zA rfl <| zN <| cE <| eB <| eR <| tR Tryz.results122 rfl <| ?_
  exact fun w' h => ⟨rfl, h.frm⟩
theorem good_3 (w : World) (a : AtL) : Calls Tryz.prog 122 #[.agg a.cells.toArray, .int .i64 ((3 : Nat) : Int)] w fun e w' => e = .returned (.bool (hopB a.hop)) ∧ Frm (fun _ => False) w w' := by
  refine enter Tryz.func122 rfl Tryz.ntmps122 rfl (St.start (fun _ => False) w) ?_
  refine cR <| WL.box rfl rfl rfl (.none rfl) rfl rfl <| ?_
  intro g2 hg2
  refine zA rfl <| zN <| cS <| cR <| zM rfl <| zN <| cB <| cR <| ?_
  refine zV ((v_eql rfl rfl rfl).f (by omega)) rfl ?_
  refine zA rfl <| zN <| cF rfl <| cR <| ?_
  refine zV ((v_eql rfl rfl rfl).f (by omega)) rfl ?_
  refine zA rfl <| zN <| cF rfl <| cR <| ?_
  refine zV ((v_eql rfl rfl rfl).t (by omega)) rfl ?_
  refine zA rfl <| zN <| cT rfl <| cR <| zF rfl fld_35_3 <| zL rfl one_23 rfl <| zK ck_134 rfl <| ?_
  intro w hS
  refine Calls.then (goodHop_c w a.hop) hS ?_
  refine zA rfl <| zN <| cE <| eB <| eR <| tR Tryz.results122 rfl <| ?_
  exact fun w' h => ⟨rfl, h.frm⟩
theorem setD_keep {d d' : AtD} {t : Nat} {v : List Int} (h : setD d t v = some d') : d'.has = d.has ∧ d'.others = d.others := by
  unfold setD at h
  split at h
  · cases h; exact ⟨rfl, rfl⟩
  split at h
  · obtain ⟨p, _, rfl⟩ := Option.map_eq_some_iff.1 h; exact ⟨rfl, rfl⟩
  split at h
  · cases h; exact ⟨rfl, rfl⟩
  split at h
  · cases h; exact ⟨rfl, rfl⟩
  split at h
  · cases h; exact ⟨rfl, rfl⟩
  split at h
  · cases h; exact ⟨rfl, rfl⟩
  split at h
  · cases h; exact ⟨rfl, rfl⟩
  · cases h; exact ⟨rfl, rfl⟩
theorem pow2_9 : ∀ t : Nat, t ≤ 8 → 1 ≤ (2 : Int) ^ t ∧ (2 : Int) ^ t ≤ 256 := by
  intro t ht
  have : t = 0 ∨ t = 1 ∨ t = 2 ∨ t = 3 ∨ t = 4 ∨ t = 5 ∨ t = 6 ∨ t = 7 ∨ t = 8 := by omega
  rcases this with rfl | rfl | rfl | rfl | rfl | rfl | rfl | rfl | rfl <;> decide
theorem path_all (ss : List SegL) : ((ss.map segD).all fun p => segB ⟨p.1, none, 0, p.2⟩) = ss.all segB := by rw [List.all_map]; rfl
set_option maxHeartbeats 4000000 in
theorem take_c (w0 w1 : World) (ga b oa ca ov cv : Nat) (all v : List Int) (a : AtL) (K L : List Ent) (hG : GF w0) (hZ : GZ w0) (hWa : Win w0 b oa ca all) (hWv : Win w0 b ov cv v) (hn : all.length ≤ 100000) (hnv : v.length ≤ 100000) (h2 : 2 ≤ all.length) (t : Nat) (ht : fOf all 1 = t) (ht1 : 1 ≤ t) (ht8 : t ≤ 8)
    (hA : AtOwn K a) (hh0 : 0 ≤ a.has) (hh1 : a.has ≤ 511) (hb : a.has / 2 ^ t % 2 = 0) (h8 : t = 8 → a.cad = none ∧ a.cc = 0 ∧ a.comms = []) (hS0 : St (fun _ => False) w0 w1 (.row ga a.cells :: (K ++ L))) :
    Calls Tryz.prog 137 #[.pointer (some ⟨ga, 0, none⟩), .slice (some ⟨b, oa, none⟩) all.length ca, .slice (some ⟨b, ov, none⟩) v.length cv] w1 fun e w' => TakeP w0 w' ga a all v K L e := by
  have b0 := fOf_b hWa.bys 0
  have hab := and_byte b0
  refine enter Tryz.func137 rfl Tryz.ntmps137 rfl hS0 ?_
  refine cR <| WL.alloc rfl zero_37 (.none rfl) rfl rfl <| ?_
  intro g6 hg6
  refine zR <| zM rfl <| ?_
  refine zV (v_indexAddr (lo := 1) rfl rfl rfl Tryz.underlying25 sz_5 rfl (by omega)) rfl ?_
  refine zV (v_load1 rfl rfl one_5 (cellOld (fun h => h) (hWa.get (fOf_get (by omega))))) rfl ?_
  refine zV (v_conv rfl rfl Tryz.underlying3 Tryz.underlying5 (w_i64 (by omega) (by omega))) rfl ?_
  rw [ht]
  refine zA rfl <| zR <| zM rfl <| ?_
  refine zV (v_indexAddr (lo := 0) rfl rfl rfl Tryz.underlying25 sz_5 rfl (by omega)) rfl ?_
  refine zV (v_load1 rfl rfl one_5 (cellOld (fun h => h) (hWa.get (fOf_get (by omega))))) rfl ?_
  refine zV (v_conv rfl rfl Tryz.underlying3 Tryz.underlying5 (w_i64 (by omega) (by omega))) rfl ?_
  refine zV (v_and rfl rfl rfl (hab.2.2.2)) rfl <| zA rfl <| zN <| ?_
  refine WC.cut (fun _ : Unit => [(7, .int .i64 t), (0, .pointer (some ⟨ga, 0, none⟩)), (1, .slice (some ⟨b, oa, none⟩) all.length ca), (2, .slice (some ⟨b, ov, none⟩) v.length cv), (6, .pointer (some ⟨g6, 0, none⟩))]) (fun _ => .row g6 (fltL 0 0 ⟨#[]⟩) :: .row ga a.cells :: (K ++ L)) (fun _ => ¬ (fOf all 0 / 64 * 64 ≠ flagI t ∨ (fOf all 0 / 32 % 2 * 32 ≠ 0 ∧ fOf all 0 / 64 * 64 ≠ 192))) ?_ ?_
  refine cR <| zM rfl <| zM rfl <| ?_
  refine zV (v_indexAddrA (lo := t) rfl rfl rfl Tryz.underlying179 sz_3 (by omega) (by omega)) rfl ?_
  refine zV (v_load1 rfl rfl one_3 (cellOld (v := .int .i64 (flagI t)) (fun h => h) (by rw [Nat.zero_add, Nat.mul_one]; exact hG t (by omega)))) rfl ?_
  refine zT (v_neq rfl rfl rfl) rfl (fun h22 => ?_) (fun h22 => ?_)
  refine zM rfl ?_
  iterate 9 refine WL.sk rfl ?_
  refine zP rfl <| zN <| cT rfl <| cR <| zM rfl <| zV (v_convBS (fOf all) rfl rfl Tryz.underlying25 Tryz.underlying5 Tryz.underlying9 (fun w' hS' _ => ⟨b, oa, rfl, rd_u8s (hWa.st hS').at_⟩)) rfl <| zV (v_build rfl rfl zero_37 plc_37 rfl) rfl <| zW many_37 rfl rfl <| zN <| cE <| eR <| tR Tryz.results137 (resRow rfl many_37 rfl) <| ?_
  have e0 : takeD a.d all v = .inr (4, strOf all) := (by unfold takeD; rw [ht, Int.toNat_natCast, if_pos (by omega)])
  exact fun w' h => ⟨a, K, hA, rfl, rfl, rfl, .inr ⟨rfl, rfl⟩, h.sub (.cons _ (.refl _)), fun _ h => h, by rw [e0]; rfl⟩
  refine zM rfl <| zS (v_move rfl rfl) rfl <| ?_
  refine zS (v_indexAddr (lo := 0) rfl rfl rfl Tryz.underlying25 sz_5 rfl (by omega)) rfl ?_
  refine zS (v_load1 rfl rfl one_5 (cellOld (fun h => h) (hWa.get (fOf_get (by omega))))) rfl ?_
  refine zS (v_and rfl rfl rfl (hab.1)) rfl ?_
  refine WL.test (v_neq rfl rfl rfl) (.some rfl rfl rfl) rfl rfl (fun h28 => ?_) (fun h28 => ?_)
  refine zS (v_move rfl rfl) rfl <| zS (v_move rfl rfl) rfl <| ?_
  refine WL.test (v_neq rfl rfl rfl) (.some rfl rfl rfl) rfl rfl (fun h31 => ?_) (fun h31 => ?_)
  refine zS (v_pick_t rfl rfl rfl) rfl <| zQ rfl <| zN <| cT rfl <| cR <| zM rfl <| zV (v_convBS (fOf all) rfl rfl Tryz.underlying25 Tryz.underlying5 Tryz.underlying9 (fun w' hS' _ => ⟨b, oa, rfl, rd_u8s (hWa.st hS').at_⟩)) rfl <| zV (v_build rfl rfl zero_37 plc_37 rfl) rfl <| zW many_37 rfl rfl <| zN <| cE <| eR <| tR Tryz.results137 (resRow rfl many_37 rfl) <| ?_
  have e0 : takeD a.d all v = .inr (4, strOf all) := (by unfold takeD; rw [ht, Int.toNat_natCast, if_pos (by omega)])
  exact fun w' h => ⟨a, K, hA, rfl, rfl, rfl, .inr ⟨rfl, rfl⟩, h.sub (.cons _ (.refl _)), fun _ h => h, by rw [e0]; rfl⟩
  refine zS (v_pick_t rfl rfl rfl) rfl <| zQ rfl <| zN <| cF rfl <| cK <| ?_
  exact WE.mid () (by omega) (.cons rfl (.cons rfl (.cons rfl (.cons rfl (.cons rfl .nil))))) (.refl _)
  refine zS (v_move rfl rfl) rfl ?_
  iterate 2 refine WL.sk rfl ?_
  refine zS (v_pick_f rfl rfl rfl) rfl <| zQ rfl <| zN <| cF rfl <| cK <| ?_
  exact WE.mid () (by omega) (.cons rfl (.cons rfl (.cons rfl (.cons rfl (.cons rfl .nil))))) (.refl _)
  intro _ hfl
  refine WC.cut (fun _ : Unit => [(7, .int .i64 t), (0, .pointer (some ⟨ga, 0, none⟩)), (1, .slice (some ⟨b, oa, none⟩) all.length ca), (2, .slice (some ⟨b, ov, none⟩) v.length cv), (6, .pointer (some ⟨g6, 0, none⟩))]) (fun _ => .row g6 (fltL 0 0 ⟨#[]⟩) :: .row ga a.cells :: (K ++ L)) (fun _ => ¬ ((0 ≤ sizeI t ∧ (v.length : Int) ≠ sizeI t) ∨ (t = 8 ∧ v.length % 4 ≠ 0))) ?_ ?_
  refine cR <| zM rfl <| ?_
  refine zV (v_indexAddrA (lo := t) rfl rfl rfl Tryz.underlying179 sz_3 (by omega) (by omega)) rfl ?_
  refine zV (v_load1 rfl rfl one_3 (cellOld (v := .int .i64 (sizeI t)) (fun h => h) (by rw [Nat.zero_add, Nat.mul_one]; exact hZ t (by omega)))) rfl ?_
  refine zT (v_geq rfl rfl rfl) rfl (fun h40 => ?_) (fun h40 => ?_)
  refine zM rfl <| zS (v_move rfl rfl) rfl <| zS (v_len_slice rfl rfl Tryz.underlying25) rfl <| zS (v_move rfl rfl) rfl <| ?_
  refine zS (v_indexAddrA (lo := t) rfl rfl rfl Tryz.underlying179 sz_3 (by omega) (by omega)) rfl ?_
  refine zS (v_load1 rfl rfl one_3 (cellOld (v := .int .i64 (sizeI t)) (fun h => h) (by rw [Nat.zero_add, Nat.mul_one]; exact hZ t (by omega)))) rfl ?_
  refine WL.test (v_neq rfl rfl rfl) (.some rfl rfl rfl) rfl rfl (fun h47 => ?_) (fun h47 => ?_)
  refine zP rfl <| zM rfl <| ?_
  iterate 8 refine WL.sk rfl ?_
  refine zP rfl <| zN <| cT rfl <| cR <| zM rfl <| zV (v_convBS (fOf all) rfl rfl Tryz.underlying25 Tryz.underlying5 Tryz.underlying9 (fun w' hS' _ => ⟨b, oa, rfl, rd_u8s (hWa.st hS').at_⟩)) rfl <| zV (v_build rfl rfl zero_37 plc_37 rfl) rfl <| zW many_37 rfl rfl <| zN <| cE <| eR <| tR Tryz.results137 (resRow rfl many_37 rfl) <| ?_
  have e0 : takeD a.d all v = .inr (5, strOf all) := (by unfold takeD; rw [ht, Int.toNat_natCast, if_neg hfl, if_pos (by omega)])
  exact fun w' h => ⟨a, K, hA, rfl, rfl, rfl, .inr ⟨rfl, rfl⟩, h.sub (.cons _ (.refl _)), fun _ h => h, by rw [e0]; rfl⟩
  refine zP rfl <| zM rfl <| zS (v_move rfl rfl) rfl <| ?_
  refine WL.test (v_eql rfl rfl rfl) (.some rfl rfl rfl) rfl rfl (fun h51 => ?_) (fun h51 => ?_)
  refine zS (v_move rfl rfl) rfl <| zS (v_move rfl rfl) rfl <| zS (v_len_slice rfl rfl Tryz.underlying25) rfl <| ?_
  refine zS (v_rem rfl rfl rfl (by omega) (by omega)) rfl ?_
  refine WL.test (v_neq rfl rfl rfl) (.some rfl rfl rfl) rfl rfl (fun h56 => ?_) (fun h56 => ?_)
  refine zS (v_pick_t rfl rfl rfl) rfl <| zQ rfl <| zN <| cT rfl <| cR <| zM rfl <| zV (v_convBS (fOf all) rfl rfl Tryz.underlying25 Tryz.underlying5 Tryz.underlying9 (fun w' hS' _ => ⟨b, oa, rfl, rd_u8s (hWa.st hS').at_⟩)) rfl <| zV (v_build rfl rfl zero_37 plc_37 rfl) rfl <| zW many_37 rfl rfl <| zN <| cE <| eR <| tR Tryz.results137 (resRow rfl many_37 rfl) <| ?_
  have e0 : takeD a.d all v = .inr (5, strOf all) := (by unfold takeD; rw [ht, Int.toNat_natCast, if_neg hfl, if_pos (by omega)])
  exact fun w' h => ⟨a, K, hA, rfl, rfl, rfl, .inr ⟨rfl, rfl⟩, h.sub (.cons _ (.refl _)), fun _ h => h, by rw [e0]; rfl⟩
  refine zS (v_pick_t rfl rfl rfl) rfl <| zQ rfl <| zN <| cF rfl <| cK <| ?_
  exact WE.mid () (by omega) (.cons rfl (.cons rfl (.cons rfl (.cons rfl (.cons rfl .nil))))) (.refl _)
  refine zS (v_move rfl rfl) rfl ?_
  iterate 4 refine WL.sk rfl ?_
  refine zS (v_pick_f rfl rfl rfl) rfl <| zQ rfl <| zN <| cF rfl <| cK <| ?_
  exact WE.mid () (by omega) (.cons rfl (.cons rfl (.cons rfl (.cons rfl (.cons rfl .nil))))) (.refl _)
  refine zM rfl ?_
  iterate 6 refine WL.sk rfl ?_
  refine zQ rfl <| zM rfl <| zS (v_move rfl rfl) rfl <| ?_
  refine WL.test (v_eql rfl rfl rfl) (.some rfl rfl rfl) rfl rfl (fun h51 => ?_) (fun h51 => ?_)
  refine zS (v_move rfl rfl) rfl <| zS (v_move rfl rfl) rfl <| zS (v_len_slice rfl rfl Tryz.underlying25) rfl <| ?_
  refine zS (v_rem rfl rfl rfl (by omega) (by omega)) rfl ?_
  refine WL.test (v_neq rfl rfl rfl) (.some rfl rfl rfl) rfl rfl (fun h56 => ?_) (fun h56 => ?_)
  refine zS (v_pick_t rfl rfl rfl) rfl <| zQ rfl <| zN <| cT rfl <| cR <| zM rfl <| zV (v_convBS (fOf all) rfl rfl Tryz.underlying25 Tryz.underlying5 Tryz.underlying9 (fun w' hS' _ => ⟨b, oa, rfl, rd_u8s (hWa.st hS').at_⟩)) rfl <| zV (v_build rfl rfl zero_37 plc_37 rfl) rfl <| zW many_37 rfl rfl <| zN <| cE <| eR <| tR Tryz.results137 (resRow rfl many_37 rfl) <| ?_
  have e0 : takeD a.d all v = .inr (5, strOf all) := (by unfold takeD; rw [ht, Int.toNat_natCast, if_neg hfl, if_pos (by omega)])
  exact fun w' h => ⟨a, K, hA, rfl, rfl, rfl, .inr ⟨rfl, rfl⟩, h.sub (.cons _ (.refl _)), fun _ h => h, by rw [e0]; rfl⟩
  refine zS (v_pick_t rfl rfl rfl) rfl <| zQ rfl <| zN <| cF rfl <| cK <| ?_
  exact WE.mid () (by omega) (.cons rfl (.cons rfl (.cons rfl (.cons rfl (.cons rfl .nil))))) (.refl _)
  refine zS (v_move rfl rfl) rfl ?_
  iterate 4 refine WL.sk rfl ?_
  refine zS (v_pick_f rfl rfl rfl) rfl <| zQ rfl <| zN <| cF rfl <| cK <| ?_
  exact WE.mid () (by omega) (.cons rfl (.cons rfl (.cons rfl (.cons rfl (.cons rfl .nil))))) (.refl _)
  intro _ hsz
  refine WC.cut (fun _ : Unit => [(7, .int .i64 t), (0, .pointer (some ⟨ga, 0, none⟩)), (1, .slice (some ⟨b, oa, none⟩) all.length ca), (2, .slice (some ⟨b, ov, none⟩) v.length cv), (6, .pointer (some ⟨g6, 0, none⟩))]) (fun _ => .row g6 (fltL 0 0 ⟨#[]⟩) :: .row ga a.cells :: (K ++ L)) (fun _ => ¬ (t = 8 ∧ 256 < v.length / 4)) ?_ ?_
  refine cR <| zM rfl <| ?_
  refine zT (v_eql rfl rfl rfl) rfl (fun h63 => ?_) (fun h63 => ?_)
  refine zM rfl <| zS (v_move rfl rfl) rfl <| zS (v_len_slice rfl rfl Tryz.underlying25) rfl <| ?_
  refine zS (v_quo rfl rfl rfl (by omega) (by omega) (w_i64 (by omega) (by omega))) rfl ?_
  refine WL.test (v_gtr rfl rfl rfl) (.some rfl rfl rfl) rfl rfl (fun h68 => ?_) (fun h68 => ?_)
  refine zP rfl <| zN <| cT rfl <| cR <| zM rfl <| zV (v_convBS (fOf all) rfl rfl Tryz.underlying25 Tryz.underlying5 Tryz.underlying9 (fun w' hS' _ => ⟨b, oa, rfl, rd_u8s (hWa.st hS').at_⟩)) rfl <| zV (v_build rfl rfl zero_37 plc_37 rfl) rfl <| zW many_37 rfl rfl <| zN <| cE <| eR <| tR Tryz.results137 (resRow rfl many_37 rfl) <| ?_
  have e0 : takeD a.d all v = .inr (9, strOf all) := (by unfold takeD; rw [ht, Int.toNat_natCast, if_neg hfl, if_neg (by omega), if_pos (by omega)])
  exact fun w' h => ⟨a, K, hA, rfl, rfl, rfl, .inr ⟨rfl, rfl⟩, h.sub (.cons _ (.refl _)), fun _ h => h, by rw [e0]; rfl⟩
  refine zP rfl <| zN <| cF rfl <| cK <| ?_
  exact WE.mid () (by omega) (.cons rfl (.cons rfl (.cons rfl (.cons rfl (.cons rfl .nil))))) (.refl _)
  refine zM rfl ?_
  iterate 4 refine WL.sk rfl ?_
  refine zQ rfl <| zN <| cF rfl <| cK <| ?_
  exact WE.mid () (by omega) (.cons rfl (.cons rfl (.cons rfl (.cons rfl (.cons rfl .nil))))) (.refl _)
  intro _ hmc
  refine WC.to (L' := .row ga a.cells :: (K ++ (.row g6 (fltL 0 0 ⟨#[]⟩) :: L))) (fun w hS => St.front (R := .row ga a.cells :: K) (L := L) [.row g6 (fltL 0 0 ⟨#[]⟩)] hS) <| cS <| cR <| zM rfl <| zM rfl <| zM rfl <| zK ck_143 rfl <| ?_
  intro w1 hS
  refine (set_c w0 w1 ga b ov cv v a t K (.row g6 (fltL 0 0 ⟨#[]⟩) :: L) hWv hnv hA hS (fun e => by subst e; unfold sizeI at hsz; simp at hsz; omega) (fun e => by rcases e with rfl | rfl | rfl <;> (unfold sizeI at hsz; simp at hsz; omega)) (fun e => by subst e; unfold sizeI at hsz; simp at hsz; omega) (fun e => ⟨by omega, h8 e⟩)).mono ?_
  rintro e w' ⟨a', K', ok, rfl, hA', hq1, hq2, hq3, hq4, hS', hKK, hD⟩
  have hq4' : fOf all 1 = 8 ∨ (a'.cad = a.cad ∧ a'.cc = a.cc) := hq4.imp (fun h => by omega) id
  refine ⟨_, _, rfl, hS', ?_⟩
  skip
  cases ok
  refine zV (v_not rfl rfl rfl) rfl <| zN <| cT rfl <| cR <| zV (v_build rfl rfl zero_37 plc_37 rfl) rfl <| zW many_37 rfl rfl <| zN <| cE <| eR <| tR Tryz.results137 (resRow rfl many_37 rfl) <| ?_
  have e0 : takeD a.d all v = .inr (11, ⟨#[]⟩) := (by
    unfold takeD
    rw [ht, Int.toNat_natCast, if_neg hfl, if_neg (by omega), if_neg (by omega)]
    cases hs : setD a.d t v with
    | none => rfl
    | some d' =>
      rw [hs] at hD
      obtain ⟨hd, hok⟩ := hD
      by_cases h2 : t = 2
      · rw [if_pos h2] at hok
        show (if _ then _ else _) = _
        rw [if_pos ⟨by omega, by rw [← hd]; show ((a'.path.map segD).all _) = _; rw [path_all]; exact hok.symm⟩]
      · rw [if_neg h2] at hok; cases hok)
  exact fun w' h => ⟨a', K', hA', hq1, hq2, hq3, hq4', h.sub (.cons_cons _ (List.Sublist.append_left (.cons _ (.refl _)) _)), hKK, by rw [e0]; rfl⟩
  refine zV (v_not rfl rfl rfl) rfl <| zN <| cF rfl <| cK <| eN <| cS <| cR <| ?_
  obtain ⟨d', hs, hd, hgp⟩ : ∃ d', setD a.d t v = some d' ∧ a'.d = d' ∧ (t = 2 → a'.path.all segB = true) := (by
    cases hs : setD a.d t v with
    | none => rw [hs] at hD; cases hD
    | some d' =>
      rw [hs] at hD
      exact ⟨d', rfl, hD.1, fun e => by rw [if_pos e] at hD; exact hD.2.symm⟩)
  have e1 : takeD a.d all v = if t = 1 ∧ wiB a'.origin 2 = false then .inr (6, strOf all) else if t = 3 ∧ hopB a'.hop = false then .inr (8, strOf all) else .inl { a'.d with has := a.has + 2 ^ t } := (by
    unfold takeD
    rw [ht, Int.toNat_natCast, if_neg hfl, if_neg (by omega), if_neg (by omega), hs]
    show (if _ then _ else _) = _
    rw [if_neg (by
      rintro ⟨h2, h3⟩
      rw [← hd] at h3
      have h4 : ((a'.path.map segD).all fun p => segB ⟨p.1, none, 0, p.2⟩) = false := h3
      rw [path_all, hgp (by omega)] at h4
      cases h4), (setD_keep hs).1, ← hd]
    exact ite_congr (propext (by constructor <;> (rintro ⟨h1, h2⟩; exact ⟨by omega, h2⟩))) (fun _ => rfl) (fun _ => ite_congr (propext (by constructor <;> (rintro ⟨h1, h2⟩; exact ⟨by omega, h2⟩))) (fun _ => rfl) (fun _ => rfl)))
  have hhas : a'.has = a.has := (by have := (setD_keep hs).1; rw [← hd] at this; exact this)
  refine zM rfl ?_
  refine zT (v_eql rfl rfl rfl) rfl (fun h80 => ?_) (fun h80 => ?_)
  refine zM rfl ?_
  obtain rfl : t = 1 := (by omega)
  refine zS (v_move rfl rfl) rfl <| zS (v_nilCheck rfl rfl) rfl <| zS (v_loadN rfl rfl many_35 rfl (segAt (m := 10) rfl)) rfl <| zS (v_move rfl rfl) rfl <| WL.call rfl rfl ck_122 (.some rfl rfl rfl) rfl rfl <| ?_
  intro w hS
  refine Calls.then (good_1 w a') hS ?_
  generalize hg : wiB a'.origin 2 = bg
  cases bg
  refine zS (v_not rfl rfl rfl) rfl <| zP rfl <| zN <| cT rfl <| cR <| zM rfl <| zV (v_convBS (fOf all) rfl rfl Tryz.underlying25 Tryz.underlying5 Tryz.underlying9 (fun w' hS' _ => ⟨b, oa, rfl, rd_u8s (hWa.st hS').at_⟩)) rfl <| zV (v_build rfl rfl zero_37 plc_37 rfl) rfl <| zW many_37 rfl rfl <| zN <| cE <| eR <| tR Tryz.results137 (resRow rfl many_37 rfl) <| ?_
  rw [if_pos ⟨rfl, hg⟩] at e1
  exact fun w' h => ⟨a', K', hA', hq1, hq2, hq3, hq4', h.sub (.cons_cons _ (List.Sublist.append_left (.cons _ (.refl _)) _)), hKK, by rw [e1]; rfl⟩
  refine zS (v_not rfl rfl rfl) rfl <| zP rfl <| zN <| cF rfl <| cK <| eN <| cS <| cR <| zM rfl <| ?_
  refine zV ((v_eql rfl rfl rfl).f (by omega)) rfl ?_
  refine zM rfl ?_
  iterate 6 refine WL.sk rfl ?_
  refine zQ rfl <| zN <| cF rfl <| cK <| eN <| cS <| WC.orders mixed <| rF 5 [0, 1, 2, 4, 5] <| ?_
  rw [if_neg (by rintro ⟨_, h⟩; rw [hg] at h; cases h), if_neg (by omega)] at e1
  have hpw := pow2_9 _ ht8
  refine pV (v_move rfl rfl) rfl <| pV (v_nilCheck rfl rfl) rfl <| pV (v_fieldAddr0 rfl rfl fld_35_0) rfl <| pV (v_move rfl rfl) rfl <| ?_
  refine pV (v_shl (m := 1) (c := (2 : Int) ^ 1) rfl rfl rfl rfl (by decide) rfl (show _ = (2 : Int) ^ 1 from by decide)) rfl ?_
  refine WP.nil <| rA 1 [3, 6, 7, 8] rfl <| qV (v_load1 rfl rfl one_3 (cellAt rfl)) rfl <| ?_
  refine qV (v_or rfl rfl rfl (show _ = a.has + 2 ^ 1 from by rw [hhas]; exact or_has hh0 hh1 ht8 hb)) rfl ?_
  refine qV (v_nilCheck rfl rfl) rfl <| qV (v_fieldAddr0 rfl rfl fld_35_0) rfl <| WQ.nilR <| rO 0 [9] <| zO one_3 rfl rfl <| WL.as (L' := .row ga (AtL.cells { a' with has := a.has + 2 ^ 1 }) :: (K' ++ (.row g6 (fltL 0 0 ⟨#[]⟩) :: L))) rfl <| zH <| rD <| eN <| cR <| zV (v_build rfl rfl zero_37 plc_37 rfl) rfl <| zW many_37 rfl rfl <| zN <| ?_
  refine cE <| tR Tryz.results137 (resRow rfl many_37 rfl) <| ?_
  exact fun w' h => ⟨{ a' with has := a.has + 2 ^ 1 }, K', ⟨hA'.path, hA'.segs, hA'.comms⟩, hq1, hq2, hq3, hq4', h.sub (.cons_cons _ (List.Sublist.append_left (.cons _ (.refl _)) _)), hKK, by rw [e1]; exact ⟨rfl, rfl⟩⟩
  refine zM rfl ?_
  iterate 6 refine WL.sk rfl ?_
  refine zQ rfl <| zN <| cF rfl <| cK <| eN <| cS <| cR <| zM rfl <| ?_
  refine zT (v_eql rfl rfl rfl) rfl (fun h93 => ?_) (fun h93 => ?_)
  refine zM rfl ?_
  obtain rfl : t = 3 := (by omega)
  refine zS (v_move rfl rfl) rfl <| zS (v_nilCheck rfl rfl) rfl <| zS (v_loadN rfl rfl many_35 rfl (segAt (m := 10) rfl)) rfl <| zS (v_move rfl rfl) rfl <| WL.call rfl rfl ck_122 (.some rfl rfl rfl) rfl rfl <| ?_
  intro w hS
  refine Calls.then (good_3 w a') hS ?_
  generalize hg3 : hopB a'.hop = bg3
  cases bg3
  refine zS (v_not rfl rfl rfl) rfl <| zP rfl <| zN <| cT rfl <| cR <| zM rfl <| zV (v_convBS (fOf all) rfl rfl Tryz.underlying25 Tryz.underlying5 Tryz.underlying9 (fun w' hS' _ => ⟨b, oa, rfl, rd_u8s (hWa.st hS').at_⟩)) rfl <| zV (v_build rfl rfl zero_37 plc_37 rfl) rfl <| zW many_37 rfl rfl <| zN <| cE <| eR <| tR Tryz.results137 (resRow rfl many_37 rfl) <| ?_
  rw [if_neg (by omega), if_pos ⟨rfl, hg3⟩] at e1
  exact fun w' h => ⟨a', K', hA', hq1, hq2, hq3, hq4', h.sub (.cons_cons _ (List.Sublist.append_left (.cons _ (.refl _)) _)), hKK, by rw [e1]; rfl⟩
  refine zS (v_not rfl rfl rfl) rfl <| zP rfl <| zN <| cF rfl <| cK <| eN <| cS <| WC.orders mixed <| rF 5 [0, 1, 2, 4, 5] <| ?_
  rw [if_neg (by omega), if_neg (by rintro ⟨_, h⟩; rw [hg3] at h; cases h)] at e1
  have hpw := pow2_9 _ ht8
  refine pV (v_move rfl rfl) rfl <| pV (v_nilCheck rfl rfl) rfl <| pV (v_fieldAddr0 rfl rfl fld_35_0) rfl <| pV (v_move rfl rfl) rfl <| ?_
  refine pV (v_shl (m := 3) (c := (2 : Int) ^ 3) rfl rfl rfl rfl (by decide) rfl (show _ = (2 : Int) ^ 3 from by decide)) rfl ?_
  refine WP.nil <| rA 1 [3, 6, 7, 8] rfl <| qV (v_load1 rfl rfl one_3 (cellAt rfl)) rfl <| ?_
  refine qV (v_or rfl rfl rfl (show _ = a.has + 2 ^ 3 from by rw [hhas]; exact or_has hh0 hh1 ht8 hb)) rfl ?_
  refine qV (v_nilCheck rfl rfl) rfl <| qV (v_fieldAddr0 rfl rfl fld_35_0) rfl <| WQ.nilR <| rO 0 [9] <| zO one_3 rfl rfl <| WL.as (L' := .row ga (AtL.cells { a' with has := a.has + 2 ^ 3 }) :: (K' ++ (.row g6 (fltL 0 0 ⟨#[]⟩) :: L))) rfl <| zH <| rD <| eN <| cR <| zV (v_build rfl rfl zero_37 plc_37 rfl) rfl <| zW many_37 rfl rfl <| zN <| ?_
  refine cE <| tR Tryz.results137 (resRow rfl many_37 rfl) <| ?_
  exact fun w' h => ⟨{ a' with has := a.has + 2 ^ 3 }, K', ⟨hA'.path, hA'.segs, hA'.comms⟩, hq1, hq2, hq3, hq4', h.sub (.cons_cons _ (List.Sublist.append_left (.cons _ (.refl _)) _)), hKK, by rw [e1]; exact ⟨rfl, rfl⟩⟩
  refine zM rfl ?_
  iterate 6 refine WL.sk rfl ?_
  refine zQ rfl <| zN <| cF rfl <| cK <| eN <| cS <| WC.orders mixed <| rF 5 [0, 1, 2, 4, 5] <| ?_
  rw [if_neg (by omega), if_neg (by omega)] at e1
  have hpw := pow2_9 _ ht8
  refine pV (v_move rfl rfl) rfl <| pV (v_nilCheck rfl rfl) rfl <| pV (v_fieldAddr0 rfl rfl fld_35_0) rfl <| pV (v_move rfl rfl) rfl <| ?_
  refine pV ((v_shl (m := t) (c := (2 : Int) ^ t) rfl rfl rfl rfl (by show t ≤ 64; omega) rfl (show _ = (2 : Int) ^ t from by rw [Int.one_mul]; exact w_i64 (by omega) (by omega)))) rfl ?_
  refine WP.nil <| rA 1 [3, 6, 7, 8] rfl <| qV (v_load1 rfl rfl one_3 (cellAt rfl)) rfl <| ?_
  refine qV (v_or rfl rfl rfl (show _ = a.has + 2 ^ t from by rw [hhas]; exact or_has hh0 hh1 ht8 hb)) rfl ?_
  refine qV (v_nilCheck rfl rfl) rfl <| qV (v_fieldAddr0 rfl rfl fld_35_0) rfl <| WQ.nilR <| rO 0 [9] <| zO one_3 rfl rfl <| WL.as (L' := .row ga (AtL.cells { a' with has := a.has + 2 ^ t }) :: (K' ++ (.row g6 (fltL 0 0 ⟨#[]⟩) :: L))) rfl <| zH <| rD <| eN <| cR <| zV (v_build rfl rfl zero_37 plc_37 rfl) rfl <| zW many_37 rfl rfl <| zN <| ?_
  refine cE <| tR Tryz.results137 (resRow rfl many_37 rfl) <| ?_
  exact fun w' h => ⟨{ a' with has := a.has + 2 ^ t }, K', ⟨hA'.path, hA'.segs, hA'.comms⟩, hq1, hq2, hq3, hq4', h.sub (.cons_cons _ (List.Sublist.append_left (.cons _ (.refl _)) _)), hKK, by rw [e1]; exact ⟨rfl, rfl⟩⟩

set_option maxHeartbeats 1000000 in
theorem CloneB_c (w : World) (b o c : Nat) (v : List Int) (hW : Win w b o c v) (hn : v.length ≤ 1000000) :
    Calls Tryz.prog 86 #[.slice (some ⟨b, o, none⟩) v.length c] w fun e w' => ∃ x, e = .returned x ∧ OwnB w w' v x := by
  refine enter Tryz.func86 rfl Tryz.ntmps86 rfl (St.start (fun _ => False) w) ?_
  refine cR <| zA rfl <| zN <| cS <| cR <| zM rfl <| zV (v_eql_nil false rfl rfl Tryz.underlying25 rfl) rfl <| zN <| cF rfl <| cK <| eN <| cS <| ?_
  refine WC.region <| zB Tryz.underlying25 sz_5 zero_5 rfl rfl <| ?_
  intro g5 hg5
  refine zM rfl ?_
  refine WL.appendL rfl rfl rfl Tryz.underlying25 Tryz.underlying25 sz_5 by_5 zero_5 rfl rfl (E := [.row g5 []]) (Vec.row (k := 0) (s := 1) (c := 0) rfl rfl (by omega)) (new := u8s v) (fun h => ⟨b, o, rfl, fun w hS' => hS'.rng (fun _ h => h) _ _ _ hW.at_⟩) (by rw [u8s_len]; omega) (u8s_one _) (by omega) (.none rfl) rfl rfl ?_
  intro ad7 c7 E7 hV7 hr7
  refine zA rfl <| zN <| cE <| tR Tryz.results86 rfl <| ?_
  exact fun w' h => ⟨_, rfl, ad7, c7, E7, by rw [Nat.zero_add], by simpa using hV7, h.sub (List.sublist_append_left _ _)⟩
def othsL (os : List OthL) : List Value := os.flatMap OthL.cells
theorem othsL_snoc (os : List OthL) (o : OthL) : othsL (os ++ [o]) = othsL os ++ o.cells := by unfold othsL; rw [List.flatMap_append, List.flatMap_cons, List.flatMap_nil, List.append_nil]
def OthOwn (K : List Ent) (o : OthL) : Prop := ∃ E, BV o.ad o.cap o.val E ∧ ∀ e ∈ E, e ∈ K
def otherD (d : AtD) (all v : List Int) : AtD ⊕ (Int × ByteArray) :=
  if fOf all 0 / 128 % 2 = 0 then .inr (2, strOf all)
  else if fOf all 0 / 64 % 2 ≠ 0 ∧ fOf all 1 ≠ 0 then .inl { d with others := d.others ++ [(fOf all 1, v)] } else .inl d
def OtherP (w0 w' : World) (ga : Nat) (a : AtL) (all v : List Int) (L : List Ent) (e : Ending) : Prop :=
  ∃ ad oc os E' K, Vec 2 ad os.length oc (othsL os) E' ∧ os.length ≤ a.others.length + 1 ∧ (∀ KO, (∀ o ∈ a.others, OthOwn KO o) → ∀ o ∈ os, OthOwn (K ++ KO) o) ∧ St (fun _ => False) w0 w' (E' ++ (K ++ (.row ga (AtL.cells { a with oad := ad, oc := oc, others := os }) :: L))) ∧
    (match otherD a.d all v with | .inr (s, d) => e = .returned (.agg (fltL 3 s d).toArray) | .inl d => e = .returned (.agg (fltL 0 0 ⟨#[]⟩).toArray) ∧ AtL.d { a with oad := ad, oc := oc, others := os } = d)
set_option maxHeartbeats 4000000 in
theorem other_c (w0 w1 : World) (ga b oa ca ov cv : Nat) (all v : List Int) (a : AtL) (E L : List Ent) (hWa : Win w0 b oa ca all) (hWv : Win w0 b ov cv v) (hn : all.length ≤ 100000) (hnv : v.length ≤ 100000) (h2 : 2 ≤ all.length)
    (hV : Vec 2 a.oad a.others.length a.oc (othsL a.others) E) (hol : a.others.length ≤ 100000) (hS0 : St (fun _ => False) w0 w1 (E ++ (.row ga a.cells :: L))) :
    Calls Tryz.prog 138 #[.pointer (some ⟨ga, 0, none⟩), .slice (some ⟨b, oa, none⟩) all.length ca, .slice (some ⟨b, ov, none⟩) v.length cv] w1 fun e w' => OtherP w0 w' ga a all v L e := by
  have b0 := fOf_b hWa.bys 0
  have b1 := fOf_b hWa.bys 1
  have hab := and_byte b0
  refine enter Tryz.func138 rfl Tryz.ntmps138 rfl hS0 ?_
  refine cR <| WL.alloc rfl zero_37 (.none rfl) rfl rfl <| ?_
  intro g6 hg6
  refine zR <| zM rfl <| ?_
  refine zV (v_indexAddr (lo := 1) rfl rfl rfl Tryz.underlying25 sz_5 rfl (by omega)) rfl ?_
  refine zV (v_load1 rfl rfl one_5 (cellOld (fun h => h) (hWa.get (fOf_get (by omega))))) rfl ?_
  refine zV (v_conv rfl rfl Tryz.underlying3 Tryz.underlying5 (w_i64 (by omega) (by omega))) rfl ?_
  refine zA rfl <| zN <| cS <| cR <| zM rfl <| ?_
  refine zV (v_indexAddr (lo := 0) rfl rfl rfl Tryz.underlying25 sz_5 rfl (by omega)) rfl ?_
  refine zV (v_load1 rfl rfl one_5 (cellOld (fun h => h) (hWa.get (fOf_get (by omega))))) rfl ?_
  refine zV (v_and rfl rfl rfl (hab.2.2.1)) rfl ?_
  refine zT (v_eql rfl rfl rfl) rfl (fun h16 => ?_) (fun h16 => ?_)
  refine zN <| cT rfl <| cR <| zM rfl <| zV (v_convBS (fOf all) rfl rfl Tryz.underlying25 Tryz.underlying5 Tryz.underlying9 (fun w' hS' _ => ⟨b, oa, rfl, rd_u8s (hWa.st hS').at_⟩)) rfl <| zV (v_build rfl rfl zero_37 plc_37 rfl) rfl <| zW many_37 rfl rfl <| zN <| cE <| eR <| tR Tryz.results138 (resRow rfl many_37 rfl) <| ?_
  have e0 : otherD a.d all v = .inr (2, strOf all) := (by unfold otherD; rw [if_pos (by omega)])
  exact fun w' h => ⟨a.oad, a.oc, a.others, E, [], hV, Nat.le_succ _, fun KO h => h, h.sub (.cons _ (.refl _)), by rw [e0]; rfl⟩
  refine zN <| cF rfl <| cK <| eN <| cS <| cR <| zM rfl <| ?_
  refine zV (v_indexAddr (lo := 0) rfl rfl rfl Tryz.underlying25 sz_5 rfl (by omega)) rfl ?_
  refine zV (v_load1 rfl rfl one_5 (cellOld (fun h => h) (hWa.get (fOf_get (by omega))))) rfl ?_
  refine zV (v_and rfl rfl rfl (hab.2.1)) rfl ?_
  refine zT (v_neq rfl rfl rfl) rfl (fun h24 => ?_) (fun h24 => ?_)
  refine zM rfl <| zS (v_move rfl rfl) rfl <| ?_
  refine WL.test (v_neq rfl rfl rfl) (.some rfl rfl rfl) rfl rfl (fun h27 => ?_) (fun h27 => ?_)
  refine zP rfl <| zN <| cT rfl <| WC.orders mixed <| rF 8 [0, 1, 2, 3, 5, 6] <| pV (v_move rfl rfl) rfl <| pV (v_move rfl rfl) rfl <| pV (v_nilCheck rfl rfl) rfl <| pV (v_fieldAddr0 rfl rfl fld_35_9) rfl <| pV (v_move rfl rfl) rfl <| pV (v_move rfl rfl) rfl <| WP.nil <| ?_
  refine WR.each (g := 7) [4, 7] (by kernel_rfl) (by decide) ?_
  refine ⟨?_, ?_⟩
  refine zL rfl one_33 rfl <| zH <| rO 6 [7] <| zK ck_86 rfl <| ?_
  intro w1 hS
  refine (CloneB_c w1 b ov cv v (hWv.st hS) (by omega)).mono ?_
  rintro e w' ⟨_, rfl, ad36, c36, E36, rfl, hV36, hS'⟩
  refine ⟨_, _, rfl, hS.join hS', ?_⟩
  refine zH <| rF 5 [8] <| pV (v_build rfl rfl zero_181 plc_181 rfl) rfl <| WP.nil <| rO 3 [9, 10] <| zB Tryz.underlying33 sz_181 zero_181 rfl rfl <| ?_
  intro g38 hg38
  refine WL.as (L' := .row g38 (OthL.cells ⟨fOf all 1, ad36, c36, v⟩) :: (E36 ++ (.row g6 (fltL 0 0 ⟨#[]⟩) :: (E ++ (.row ga a.cells :: L))))) rfl ?_
  refine WL.to (L' := E ++ (.row g38 (OthL.cells ⟨fOf all 1, ad36, c36, v⟩) :: (E36 ++ (.row g6 (fltL 0 0 ⟨#[]⟩) :: .row ga a.cells :: L)))) (fun w hS => by
    have := St.front (R := E) (L := .row ga a.cells :: L) (.row g38 (OthL.cells ⟨fOf all 1, ad36, c36, v⟩) :: (E36 ++ [.row g6 (fltL 0 0 ⟨#[]⟩)])) (by simpa only [List.cons_append, List.append_assoc, List.nil_append] using hS)
    simpa only [List.cons_append, List.append_assoc, List.nil_append] using this) ?_
  refine WL.appendL rfl rfl rfl Tryz.underlying33 Tryz.underlying33 sz_181 by_181 zero_181 rfl rfl hV (new := OthL.cells ⟨fOf all 1, ad36, c36, v⟩) (fun _ => ⟨g38, 0, rfl, fun w hS => allAt (g := g38) w hS⟩) rfl rfl (by omega) (.none rfl) rfl rfl ?_
  intro ad39 c39 E39 hV39 hr39
  rw [← othsL_snoc] at hV39
  rw [show a.others.length + 1 = (a.others ++ [(⟨fOf all 1, ad36, c36, v⟩ : OthL)]).length by rw [List.length_append]; rfl] at hV39 ⊢
  refine zH <| rF 1 [11, 12] <| pV (v_nilCheck rfl rfl) rfl <| pV (v_fieldAddr0 rfl rfl fld_35_9) rfl <| WP.nil <| rO 0 [13] <| zO one_33 rfl rfl <| WL.as (L' := E39 ++ (.row g38 (OthL.cells ⟨fOf all 1, ad36, c36, v⟩) :: (E36 ++ (.row g6 (fltL 0 0 ⟨#[]⟩) :: .row ga (AtL.cells { a with oad := ad39, oc := c39, others := a.others ++ [⟨fOf all 1, ad36, c36, v⟩] }) :: L)))) rfl <| zH <| rD <| eN <| cR <| zV (v_build rfl rfl zero_37 plc_37 rfl) rfl <| ?_
  refine zW many_37 rfl rfl <| zN <| cE <| tR Tryz.results138 (resRow rfl many_37 rfl) <| ?_
  have e0 : otherD a.d all v = .inl { a.d with others := a.d.others ++ [(fOf all 1, v)] } := (by unfold otherD; rw [if_neg (by omega), if_pos ⟨by omega, by omega⟩])
  refine fun w' h => ⟨ad39, c39, a.others ++ [⟨fOf all 1, ad36, c36, v⟩], E39, E36, hV39, by rw [List.length_append]; exact Nat.le_refl _, ?_, h.sub (List.Sublist.append_left (.cons _ (List.Sublist.append_left (.cons _ (.refl _)) _)) _), ?_⟩
  · intro KO hK o ho
    rcases List.mem_append.1 ho with ho | ho
    · obtain ⟨E', r1, r2⟩ := hK o ho
      exact ⟨E', r1, fun e he => List.mem_append_right _ (r2 e he)⟩
    · rcases List.mem_cons.1 ho with rfl | ho
      · exact ⟨E36, hV36, fun e he => List.mem_append_left _ he⟩
      · cases ho
  · rw [e0]
    refine ⟨rfl, ?_⟩
    show AtD.mk _ _ _ _ _ _ _ _ _ (List.map othD (a.others ++ [⟨fOf all 1, ad36, c36, v⟩])) = _
    rw [List.map_append]
    rfl
  refine zK ck_86 rfl ?_
  intro w1 hS
  refine (CloneB_c w1 b ov cv v (hWv.st hS) (by omega)).mono ?_
  rintro e w' ⟨_, rfl, ad36, c36, E36, rfl, hV36, hS'⟩
  refine ⟨_, _, rfl, hS.join hS', ?_⟩
  refine zH <| rF 6 [8] <| pV (v_build rfl rfl zero_181 plc_181 rfl) rfl <| WP.nil <| ?_
  refine WR.each (g := 5) [4, 9] (by kernel_rfl) (by decide) ?_
  refine ⟨?_, ?_⟩
  refine zL rfl one_33 rfl <| zH <| rO 3 [9, 10] <| zB Tryz.underlying33 sz_181 zero_181 rfl rfl <| ?_
  intro g38 hg38
  refine WL.as (L' := .row g38 (OthL.cells ⟨fOf all 1, ad36, c36, v⟩) :: (E36 ++ (.row g6 (fltL 0 0 ⟨#[]⟩) :: (E ++ (.row ga a.cells :: L))))) rfl ?_
  refine WL.to (L' := E ++ (.row g38 (OthL.cells ⟨fOf all 1, ad36, c36, v⟩) :: (E36 ++ (.row g6 (fltL 0 0 ⟨#[]⟩) :: .row ga a.cells :: L)))) (fun w hS => by
    have := St.front (R := E) (L := .row ga a.cells :: L) (.row g38 (OthL.cells ⟨fOf all 1, ad36, c36, v⟩) :: (E36 ++ [.row g6 (fltL 0 0 ⟨#[]⟩)])) (by simpa only [List.cons_append, List.append_assoc, List.nil_append] using hS)
    simpa only [List.cons_append, List.append_assoc, List.nil_append] using this) ?_
  refine WL.appendL rfl rfl rfl Tryz.underlying33 Tryz.underlying33 sz_181 by_181 zero_181 rfl rfl hV (new := OthL.cells ⟨fOf all 1, ad36, c36, v⟩) (fun _ => ⟨g38, 0, rfl, fun w hS => allAt (g := g38) w hS⟩) rfl rfl (by omega) (.none rfl) rfl rfl ?_
  intro ad39 c39 E39 hV39 hr39
  rw [← othsL_snoc] at hV39
  rw [show a.others.length + 1 = (a.others ++ [(⟨fOf all 1, ad36, c36, v⟩ : OthL)]).length by rw [List.length_append]; rfl] at hV39 ⊢
  refine zH <| rF 1 [11, 12] <| pV (v_nilCheck rfl rfl) rfl <| pV (v_fieldAddr0 rfl rfl fld_35_9) rfl <| WP.nil <| rO 0 [13] <| zO one_33 rfl rfl <| WL.as (L' := E39 ++ (.row g38 (OthL.cells ⟨fOf all 1, ad36, c36, v⟩) :: (E36 ++ (.row g6 (fltL 0 0 ⟨#[]⟩) :: .row ga (AtL.cells { a with oad := ad39, oc := c39, others := a.others ++ [⟨fOf all 1, ad36, c36, v⟩] }) :: L)))) rfl <| zH <| rD <| eN <| cR <| zV (v_build rfl rfl zero_37 plc_37 rfl) rfl <| ?_
  refine zW many_37 rfl rfl <| zN <| cE <| tR Tryz.results138 (resRow rfl many_37 rfl) <| ?_
  have e0 : otherD a.d all v = .inl { a.d with others := a.d.others ++ [(fOf all 1, v)] } := (by unfold otherD; rw [if_neg (by omega), if_pos ⟨by omega, by omega⟩])
  refine fun w' h => ⟨ad39, c39, a.others ++ [⟨fOf all 1, ad36, c36, v⟩], E39, E36, hV39, by rw [List.length_append]; exact Nat.le_refl _, ?_, h.sub (List.Sublist.append_left (.cons _ (List.Sublist.append_left (.cons _ (.refl _)) _)) _), ?_⟩
  · intro KO hK o ho
    rcases List.mem_append.1 ho with ho | ho
    · obtain ⟨E', r1, r2⟩ := hK o ho
      exact ⟨E', r1, fun e he => List.mem_append_right _ (r2 e he)⟩
    · rcases List.mem_cons.1 ho with rfl | ho
      · exact ⟨E36, hV36, fun e he => List.mem_append_left _ he⟩
      · cases ho
  · rw [e0]
    refine ⟨rfl, ?_⟩
    show AtD.mk _ _ _ _ _ _ _ _ _ (List.map othD (a.others ++ [⟨fOf all 1, ad36, c36, v⟩])) = _
    rw [List.map_append]
    rfl
  refine zB Tryz.underlying33 sz_181 zero_181 rfl rfl ?_
  intro g38 hg38
  refine WL.as (L' := .row g38 (OthL.cells ⟨fOf all 1, ad36, c36, v⟩) :: (E36 ++ (.row g6 (fltL 0 0 ⟨#[]⟩) :: (E ++ (.row ga a.cells :: L))))) rfl ?_
  refine WL.to (L' := E ++ (.row g38 (OthL.cells ⟨fOf all 1, ad36, c36, v⟩) :: (E36 ++ (.row g6 (fltL 0 0 ⟨#[]⟩) :: .row ga a.cells :: L)))) (fun w hS => by
    have := St.front (R := E) (L := .row ga a.cells :: L) (.row g38 (OthL.cells ⟨fOf all 1, ad36, c36, v⟩) :: (E36 ++ [.row g6 (fltL 0 0 ⟨#[]⟩)])) (by simpa only [List.cons_append, List.append_assoc, List.nil_append] using hS)
    simpa only [List.cons_append, List.append_assoc, List.nil_append] using this) ?_
  refine zH <| rA 4 [4] rfl <| qV (v_load1 rfl rfl one_33 (cellAt rfl)) rfl <| WQ.nilR <| rO 3 [10] <| ?_
  refine WL.appendL rfl rfl rfl Tryz.underlying33 Tryz.underlying33 sz_181 by_181 zero_181 rfl rfl hV (new := OthL.cells ⟨fOf all 1, ad36, c36, v⟩) (fun _ => ⟨g38, 0, rfl, fun w hS => allAt (g := g38) w hS⟩) rfl rfl (by omega) (.none rfl) rfl rfl ?_
  intro ad39 c39 E39 hV39 hr39
  rw [← othsL_snoc] at hV39
  rw [show a.others.length + 1 = (a.others ++ [(⟨fOf all 1, ad36, c36, v⟩ : OthL)]).length by rw [List.length_append]; rfl] at hV39 ⊢
  refine zH <| rF 1 [11, 12] <| pV (v_nilCheck rfl rfl) rfl <| pV (v_fieldAddr0 rfl rfl fld_35_9) rfl <| WP.nil <| rO 0 [13] <| zO one_33 rfl rfl <| WL.as (L' := E39 ++ (.row g38 (OthL.cells ⟨fOf all 1, ad36, c36, v⟩) :: (E36 ++ (.row g6 (fltL 0 0 ⟨#[]⟩) :: .row ga (AtL.cells { a with oad := ad39, oc := c39, others := a.others ++ [⟨fOf all 1, ad36, c36, v⟩] }) :: L)))) rfl <| zH <| rD <| eN <| cR <| zV (v_build rfl rfl zero_37 plc_37 rfl) rfl <| ?_
  refine zW many_37 rfl rfl <| zN <| cE <| tR Tryz.results138 (resRow rfl many_37 rfl) <| ?_
  have e0 : otherD a.d all v = .inl { a.d with others := a.d.others ++ [(fOf all 1, v)] } := (by unfold otherD; rw [if_neg (by omega), if_pos ⟨by omega, by omega⟩])
  refine fun w' h => ⟨ad39, c39, a.others ++ [⟨fOf all 1, ad36, c36, v⟩], E39, E36, hV39, by rw [List.length_append]; exact Nat.le_refl _, ?_, h.sub (List.Sublist.append_left (.cons _ (List.Sublist.append_left (.cons _ (.refl _)) _)) _), ?_⟩
  · intro KO hK o ho
    rcases List.mem_append.1 ho with ho | ho
    · obtain ⟨E', r1, r2⟩ := hK o ho
      exact ⟨E', r1, fun e he => List.mem_append_right _ (r2 e he)⟩
    · rcases List.mem_cons.1 ho with rfl | ho
      · exact ⟨E36, hV36, fun e he => List.mem_append_left _ he⟩
      · cases ho
  · rw [e0]
    refine ⟨rfl, ?_⟩
    show AtD.mk _ _ _ _ _ _ _ _ _ (List.map othD (a.others ++ [⟨fOf all 1, ad36, c36, v⟩])) = _
    rw [List.map_append]
    rfl
  refine zP rfl <| zN <| cF rfl <| cK <| eN <| cR <| zV (v_build rfl rfl zero_37 plc_37 rfl) rfl <| zW many_37 rfl rfl <| zN <| cE <| tR Tryz.results138 (resRow rfl many_37 rfl) <| ?_
  have e0 : otherD a.d all v = .inl a.d := (by unfold otherD; rw [if_neg (by omega), if_neg (by omega)])
  exact fun w' h => ⟨a.oad, a.oc, a.others, E, [], hV, Nat.le_succ _, fun KO h => h, h.sub (.cons _ (.refl _)), by rw [e0]; exact ⟨rfl, rfl⟩⟩
  refine zM rfl ?_
  iterate 2 refine WL.sk rfl ?_
  refine zQ rfl <| zN <| cF rfl <| cK <| eN <| cR <| zV (v_build rfl rfl zero_37 plc_37 rfl) rfl <| zW many_37 rfl rfl <| zN <| cE <| tR Tryz.results138 (resRow rfl many_37 rfl) <| ?_
  have e0 : otherD a.d all v = .inl a.d := (by unfold otherD; rw [if_neg (by omega), if_neg (by omega)])
  exact fun w' h => ⟨a.oad, a.oc, a.others, E, [], hV, Nat.le_succ _, fun KO h => h, h.sub (.cons _ (.refl _)), by rw [e0]; exact ⟨rfl, rfl⟩⟩

theorem fromN_b (xs : List Int) : 3 ≤ fromN xs ∧ fromN xs ≤ 4 := by unfold fromN; split <;> omega
theorem toN_ge (xs : List Int) : fromN xs ≤ toN xs := by unfold toN; omega
def stepD (d : AtD) (all v : List Int) : AtD ⊕ (Int × ByteArray) := if 1 ≤ fOf all 1 ∧ fOf all 1 ≤ 8 then takeD d all v else otherD d all v
def decD (d : AtD) (seen : List Int) (xs : List Int) : AtD ⊕ (Int × ByteArray) :=
  if _h : xs.length = 0 then .inl d
  else if xs.length < fromN xs ∨ xs.length < toN xs ∨ fOf xs 1 ∈ seen then .inr (1, ⟨#[]⟩)
  else match stepD d (xs.take (toN xs)) ((xs.take (toN xs)).drop (fromN xs)) with
    | .inr f => .inr f
    | .inl d' => decD d' (fOf xs 1 :: seen) (xs.drop (toN xs))
termination_by xs.length
decreasing_by have := fromN_b xs; have := toN_ge xs; rw [List.length_drop]; omega
theorem decD_nil (d : AtD) (seen : List Int) : decD d seen [] = .inl d := by rw [decD]; rfl
theorem decD_bad {d : AtD} {seen xs : List Int} (h0 : 0 < xs.length) (h : xs.length < fromN xs ∨ xs.length < toN xs ∨ fOf xs 1 ∈ seen) : decD d seen xs = .inr (1, ⟨#[]⟩) := by
  rw [decD, dif_neg (by omega), if_pos h]
theorem decD_step {d : AtD} {seen xs : List Int} (h0 : 0 < xs.length) (h : ¬ (xs.length < fromN xs ∨ xs.length < toN xs ∨ fOf xs 1 ∈ seen)) : decD d seen xs = match stepD d (xs.take (toN xs)) ((xs.take (toN xs)).drop (fromN xs)) with
    | .inr f => .inr f
    | .inl d' => decD d' (fOf xs 1 :: seen) (xs.drop (toN xs)) := by
  rw [decD, dif_neg (by omega), if_neg h]
structure SeenI (d : AtD) (seen : List Int) : Prop where
  h0 : 0 ≤ d.has
  h1 : d.has ≤ 511
  bit : ∀ t : Nat, t ≤ 8 → (t = 0 ∨ (t : Int) ∉ seen) → d.has / 2 ^ t % 2 = 0
  com : (8 : Int) ∉ seen → d.comms = []
  nd : (d.others.map (·.1)).Nodup
  sub : ∀ t ∈ d.others.map (·.1), t ∈ seen
theorem bits_le : ∀ t : Nat, t < 9 → ∀ n : Nat, n < 512 → n / 2 ^ t % 2 = 0 → n + 2 ^ t ≤ 511 := by
  set_option maxRecDepth 20000 in decide +kernel
theorem bits_add : ∀ t : Nat, t < 9 → ∀ s : Nat, s < 9 → s ≠ t → ∀ n : Nat, n < 512 → n / 2 ^ t % 2 = 0 → (n + 2 ^ t) / 2 ^ s % 2 = n / 2 ^ s % 2 := by
  set_option maxRecDepth 20000 in decide +kernel
theorem pow_cast (t : Nat) : (2 : Int) ^ t = ((2 ^ t : Nat) : Int) := by simp
theorem bits_addI {h : Int} {t : Nat} (h0 : 0 ≤ h) (h1 : h ≤ 511) (ht : t ≤ 8) (hb : h / 2 ^ t % 2 = 0) : h + 2 ^ t ≤ 511 ∧ ∀ s : Nat, s ≤ 8 → s ≠ t → (h + 2 ^ t) / 2 ^ s % 2 = h / 2 ^ s % 2 := by
  obtain ⟨n, rfl⟩ := Int.eq_ofNat_of_zero_le h0
  rw [pow_cast] at hb ⊢
  have hb' : n / 2 ^ t % 2 = 0 := by exact_mod_cast hb
  have a := bits_le t (by omega) n (by omega) hb'
  refine ⟨by omega, fun s hs hne => ?_⟩
  have := bits_add t (by omega) s (by omega) hne n (by omega) hb'
  rw [pow_cast]
  exact_mod_cast this
theorem takeD_keep {d d' : AtD} {all v : List Int} (h : takeD d all v = .inl d') : d'.has = d.has + 2 ^ (fOf all 1).toNat ∧ (fOf all 1 ≠ 8 → d'.comms = d.comms) ∧ d'.others = d.others := by
  unfold takeD at h
  split at h
  · cases h
  split at h
  · cases h
  split at h
  · cases h
  split at h
  · cases h
  rename_i d2 hs
  split at h
  · cases h
  split at h
  · cases h
  split at h
  · cases h
  cases h
  refine ⟨by rw [(setD_keep hs).1], fun hne => ?_, (setD_keep hs).2⟩
  unfold setD at hs
  show d2.comms = d.comms
  split at hs
  · cases hs; rfl
  split at hs
  · obtain ⟨p, _, rfl⟩ := Option.map_eq_some_iff.1 hs; rfl
  split at hs
  · cases hs; rfl
  split at hs
  · cases hs; rfl
  split at hs
  · cases hs; rfl
  split at hs
  · cases hs; rfl
  split at hs
  · omega
  · cases hs; rfl
theorem otherD_keep {d d' : AtD} {all v : List Int} (h : otherD d all v = .inl d') : d'.has = d.has ∧ d'.comms = d.comms ∧ (d'.others = d.others ∨ d'.others = d.others ++ [(fOf all 1, v)]) := by
  unfold otherD at h
  split at h
  · cases h
  split at h
  · cases h; exact ⟨rfl, rfl, .inr rfl⟩
  · cases h; exact ⟨rfl, rfl, .inl rfl⟩
theorem SeenI.step {d d' : AtD} {seen all v : List Int} (h : SeenI d seen) (hB : Bys all) (hn : fOf all 1 ∉ seen) (hs : stepD d all v = .inl d') : SeenI d' (fOf all 1 :: seen) := by
  have hb := fOf_b hB 1
  unfold stepD at hs
  split at hs
  · rename_i hk
    obtain ⟨k1, k2, k3⟩ := takeD_keep hs
    obtain ⟨t, ht⟩ := Int.eq_ofNat_of_zero_le hb.1
    rw [ht, Int.toNat_natCast] at k1
    rw [ht] at k2 hn hk ⊢
    have hbt := h.bit t (by omega) (.inr hn)
    obtain ⟨a, b⟩ := bits_addI h.h0 h.h1 (by omega : t ≤ 8) hbt
    refine ⟨by rw [k1]; have := h.h0; have := (pow2_9 t (by omega)).1; omega, by rw [k1]; exact a, fun s hs8 hns => ?_, fun h8 => ?_, by rw [k3]; exact h.nd, by rw [k3]; exact fun x hx => List.mem_cons_of_mem _ (h.sub x hx)⟩
    · have hne : s ≠ t := by
        rcases hns with rfl | hns
        · omega
        · rintro rfl; exact hns (List.mem_cons_self ..)
      rw [k1, b s hs8 hne]
      exact h.bit s hs8 (hns.imp id fun hns hm => hns (List.mem_cons_of_mem _ hm))
    · rw [k2 (by rintro e; exact h8 (by rw [show ((t : Nat) : Int) = 8 from e]; exact List.mem_cons_self ..))]
      exact h.com fun hm => h8 (List.mem_cons_of_mem _ hm)
  · obtain ⟨k1, k2, k3⟩ := otherD_keep hs
    refine ⟨by rw [k1]; exact h.h0, by rw [k1]; exact h.h1, fun s hs8 hns => ?_, fun h8 => ?_, ?_, ?_⟩
    · rw [k1]; exact h.bit s hs8 (hns.imp id fun hns hm => hns (List.mem_cons_of_mem _ hm))
    · rw [k2]; exact h.com fun hm => h8 (List.mem_cons_of_mem _ hm)
    · rcases k3 with e | e <;> rw [e]
      · exact h.nd
      · rw [List.map_append, List.nodup_append]
        refine ⟨h.nd, by simp, fun x hx y hy e => ?_⟩
        have : y = fOf all 1 := by simpa using hy
        subst this e
        exact hn (h.sub _ hx)
    · rcases k3 with e | e <;> rw [e]
      · exact fun x hx => List.mem_cons_of_mem _ (h.sub x hx)
      · intro x hx
        rw [List.map_append] at hx
        rcases List.mem_append.1 hx with hx | hx
        · exact List.mem_cons_of_mem _ (h.sub x hx)
        · have : x = fOf all 1 := by simpa using hx
          subst this; exact List.mem_cons_self ..
def sortO (os : List (Int × List Int)) : List (Int × List Int) := os.mergeSort fun x y => decide (x.1 ≤ y.1)
theorem nd_inj {α β : Type} {f : α → β} : ∀ {l : List α}, (l.map f).Nodup → ∀ a ∈ l, ∀ b ∈ l, f a = f b → a = b
  | [], _, a, ha, _, _, _ => by cases ha
  | x :: l, h, a, ha, b, hb, e => by
    rw [List.map_cons, List.nodup_cons] at h
    rcases List.mem_cons.1 ha with h1 | h1 <;> rcases List.mem_cons.1 hb with h2 | h2
    · rw [h1, h2]
    · exact absurd (List.mem_map.2 ⟨b, h2, by rw [← e, h1]⟩) h.1
    · exact absurd (List.mem_map.2 ⟨a, h1, by rw [e, h2]⟩) h.1
    · exact nd_inj h.2 a h1 b h2 e
theorem sortO_asc (os : List (Int × List Int)) : (sortO os).Pairwise (fun x y => x.1 ≤ y.1) := by
  have := List.pairwise_mergeSort (le := fun (x y : Int × List Int) => decide (x.1 ≤ y.1)) (fun a b c h1 h2 => by simp only [decide_eq_true_eq] at *; omega) (fun a b => by simp only [Bool.or_eq_true, decide_eq_true_eq]; omega) os
  exact this.imp fun h => by simpa using h
theorem sortO_perm (os : List (Int × List Int)) : (sortO os).Perm os := List.mergeSort_perm _ _
theorem sortO_is {os ps : List (Int × List Int)} (hp : os.Perm ps) (hnd : (ps.map (·.1)).Nodup) (ha : os.Pairwise (fun x y => x.1 ≤ y.1)) : os = sortO ps := by
  have hq : os.Perm (sortO ps) := hp.trans (sortO_perm ps).symm
  refine List.Perm.eq_of_pairwise (le := fun x y => x.1 ≤ y.1) (fun a b h1 h2 h3 h4 => ?_) ha (sortO_asc ps) hq
  have hnd' : (os.map (·.1)).Nodup := (hp.map _).nodup_iff.2 hnd
  exact nd_inj hnd' a h1 b (hq.mem_iff.2 h2) (by omega)
end Go.Proofs.YtcmpamnhegndnaaGreatDoor
namespace Go.Proofs.YtcmpamnhegndnaaGreatDoor
open Go.RowKit Go.Sort Go.Shelf

theorem gs_ext : ∀ a b : World, a.heap = b.heap → a.tape = b.tape → a.drawn = b.drawn → a.os = b.os → a.output = b.output → a = b := by
  rintro ⟨⟩ ⟨⟩ h1 h2 h3 h4 h5
  dsimp only at h1 h2 h3 h4 h5
  subst h1 h2 h3 h4 h5
  rfl
theorem Frm.grows {w w' : World} (h : Frm (fun _ => False) w w') : ∃ q os', w' = Go.Sort.grow (w.drewN q) os' := by
  refine ⟨w'.drawn - w.drawn, (w'.heap.toList.drop w.heap.size).toArray, ?_⟩
  have h1 := h.drawn
  have hh : w'.heap = w.heap ++ (w'.heap.toList.drop w.heap.size).toArray := by
    apply Array.ext_getElem?
    intro k
    rw [Array.getElem?_append]
    split
    · rename_i hk; exact h.block k hk (fun h => h)
    · rename_i hk
      simp only [List.getElem?_toArray, List.getElem?_drop, Array.getElem?_toList]
      rw [show w.heap.size + (k - w.heap.size) = k by omega]
  exact gs_ext _ _ hh h.tape (by show w'.drawn = w.drawn + (w'.drawn - w.drawn); omega) h.os h.output
def encL {α : Type} (enc : α → List Value) : List α → List Value
  | [] => []
  | x :: xs => enc x ++ encL enc xs
theorem encL_len {α : Type} {enc : α → List Value} {k : Nat} (hk : ∀ x, (enc x).length = k) : ∀ xs : List α, (encL enc xs).length = xs.length * k
  | [] => by simp [encL]
  | x :: xs => by
    show (enc x ++ encL enc xs).length = _
    rw [List.length_append, encL_len hk xs, hk, List.length_cons, Nat.add_mul, Nat.one_mul]; omega
theorem encL_seg {α : Type} {enc : α → List Value} {k : Nat} (hk : ∀ x, (enc x).length = k) : ∀ (xs : List α) (i : Nat) (x : α), xs[i]? = some x → ((encL enc xs).drop (i * k)).take k = enc x
  | [], _, _, h => by simp at h
  | y :: xs, 0, x, h => by
    simp only [List.getElem?_cons_zero, Option.some.injEq] at h
    subst h
    show ((enc y ++ encL enc xs).drop (0 * k)).take k = _
    rw [Nat.zero_mul, List.drop_zero, List.take_left' (hk y)]
  | y :: xs, i + 1, x, h => by
    rw [List.getElem?_cons_succ] at h
    show ((enc y ++ encL enc xs).drop ((i + 1) * k)).take k = _
    rw [Nat.add_mul, Nat.one_mul, Nat.add_comm, ← List.drop_drop, List.drop_left' (hk y)]
    exact encL_seg hk xs i x h
section
variable {α : Type} [Inhabited α] {enc : α → List Value} {k : Nat}
theorem gsW_frm (w : World) (blk off m : Nat) (d : Array α) (os : Array Obj) : Frm (fun b => b = blk) w (sortWorldK enc k w blk off m d os) := by
  have hsz : (putRowK enc k (Go.Sort.ahead w m) blk off d).heap.size = w.heap.size := by unfold putRowK; rw [Go.Sort.size_putRow]; rfl
  refine ⟨rfl, rfl, rfl, ?_, ?_, Nat.le_add_right _ _⟩
  · show w.heap.size ≤ ((putRowK enc k (Go.Sort.ahead w m) blk off d).heap ++ os).size
    rw [Array.size_append, hsz]; omega
  · intro j hj hn
    show ((putRowK enc k (Go.Sort.ahead w m) blk off d).heap ++ os)[j]? = _
    rw [Array.getElem?_append_left (by rw [hsz]; exact hj)]
    show (w.heap.modify blk _)[j]? = _
    rw [Array.getElem?_modify, if_neg (fun e => hn e.symm)]
def gsL (enc : α → List Value) (k : Nat) (d : Array α) (cs : List Value) : List Value := (Go.Sort.putCells id 0 (flatK enc k d) cs.toArray).toList
theorem gsL_len (d : Array α) (cs : List Value) : (gsL enc k d cs).length = cs.length := by simp [gsL, Go.Sort.putCells]
theorem encL_get (hk : ∀ x, (enc x).length = k) (hk0 : 0 < k) (d : Array α) {t : Nat} (ht : t < d.size * k) : (encL enc d.toList)[t]? = some ((enc d[t / k]!)[t % k]!) := by
  have hq : t / k < d.size := (Nat.div_lt_iff_lt_mul hk0).2 ht
  have hr : t % k < k := Nat.mod_lt _ hk0
  have e2 : d.toList[t / k]? = some d[t / k]! := by
    rw [Array.getElem?_toList, Array.getElem?_eq_getElem hq, getElem!_pos d (t / k) hq]
  have e3 := encL_seg hk _ _ _ e2
  have e4 : (enc d[t / k]!)[t % k]? = (encL enc d.toList)[t]? := by
    rw [← e3, List.getElem?_take, if_pos hr, List.getElem?_drop]
    congr 1
    exact Nat.div_add_mod' t k
  rw [← e4, getElem!_pos (enc d[t / k]!) (t % k) (by rw [hk]; exact hr)]
  exact List.getElem?_eq_getElem _
theorem gsL_take (hk : ∀ x, (enc x).length = k) (hk0 : 0 < k) (d : Array α) (cs : List Value) (h : d.size * k ≤ cs.length) : (gsL enc k d cs).take (d.size * k) = encL enc d.toList := by
  have hl : (encL enc d.toList).length = d.size * k := by rw [encL_len hk, Array.length_toList]
  apply List.ext_getElem?
  intro t
  by_cases ht : t < d.size * k
  · rw [List.getElem?_take, if_pos ht]
    have e1 : (gsL enc k d cs)[t]? = some ((enc d[t / k]!)[t % k]!) := by
      unfold gsL Go.Sort.putCells
      rw [Array.getElem?_toList, Array.getElem?_mapIdx]
      rw [show cs.toArray[t]? = some (cs[t]'(by omega)) by rw [List.getElem?_toArray]; exact List.getElem?_eq_getElem _]
      simp only [Option.map_some, size_flatK]
      rw [if_pos (by omega), Nat.sub_zero, get_flatK _ _ _ _ ht]
      rfl
    rw [e1, encL_get hk hk0 d ht]
  · rw [List.getElem?_eq_none (by rw [List.length_take]; omega), List.getElem?_eq_none (by rw [hl]; omega)]
theorem gsW_row {w : World} {blk m : Nat} {cs : List Value} {d : Array α} {os : Array Obj} (h : Row w blk cs) : Row (sortWorldK enc k w blk 0 m d os) blk (gsL enc k d cs) := by
  have hlt := h.lt
  obtain ⟨T, lo, hi, hb, hf⟩ := h
  refine ⟨T, lo, hi, ?_, by rw [gsL_len]; exact hf⟩
  have hsz : (putRowK enc k (Go.Sort.ahead w m) blk 0 d).heap.size = w.heap.size := by unfold putRowK; rw [Go.Sort.size_putRow]; rfl
  show ((putRowK enc k (Go.Sort.ahead w m) blk 0 d).heap ++ os)[blk]? = _
  rw [Array.getElem?_append_left (by rw [hsz]; exact hlt)]
  show (w.heap.modify blk _)[blk]? = _
  rw [Array.getElem?_modify, if_pos rfl, hb]
  rfl
theorem gsW_st {p : Nat → Prop} {w0 w : World} {blk m : Nat} {cs : List Value} {d : Array α} {os : Array Obj} {L : List Ent} (hS : St p w0 w (.row blk cs :: L)) : St p w0 (sortWorldK enc k w blk 0 m d os) (.row blk (gsL enc k d cs) :: L) := by
  have hF := gsW_frm (enc := enc) (k := k) w blk 0 m d os
  have hR : Row w blk cs := hS.holds (.row blk cs) (by simp)
  have hm := hS.mine (.row blk cs) (by simp)
  refine ⟨⟨hF.os.trans hS.frm.os, hF.tape.trans hS.frm.tape, hF.output.trans hS.frm.output, Nat.le_trans hS.frm.size hF.size, fun j hj hn => ?_, Nat.le_trans hS.frm.drawn hF.drawn⟩, ?_, hS.dist, ?_⟩
  · have hne : ¬ j = blk := fun e => by
      subst e
      rcases hm with h | h
      · exact hn h
      · exact absurd hj (by show ¬ j < w0.heap.size; have : w0.heap.size ≤ j := h; omega)
    exact (hF.block j (Nat.lt_of_lt_of_le hj hS.frm.size) hne).trans (hS.frm.block j hj hn)
  · intro e he
    rcases List.mem_cons.1 he with rfl | he
    · exact gsW_row hR
    · have hh := hS.holds e (List.mem_cons_of_mem _ he)
      refine Ent.keep hh (hF.block _ (Ent.lt hh) fun e' => ?_)
      have hd := hS.dist
      simp only [List.map_cons, List.nodup_cons] at hd
      exact hd.1 (List.mem_map.2 ⟨e, he, e'⟩)
  · intro e he
    rcases List.mem_cons.1 he with rfl | he
    · exact hm
    · exact hS.mine e (List.mem_cons_of_mem _ he)
def AscBy (cf : α → α → Int) (ys : List α) : Prop := ∀ (i j : Nat) (x y : α), ys[i]? = some x → ys[j]? = some y → i < j → ¬ cf y x < 0
theorem gsort_c {P : Program} {ρ : Go.Shelf.Ren} (Ly : SlLaysF0.n6 P ρ) (hk0 : 0 < k) (aE : ∀ w, (isAgg (ρ.t 24)).run P w = .ok true w) (zE : ∀ w, (Go.sizeOf (ρ.t 24)).run P w = .ok k w) (hk : ∀ x, (enc x).length = k) (h1 : ∀ x, ∀ v ∈ enc x, v.oneCell' = true)
    (cf : α → α → Int) (hO : SWO (ltOf cf)) (g : Nat) (cb : Array Value) (eg : ∀ args w, (callFunc g args).run P w = .ok (.enter g args) w) (p : Nat → Prop) (w0 w : World) (L E : List Ent) (ad : Option Addr) (c : Nat) (xs : List α)
    (hcmp : ∀ gb cs, St p w0 w (.row gb cs :: L) → ∀ w', Frm (fun b => b = gb) w w' → ∀ x y, Calls P g (#[.agg (enc x).toArray, .agg (enc y).toArray] ++ cb) w' fun e w'' => e = .returned (.int .i64 (cf x y)) ∧ Frm (fun _ => False) w' w'')
    (hV : Vec k ad xs.length c (encL enc xs) E) (hS : St p w0 w (E ++ L)) (hlen : xs.length < 4611686018427387904) :
    Calls P (ρ.f 6) #[.slice ad xs.length c, .func (.func g) #[] cb] w fun e w' =>
      e = .returned (.tuple #[]) ∧ ∃ ys E', ys.Perm xs ∧ AscBy cf ys ∧ Vec k ad xs.length c (encL enc ys) E' ∧ St p w0 w' (E' ++ L) := by
  rcases hV with ⟨ha, hn, hc, hx, hE⟩ | ⟨gb, cs, rfl, rfl, hx, hcl, hkc⟩
  · have e0 : xs = [] := List.length_eq_zero_iff.1 hn
    subst e0
    refine (Go.Proofs.AnyF.slices_SortFunc_none Ly ad c _ w).mono fun e w' h => ⟨h.1, [], E, .refl _, fun i j A B h => by simp at h, .inl ⟨ha, hn, hc, hx, hE⟩, by rw [h.2]; exact hS⟩
  · have hS' : St p w0 w (.row gb cs :: L) := hS
    have hR : Row w gb cs := hS'.holds (.row gb cs) (by simp)
    have hcs : xs.length * k ≤ cs.length := by rw [hcl]; exact Nat.mul_le_mul_right k hkc
    have hsz : xs.toArray.size = xs.length := by simp
    have hcm : CmpLays P g cb enc k cf gb 0 xs.toArray.size w := fun m os dk hs x y =>
      (hcmp gb cs hS' _ (gsW_frm w gb 0 m dk os) x y).mono fun e w' ⟨he, hF⟩ => ⟨he, hF.grows⟩
    have hH : HoldsK enc k w gb 0 xs.toArray := fun t ht => by
      rw [size_flatK] at ht
      have ht2 : t < cs.length := by rw [hsz] at ht; omega
      rw [Nat.zero_add]
      refine ⟨hR.cell ?_, hR.frozen ht2⟩
      show cs[t]? = some ((flatK enc k xs.toArray)[t]!)
      rw [get_flatK _ _ _ _ ht, ← encL_get hk hk0 _ ht]
      show cs[t]? = (encL enc xs)[t]?
      rw [← hx, List.getElem?_take, if_pos (by rw [← hsz]; exact ht)]
    have key := Go.Proofs.AnyQ.slices_SortFunc Ly k aE zE enc hk h1 cf hO g cb gb 0 c xs.toArray w eg hcm hH hR.lt (by rw [hsz]; exact hlen)
    rw [hsz] at key
    refine key.mono ?_
    rintro e w' ⟨he, d', n, os, ⟨hs1, _, hperm⟩, hsort, rfl⟩
    have hd' : d'.size = xs.length := by rw [hs1, hsz]
    have f1 : d'.extract 0 xs.length = d' := by rw [← hd']; simp
    have f2 : xs.toArray.extract 0 xs.length = xs.toArray := by rw [← hsz]; exact Array.extract_size
    rw [f1, f2] at hperm
    have hrow := gsL_take hk hk0 d' cs (by rw [hd']; exact hcs)
    refine ⟨he, d'.toList, [.row gb (gsL enc k d' cs)], ?_, ?_, ?_, gsW_st hS'⟩
    · exact hperm
    · intro i j A B hi hj hij
      have li := (List.getElem?_eq_some_iff.1 hi).1
      have lj := (List.getElem?_eq_some_iff.1 hj).1
      rw [Array.length_toList] at li lj
      have h := hsort i j (Nat.zero_le _) hij (by rw [← hd']; exact lj)
      rw [Array.getElem?_toList, Array.getElem?_eq_getElem li] at hi
      rw [Array.getElem?_toList, Array.getElem?_eq_getElem lj] at hj
      rw [getElem!_pos d' i li, getElem!_pos d' j lj] at h
      have ea := Option.some.inj hi
      have eb := Option.some.inj hj
      subst ea eb
      exact of_decide_eq_false h
    · exact .inr ⟨gb, gsL enc k d' cs, rfl, rfl, by rw [← hd', hrow], by rw [gsL_len]; exact hcl, hkc⟩
end
end Go.Proofs.YtcmpamnhegndnaaGreatDoor
namespace Go.Proofs.YtcmpamnhegndnaaGreatDoor
open Go.RowKit Go.Shelf

def ren139 : Ren := ⟨fun n => match n with | 6 => 139 | 14 => 144 | 15 => 145 | 20 => 148 | 21 => 149 | 22 => 150 | 23 => 151 | 24 => 152 | 25 => 153 | 26 => 154 | 27 => 155 | 28 => 156 | 29 => 157 | 46 => 158 | 47 => 159 | 48 => 160 | 49 => 161 | 50 => 162 | 57 => 163 | n => n, fun n => match n with | 0 => 0 | 3 => 3 | 4 => 4 | 5 => 5 | 9 => 9 | 22 => 33 | 24 => 181 | 25 => 230 | 39 => 145 | 45 => 238 | 46 => 239 | 50 => 125 | 53 => 22 | 55 => 184 | 66 => 246 | 70 => 250 | 76 => 252 | 77 => 253 | n => n, fun n => n⟩
set_option maxRecDepth 100000 in
theorem lays139 : SlLaysF0.n6 Tryz.prog ren139 where
  mixed := mixed
  f6 := ⟨Tryz.f139.name, by decide, Tryz.func139.trans (congrArg some (by kernel_rfl))⟩
  f14 := ⟨Tryz.f144.name, by decide, Tryz.func144.trans (congrArg some (by kernel_rfl))⟩
  f15 := Tryz.func145.trans (congrArg some (by kernel_rfl))
  f20 := ⟨Tryz.f148.name, by decide, Tryz.func148.trans (congrArg some (by kernel_rfl))⟩
  f21 := ⟨Tryz.f149.name, by decide, Tryz.func149.trans (congrArg some (by kernel_rfl))⟩
  f22 := ⟨Tryz.f150.name, by decide, Tryz.func150.trans (congrArg some (by kernel_rfl))⟩
  f23 := ⟨Tryz.f151.name, by decide, Tryz.func151.trans (congrArg some (by kernel_rfl))⟩
  f24 := ⟨Tryz.f152.name, by decide, Tryz.func152.trans (congrArg some (by kernel_rfl))⟩
  f25 := ⟨Tryz.f153.name, by decide, Tryz.func153.trans (congrArg some (by kernel_rfl))⟩
  f26 := ⟨Tryz.f154.name, by decide, Tryz.func154.trans (congrArg some (by kernel_rfl))⟩
  f27 := ⟨Tryz.f155.name, by decide, Tryz.func155.trans (congrArg some (by kernel_rfl))⟩
  f28 := Tryz.func156.trans (congrArg some (by kernel_rfl))
  f29 := Tryz.func157.trans (congrArg some (by kernel_rfl))
  f46 := ⟨Tryz.f158.name, by decide, Tryz.func158.trans (congrArg some (by kernel_rfl))⟩
  f47 := Tryz.func159.trans (congrArg some (by kernel_rfl))
  f48 := Tryz.func160.trans (congrArg some (by kernel_rfl))
  f49 := ⟨Tryz.f161.name, by decide, Tryz.func161.trans (congrArg some (by kernel_rfl))⟩
  f50 := ⟨Tryz.f162.name, by decide, Tryz.func162.trans (congrArg some (by kernel_rfl))⟩
  f57 := ⟨Tryz.f163.name, by decide, Tryz.func163.trans (congrArg some (by kernel_rfl))⟩
  t0 := Tryz.underlying0
  a0 := Tryz.isAgg0
  z0 := Tryz.sizeOf0
  v0 := Tryz.zeroValue0
  t3 := Tryz.underlying3
  a3 := Tryz.isAgg3
  z3 := Tryz.sizeOf3
  v3 := Tryz.zeroValue3
  t4 := Tryz.underlying4
  a4 := Tryz.isAgg4
  z4 := Tryz.sizeOf4
  v4 := Tryz.zeroValue4
  t5 := Tryz.underlying5
  a5 := Tryz.isAgg5
  z5 := Tryz.sizeOf5
  v5 := Tryz.zeroValue5
  t9 := Tryz.underlying9
  a9 := Tryz.isAgg9
  z9 := Tryz.sizeOf9
  v9 := Tryz.zeroValue9
  t22 := Tryz.underlying33
  a22 := Tryz.isAgg33
  z22 := Tryz.sizeOf33
  v22 := Tryz.zeroValue33
  t25 := Tryz.underlying230
  a25 := Tryz.isAgg230
  z25 := Tryz.sizeOf230
  v25 := Tryz.zeroValue230
  t39 := Tryz.underlying145
  a39 := Tryz.isAgg145
  z39 := Tryz.sizeOf145
  v39 := Tryz.zeroValue145
  t45 := Tryz.underlying238
  a45 := Tryz.isAgg238
  z45 := Tryz.sizeOf238
  v45 := Tryz.zeroValue238
  t46 := Tryz.underlying239
  a46 := Tryz.isAgg239
  z46 := Tryz.sizeOf239
  v46 := Tryz.zeroValue239
  t50 := Tryz.underlying125
  a50 := Tryz.isAgg125
  z50 := Tryz.sizeOf125
  v50 := Tryz.zeroValue125
  t53 := Tryz.underlying22
  a53 := Tryz.isAgg22
  z53 := Tryz.sizeOf22
  v53 := Tryz.zeroValue22
  t55 := Tryz.underlying184
  a55 := Tryz.isAgg184
  z55 := Tryz.sizeOf184
  v55 := Tryz.zeroValue184
  t66 := Tryz.underlying246
  a66 := Tryz.isAgg246
  z66 := Tryz.sizeOf246
  v66 := Tryz.zeroValue246
  t70 := Tryz.underlying250
  a70 := Tryz.isAgg250
  z70 := Tryz.sizeOf250
  v70 := Tryz.zeroValue250
  t76 := Tryz.underlying252
  a76 := Tryz.isAgg252
  z76 := Tryz.sizeOf252
  v76 := Tryz.zeroValue252
  t77 := Tryz.underlying253
  a77 := Tryz.isAgg253
  z77 := Tryz.sizeOf253
  v77 := Tryz.zeroValue253
end Go.Proofs.YtcmpamnhegndnaaGreatDoor
namespace Go.Proofs.YtcmpamnhegndnaaGreatDoor
open Go.RowKit Go.Sort

theorem isNaNI_c (w : World) (x : Int) : Calls Tryz.prog 146 #[.int .i64 x] w fun e w' => e = .returned (.bool false) ∧ Frm (fun _ => False) w w' := by
  refine enter Tryz.func146 rfl Tryz.ntmps146 rfl (St.start (fun _ => False) w) ?_
  refine cR <| zA rfl <| zR <| zM rfl <| zM rfl <| zV ((v_neq rfl rfl rfl).f (fun h => h rfl)) rfl <| zA rfl <| zN <| cE <| tR Tryz.results146 rfl <| ?_
  exact fun w' h => ⟨rfl, h.frm⟩
def cmpI (x y : Int) : Int := if x < y then -1 else if y < x then 1 else 0
theorem CmpI_c (w : World) (x y : Int) : Calls Tryz.prog 141 #[.int .i64 x, .int .i64 y] w fun e w' => e = .returned (.int .i64 (cmpI x y)) ∧ Frm (fun _ => False) w w' := by
  refine enter Tryz.func141 rfl Tryz.ntmps141 rfl (St.start (fun _ => False) w) ?_
  refine cR <| zA rfl <| zR <| zM rfl <| zK ck_146 rfl <| ?_
  intro w hS
  refine Calls.then (isNaNI_c w x) hS ?_
  refine zA rfl <| zR <| zM rfl <| zK ck_146 rfl <| ?_
  intro w hS
  refine Calls.then (isNaNI_c w y) hS ?_
  refine zA rfl <| zN <| cS <| cR <| zM rfl <| zN <| cF rfl <| cK <| eN <| cS <| cR <| zM rfl <| ?_
  refine zN <| cF rfl <| cK <| eN <| cS <| cR <| zM rfl <| zM rfl <| ?_
  refine zT (v_lss rfl rfl rfl) rfl (fun h16 => ?_) (fun h16 => ?_)
  refine zN <| cT rfl <| cR <| zA rfl <| zN <| cE <| eR <| tR Tryz.results141 rfl <| ?_
  exact fun w' h => ⟨by unfold cmpI; rw [if_pos h16], h.frm⟩
  refine zN <| cF rfl <| cK <| eN <| cS <| cR <| zM rfl <| zM rfl <| ?_
  refine zT (v_gtr rfl rfl rfl) rfl (fun h19 => ?_) (fun h19 => ?_)
  refine zN <| cT rfl <| cR <| zA rfl <| zN <| cE <| eR <| tR Tryz.results141 rfl <| ?_
  exact fun w' h => ⟨by unfold cmpI; rw [if_neg h16, if_pos h19], h.frm⟩
  refine zN <| cF rfl <| cK <| eN <| cR <| zA rfl <| zN <| cE <| tR Tryz.results141 rfl <| ?_
  exact fun w' h => ⟨by unfold cmpI; rw [if_neg h16, if_neg h19], h.frm⟩
theorem cmpI_lt (x y : Int) : cmpI x y < 0 ↔ x < y := by unfold cmpI; split <;> (try split) <;> omega
theorem OthCmp_c (w : World) (x y : OthL) : Calls Tryz.prog 140 #[.agg x.cells.toArray, .agg y.cells.toArray] w fun e w' => e = .returned (.int .i64 (cmpI x.ty y.ty)) ∧ Frm (fun _ => False) w w' := by
  refine enter Tryz.func140 rfl Tryz.ntmps140 rfl (St.start (fun _ => False) w) ?_
  refine cR <| WL.box rfl rfl rfl (.none rfl) rfl rfl <| ?_
  intro g2 hg2
  refine WL.box rfl rfl rfl (.none rfl) rfl rfl ?_
  intro g3 hg3
  refine zA rfl <| zR <| zF rfl fld_181_0 <| zL rfl one_3 rfl <| zF rfl fld_181_0 <| zL rfl one_3 rfl <| zK ck_141 rfl <| ?_
  intro w hS
  refine Calls.then (CmpI_c w x.ty y.ty) hS ?_
  refine zA rfl <| zN <| cE <| tR Tryz.results140 rfl <| ?_
  exact fun w' h => ⟨rfl, h.frm⟩
instance : Inhabited OthL := ⟨⟨0, none, 0, []⟩⟩
def othCf (x y : OthL) : Int := cmpI x.ty y.ty
theorem othCf_swo : Go.Sort.SWO (ltOf othCf) := by
  constructor
  · intro x; unfold ltOf othCf; exact decide_eq_false (by rw [cmpI_lt]; omega)
  · intro x y z h1 h2; unfold ltOf othCf at *; have a := of_decide_eq_true h1; have b := of_decide_eq_true h2; rw [cmpI_lt] at a b; exact decide_eq_true (by rw [cmpI_lt]; omega)
  · intro x y z h1 h2; unfold ltOf othCf at *; have a := of_decide_eq_false h1; have b := of_decide_eq_false h2; rw [cmpI_lt] at a b; exact decide_eq_false (by rw [cmpI_lt]; omega)
theorem othsL_enc : ∀ os : List OthL, othsL os = encL OthL.cells os
  | [] => rfl
  | o :: os => by show o.cells ++ othsL os = o.cells ++ encL OthL.cells os; rw [othsL_enc os]
theorem SortOth_c (w0 w : World) (L E : List Ent) (ad : Option Addr) (c : Nat) (os : List OthL) (hV : Vec 2 ad os.length c (othsL os) E) (hS : St (fun _ => False) w0 w (E ++ L)) (hlen : os.length < 1000000) :
    Calls Tryz.prog 139 #[.slice ad os.length c, .func (.func 140) #[] #[]] w fun e w' =>
      e = .returned (.tuple #[]) ∧ ∃ ys E', ys.Perm os ∧ (ys.map othD).Pairwise (fun x y => x.1 ≤ y.1) ∧ Vec 2 ad os.length c (othsL ys) E' ∧ St (fun _ => False) w0 w' (E' ++ L) := by
  rw [othsL_enc] at hV
  refine (gsort_c (P := Tryz.prog) lays139 (by omega) Tryz.isAgg181 Tryz.sizeOf181 (fun _ => rfl) (fun x v hv => by
      unfold OthL.cells at hv
      simp only [List.mem_cons, List.not_mem_nil, or_false] at hv
      rcases hv with h | h <;> (subst h; rfl)) othCf othCf_swo 140 #[] ck_140 (fun _ => False) w0 w L E ad c os (fun gb cs _ w' _ x y => OthCmp_c w' x y) hV hS (by omega)).mono ?_
  rintro e w' ⟨he, ys, E', hp, ha, hV', hS'⟩
  refine ⟨he, ys, E', hp, ?_, by rw [othsL_enc]; exact hV', hS'⟩
  rw [List.pairwise_map, List.pairwise_iff_getElem]
  intro i j hi hj hij
  have := ha i j _ _ (List.getElem?_eq_getElem hi) (List.getElem?_eq_getElem hj) hij
  unfold othCf at this
  rw [cmpI_lt] at this
  show ys[i].ty ≤ ys[j].ty
  omega
end Go.Proofs.YtcmpamnhegndnaaGreatDoor
namespace Go.Proofs.YtcmpamnhegndnaaGreatDoor
open Go.RowKit

theorem cut_u (w : World) (b o c : Nat) (xs : List Int) (hW : Win w b o c xs) (hn : xs.length ≤ 1000000) :
    Calls Tryz.prog 136 #[.slice (some ⟨b, o, none⟩) xs.length c] w fun e w' => ∃ (f t : Nat) (ok : Bool), e = .returned (.tuple #[.int .i64 f, .int .i64 t, .bool ok]) ∧ Frm (fun _ => False) w w' ∧
      (ok = false → xs.length < fromN xs ∨ xs.length < toN xs) ∧ (ok = true → f = fromN xs ∧ t = toN xs ∧ fromN xs ≤ xs.length ∧ toN xs ≤ xs.length) :=
  (cut_c w b o c xs hW hn).mono fun e w' h => by
    obtain ⟨rfl, hF⟩ := h
    unfold cutV
    split
    · rename_i h1
      exact ⟨0, 0, false, rfl, hF, fun _ => .inl h1, fun e => by cases e⟩
    · rename_i h1
      exact ⟨fromN xs, toN xs, decide (toN xs ≤ xs.length), rfl, hF, fun e => .inr (by have := of_decide_eq_false e; omega), fun e => ⟨rfl, rfl, by omega, of_decide_eq_true e⟩⟩
theorem take_u (w0 w1 : World) (ga b oa ca ov cv : Nat) (all v : List Int) (a : AtL) (K L : List Ent) (hG : GF w0) (hZ : GZ w0) (hWa : Win w0 b oa ca all) (hWv : Win w0 b ov cv v) (hn : all.length ≤ 100000) (hnv : v.length ≤ 100000) (h2 : 2 ≤ all.length) (ht : 1 ≤ fOf all 1 ∧ fOf all 1 ≤ 8)
    (hA : AtOwn K a) (hh0 : 0 ≤ a.has) (hh1 : a.has ≤ 511) (hb : ∀ t : Nat, fOf all 1 = t → a.has / 2 ^ t % 2 = 0) (h8 : fOf all 1 = 8 → a.cad = none ∧ a.cc = 0 ∧ a.comms = []) (hS0 : St (fun _ => False) w0 w1 (.row ga a.cells :: (K ++ L))) :
    Calls Tryz.prog 137 #[.pointer (some ⟨ga, 0, none⟩), .slice (some ⟨b, oa, none⟩) all.length ca, .slice (some ⟨b, ov, none⟩) v.length cv] w1 fun e w' => ∃ (ok : Bool) (s : Int) (d : ByteArray) (a' : AtL) (K' : List Ent),
      e = .returned (.agg (fltL (if ok then 0 else 3) s d).toArray) ∧ AtOwn K' a' ∧ a'.others = a.others ∧ a'.oad = a.oad ∧ a'.oc = a.oc ∧ (fOf all 1 = 8 ∨ (a'.cad = a.cad ∧ a'.cc = a.cc)) ∧ St (fun _ => False) w0 w' (.row ga a'.cells :: (K' ++ L)) ∧
      (ok = false → stepD a.d all v = .inr (s, d)) ∧ (ok = true → s = 0 ∧ d = ⟨#[]⟩ ∧ stepD a.d all v = .inl a'.d) := by
  obtain ⟨t, et⟩ := Int.eq_ofNat_of_zero_le (show 0 ≤ fOf all 1 by omega)
  have es : stepD a.d all v = takeD a.d all v := by unfold stepD; rw [if_pos ht]
  rw [es]
  refine (take_c w0 w1 ga b oa ca ov cv all v a K L hG hZ hWa hWv hn hnv h2 t et (by omega) (by omega) hA hh0 hh1 (hb t et) (fun e => h8 (by omega)) hS0).mono ?_
  rintro e w' ⟨a', K', hA', q1, q2, q3, q4, hS', hK, hD⟩
  cases hq : takeD a.d all v with
  | inr x =>
    obtain ⟨s, d⟩ := x
    rw [hq] at hD
    exact ⟨false, s, d, a', K', hD, hA', q1, q2, q3, q4, hS', fun _ => rfl, fun e => by cases e⟩
  | inl d =>
    rw [hq] at hD
    exact ⟨true, 0, ⟨#[]⟩, a', K', hD.1, hA', q1, q2, q3, q4, hS', (fun e => by cases e), fun _ => ⟨rfl, rfl, by rw [hD.2]⟩⟩
theorem other_u (w0 w1 : World) (ga b oa ca ov cv : Nat) (all v : List Int) (a : AtL) (E L : List Ent) (hWa : Win w0 b oa ca all) (hWv : Win w0 b ov cv v) (hn : all.length ≤ 100000) (hnv : v.length ≤ 100000) (h2 : 2 ≤ all.length) (ht : ¬ (1 ≤ fOf all 1 ∧ fOf all 1 ≤ 8))
    (hV : Vec 2 a.oad a.others.length a.oc (othsL a.others) E) (hol : a.others.length ≤ 100000) (hS0 : St (fun _ => False) w0 w1 (E ++ (.row ga a.cells :: L))) :
    Calls Tryz.prog 138 #[.pointer (some ⟨ga, 0, none⟩), .slice (some ⟨b, oa, none⟩) all.length ca, .slice (some ⟨b, ov, none⟩) v.length cv] w1 fun e w' => ∃ (ok : Bool) (s : Int) (d : ByteArray) (ad : Option Addr) (oc : Nat) (os : List OthL) (E' K : List Ent),
      e = .returned (.agg (fltL (if ok then 0 else 3) s d).toArray) ∧ Vec 2 ad os.length oc (othsL os) E' ∧ os.length ≤ a.others.length + 1 ∧ (∀ KO, (∀ o ∈ a.others, OthOwn KO o) → ∀ o ∈ os, OthOwn (K ++ KO) o) ∧ St (fun _ => False) w0 w' (E' ++ (K ++ (.row ga (AtL.cells { a with oad := ad, oc := oc, others := os }) :: L))) ∧
      (ok = false → stepD a.d all v = .inr (s, d)) ∧ (ok = true → s = 0 ∧ d = ⟨#[]⟩ ∧ stepD a.d all v = .inl (AtL.d { a with oad := ad, oc := oc, others := os })) := by
  have es : stepD a.d all v = otherD a.d all v := by unfold stepD; rw [if_neg ht]
  rw [es]
  refine (other_c w0 w1 ga b oa ca ov cv all v a E L hWa hWv hn hnv h2 hV hol hS0).mono ?_
  rintro e w' ⟨ad, oc, os, E', K, hV', hol', hO', hS', hD⟩
  cases hq : otherD a.d all v with
  | inr x =>
    obtain ⟨s, d⟩ := x
    rw [hq] at hD
    exact ⟨false, s, d, ad, oc, os, E', K, hD, hV', hol', hO', hS', fun _ => rfl, fun e => by cases e⟩
  | inl d =>
    rw [hq] at hD
    exact ⟨true, 0, ⟨#[]⟩, ad, oc, os, E', K, hD.1, hV', hol', hO', hS', (fun e => by cases e), fun _ => ⟨rfl, rfl, by rw [hD.2]⟩⟩
def seenL (seen : List Int) : List Value := (List.range 256).map fun (i : Nat) => .bool (decide ((i : Int) ∈ seen))
theorem seenL_get (seen : List Int) {k : Nat} (hk : k < 256) : (seenL seen)[k]? = some (.bool (decide ((k : Int) ∈ seen))) := by
  unfold seenL; rw [List.getElem?_map, List.getElem?_range hk]; rfl
theorem seenL_set (seen : List Int) {x : Int} (h0 : 0 ≤ x) (h1 : x ≤ 255) : (seenL seen).set x.toNat (.bool true) = seenL (x :: seen) := by
  apply List.ext_getElem?
  intro i
  rw [List.getElem?_set]
  by_cases hi : i < 256
  · rw [seenL_get _ hi, seenL_get _ hi]
    split
    · rename_i e
      rw [if_pos (by rw [show (seenL seen).length = 256 by simp [seenL]]; omega)]
      rw [decide_eq_true (show (i : Int) ∈ x :: seen by rw [show (i : Int) = x by omega]; exact List.mem_cons_self ..)]
    · rename_i e
      congr 2
      have : (i : Int) ≠ x := by omega
      exact decide_eq_decide.2 (by simp [this])
  · have l1 : (seenL seen).length = 256 := by simp [seenL]
    have l2 : (seenL (x :: seen)).length = 256 := by simp [seenL]
    rw [if_neg (by omega), List.getElem?_eq_none (by omega), List.getElem?_eq_none (by omega)]
theorem zero_224 : Zero Tryz.prog 224 (seenL []) := Zero.mk (z := .agg (seenL []).toArray) (by kernel_rfl) rfl
structure AtAll (K : List Ent) (a : AtL) : Prop where
  own : AtOwn K a
  oths : ∃ E, Vec 2 a.oad a.others.length a.oc (othsL a.others) E ∧ ∀ e ∈ E, e ∈ K
  vals : ∀ o ∈ a.others, OthOwn K o
structure DecS where
  a : AtL
  K : List Ent
  E : List Ent
  KO : List Ent
def AtDecP (w0 w' : World) (xs : List Int) (e : Ending) : Prop :=
  match decD AtL.zero.d [] xs with
  | .inr (s, d) => e = .returned (.tuple #[.agg AtL.zero.cells.toArray, .agg (fltL 3 s d).toArray]) ∧ Frm (fun _ => False) w0 w'
  | .inl d => ∃ a K, e = .returned (.tuple #[.agg a.cells.toArray, .agg (fltL 0 0 ⟨#[]⟩).toArray]) ∧ a.d = { d with others := sortO d.others } ∧ AtAll K a ∧ St (fun _ => False) w0 w' K
set_option maxHeartbeats 4000000 in
theorem AtDecode_c (w0 : World) (b o c : Nat) (xs : List Int) (hG : GF w0) (hZ : GZ w0) (hW : Win w0 b o c xs) (hn : xs.length ≤ 90000) :
    Calls Tryz.prog 129 #[.slice (some ⟨b, o, none⟩) xs.length c] w0 fun e w' => AtDecP w0 w' xs e := by
  refine enter Tryz.func129 rfl Tryz.ntmps129 rfl (St.start (fun _ => False) w0) ?_
  refine cR <| WL.alloc rfl zero_35 (.none rfl) rfl rfl <| ?_
  intro g2 hg2
  refine WL.alloc rfl zero_37 (.none rfl) rfl rfl ?_
  intro g3 hg3
  refine zR <| WL.alloc rfl zero_35 (.none rfl) rfl rfl <| ?_
  intro g4 hg4
  refine zR <| WL.alloc rfl zero_224 (.none rfl) rfl rfl <| ?_
  intro g5 hg5
  refine WL.as (L' := .row g5 (seenL []) :: .row g4 AtL.zero.cells :: [.row g3 (fltL 0 0 ⟨#[]⟩), .row g2 AtL.zero.cells]) (by kernel_rfl) ?_
  refine WL.to (L' := .row g4 AtL.zero.cells :: [.row g5 (seenL []), .row g3 (fltL 0 0 ⟨#[]⟩), .row g2 AtL.zero.cells]) (fun w hS => hS.perm (List.Perm.swap _ _ _)) <| zN <| cS <| cB <| ?_
  refine WC.loop (fun x : List Int × Nat × Nat × List Int × DecS => [(0, .slice (some ⟨b, x.2.1, none⟩) x.1.length x.2.2.1), (2, .pointer (some ⟨g2, 0, none⟩)), (3, .pointer (some ⟨g3, 0, none⟩)), (4, .pointer (some ⟨g4, 0, none⟩)), (5, .pointer (some ⟨g5, 0, none⟩))]) (fun x => .row g4 x.2.2.2.2.a.cells :: (x.2.2.2.2.K ++ (x.2.2.2.2.E ++ (x.2.2.2.2.KO ++ [.row g5 (seenL x.2.2.2.1), .row g3 (fltL 0 0 ⟨#[]⟩), .row g2 AtL.zero.cells])))) (fun x => x.1.length + x.2.2.2.2.a.others.length ≤ xs.length ∧ Win w0 b x.2.1 x.2.2.1 x.1 ∧ decD AtL.zero.d [] xs = decD x.2.2.2.2.a.d x.2.2.2.1 x.1 ∧ AtOwn x.2.2.2.2.K x.2.2.2.2.a ∧ Vec 2 x.2.2.2.2.a.oad x.2.2.2.2.a.others.length x.2.2.2.2.a.oc (othsL x.2.2.2.2.a.others) x.2.2.2.2.E ∧ (∀ o ∈ x.2.2.2.2.a.others, OthOwn x.2.2.2.2.KO o) ∧ SeenI x.2.2.2.2.a.d x.2.2.2.1 ∧ ((8 : Int) ∉ x.2.2.2.1 → x.2.2.2.2.a.cad = none ∧ x.2.2.2.2.a.cc = 0)) (fun x => x.1.length) (xs, o, c, [], ⟨.zero, [], [], []⟩) ⟨Nat.le_refl _, hW, rfl, AtOwn.zero, Vec.nil 2, (fun _ h => by cases h), ⟨by show (0 : Int) ≤ 0; decide, by show (0 : Int) ≤ 511; decide, fun t _ _ => by show (0 : Int) / _ % 2 = 0; simp, fun _ => rfl, List.nodup_nil, fun _ h => by cases h⟩, fun _ => ⟨rfl, rfl⟩⟩ (.cons rfl (.cons rfl (.cons rfl (.cons rfl (.cons rfl .nil))))) (.refl _) ?_
  rintro ⟨ys, o2, c2, seen, ⟨a, K, E, KO⟩⟩ ⟨hl, hW2, hy, hA, hV, hO, hSn, h8⟩
  dsimp only at hl hW2 hy hA hV hO hSn h8
  dsimp only
  have hle := hW2.le
  have h1 := fOf_b hW2.bys 1
  have hfr := fromN_b ys
  refine cS <| cR <| zM rfl <| zV (v_len_slice rfl rfl Tryz.underlying25) rfl <| ?_
  refine zT (v_gtr rfl rfl rfl) rfl (fun h12 => ?_) (fun h12 => ?_)
  ·
   refine zN <| cT rfl <| cK <| eN <| cB <| cR <| zM rfl <| zK ck_136 rfl <| ?_
   intro w1 hS
   refine (cut_u w1 b o2 c2 ys (hW2.st hS) (by omega)).mono ?_
   rintro e w' ⟨f, t, ok, rfl, hF, hok0, hok1⟩
   refine ⟨_, _, rfl, hS.ext hF, ?_⟩
   refine zM rfl <| zX rfl <| zX rfl <| zX rfl <| zA rfl <| zA rfl <| zA rfl <| zN <| ?_
   refine WC.cut (fun _ : Unit => [(0, .slice (some ⟨b, o2, none⟩) ys.length c2), (2, .pointer (some ⟨g2, 0, none⟩)), (3, .pointer (some ⟨g3, 0, none⟩)), (4, .pointer (some ⟨g4, 0, none⟩)), (5, .pointer (some ⟨g5, 0, none⟩)), (6, .int .i64 (fromN ys)), (7, .int .i64 (toN ys))]) (fun _ => .row g4 a.cells :: (K ++ (E ++ (KO ++ [.row g5 (seenL seen), .row g3 (fltL 0 0 ⟨#[]⟩), .row g2 AtL.zero.cells])))) (fun _ => 0 < ys.length ∧ fromN ys ≤ ys.length ∧ toN ys ≤ ys.length ∧ fOf ys 1 ∉ seen) ?_ ?_
   refine cR <| zM rfl <| ?_
   skip
   cases ok
   refine zV (v_not rfl rfl rfl) rfl <| zM rfl <| ?_
   iterate 5 refine WL.sk rfl ?_
   generalize hsn : decide ((((fOf ys 1).toNat : Nat) : Int) ∈ seen) = bs
   cases bs
   refine zP rfl <| zN <| cT rfl <| cR <| zV (v_build rfl rfl zero_35 plc_35 rfl) rfl <| zV (v_build rfl rfl zero_37 plc_37 rfl) rfl <| zW many_35 rfl rfl <| zW many_37 rfl rfl <| zN <| cE <| eR <| eB <| eR <| ?_
   refine eB <| eR <| WE.ret2 (P := Tryz.prog) (.inl rfl) Tryz.results129 (resRow rfl many_35 rfl) (resRow rfl many_37 rfl) <| ?_
   have e0 : decD AtL.zero.d [] xs = .inr (1, ⟨#[]⟩) := (by rw [hy]; exact decD_bad (by omega) ((hok0 rfl).elim .inl fun h => .inr (.inl h)))
   exact fun w' h => by unfold AtDecP; rw [e0]; exact ⟨rfl, h.frm⟩
   refine zP rfl <| zN <| cT rfl <| cR <| zV (v_build rfl rfl zero_35 plc_35 rfl) rfl <| zV (v_build rfl rfl zero_37 plc_37 rfl) rfl <| zW many_35 rfl rfl <| zW many_37 rfl rfl <| zN <| cE <| eR <| eB <| eR <| ?_
   refine eB <| eR <| WE.ret2 (P := Tryz.prog) (.inl rfl) Tryz.results129 (resRow rfl many_35 rfl) (resRow rfl many_37 rfl) <| ?_
   have e0 : decD AtL.zero.d [] xs = .inr (1, ⟨#[]⟩) := (by rw [hy]; exact decD_bad (by omega) ((hok0 rfl).elim .inl fun h => .inr (.inl h)))
   exact fun w' h => by unfold AtDecP; rw [e0]; exact ⟨rfl, h.frm⟩
   refine zV (v_not rfl rfl rfl) rfl <| zM rfl <| ?_
   obtain ⟨rfl, rfl, hf2, ht2⟩ := hok1 rfl
   refine zS (v_move rfl rfl) rfl ?_
   refine zS (v_indexAddr (lo := 1) rfl rfl rfl Tryz.underlying25 sz_5 rfl (by omega)) rfl ?_
   refine zS (v_load1 rfl rfl one_5 (cellOld (fun h => h) (hW2.get (fOf_get (by omega))))) rfl ?_
   refine zS (v_indexAddrA (lo := (fOf ys 1).toNat) rfl rfl rfl Tryz.underlying224 sz_4 (by omega) (by omega)) rfl ?_
   refine zS (v_load1 rfl rfl one_4 (cellAt (by rw [Nat.zero_add, Nat.mul_one]; exact seenL_get seen (by omega)))) rfl ?_
   generalize hsn : decide ((((fOf ys 1).toNat : Nat) : Int) ∈ seen) = bs
   cases bs
   refine zQ rfl <| zN <| cF rfl <| cK <| ?_
   exact WE.mid () ⟨by omega, hf2, ht2, by rw [show fOf ys 1 = (((fOf ys 1).toNat : Nat) : Int) by omega]; exact of_decide_eq_false hsn⟩ (.cons rfl (.cons rfl (.cons rfl (.cons rfl (.cons rfl (.cons rfl (.cons rfl .nil))))))) (.refl _)
   refine zQ rfl <| zN <| cT rfl <| cR <| zV (v_build rfl rfl zero_35 plc_35 rfl) rfl <| zV (v_build rfl rfl zero_37 plc_37 rfl) rfl <| zW many_35 rfl rfl <| zW many_37 rfl rfl <| zN <| cE <| eR <| eB <| eR <| ?_
   refine eB <| eR <| WE.ret2 (P := Tryz.prog) (.inl rfl) Tryz.results129 (resRow rfl many_35 rfl) (resRow rfl many_37 rfl) <| ?_
   have e0 : decD AtL.zero.d [] xs = .inr (1, ⟨#[]⟩) := (by rw [hy]; exact decD_bad (by omega) (.inr (.inr (by rw [show fOf ys 1 = (((fOf ys 1).toNat : Nat) : Int) by omega]; exact of_decide_eq_true hsn))))
   exact fun w' h => by unfold AtDecP; rw [e0]; exact ⟨rfl, h.frm⟩
   ·
    rintro _ ⟨h0, hf2, ht2, hns⟩
    have htg := toN_ge ys
    have hst := decD_step (d := a.d) (seen := seen) (xs := ys) h0 (fun h => by rcases h with h | h | h <;> first | omega | exact hns h)
    have hWa := hW2.take (toN ys)
    have hWv := hWa.drop (fromN ys)
    have hal : (ys.take (toN ys)).length = toN ys := (by rw [List.length_take]; omega)
    have hvl : ((ys.take (toN ys)).drop (fromN ys)).length = toN ys - fromN ys := (by rw [List.length_drop, hal])
    have hf1 : fOf (ys.take (toN ys)) 1 = fOf ys 1 := (by rw [fOf_take, if_pos (by omega)])
    refine cR <| zM rfl <| ?_
    refine zV (v_indexAddr (lo := 1) rfl rfl rfl Tryz.underlying25 sz_5 rfl (by omega)) rfl ?_
    refine zV (v_load1 rfl rfl one_5 (cellOld (fun h => h) (hW2.get (fOf_get (by omega))))) rfl ?_
    refine zV (v_indexAddrA (lo := (fOf ys 1).toNat) rfl rfl rfl Tryz.underlying224 sz_4 (by omega) (by omega)) rfl ?_
    refine WL.store1 rfl rfl rfl rfl one_4 (by rw [show (seenL seen).length = 256 by simp [seenL]]; omega) (.none rfl) rfl ?_
    refine WL.as (L' := .row g4 a.cells :: (K ++ (E ++ (KO ++ [.row g5 (seenL (fOf ys 1 :: seen)), .row g3 (fltL 0 0 ⟨#[]⟩), .row g2 AtL.zero.cells])))) (by rw [← seenL_set seen h1.1 h1.2, Nat.zero_add, Nat.mul_one]) ?_
    refine zR <| zV (v_build rfl rfl zero_37 plc_37 rfl) rfl <| WL.alloc rfl zero_37 (.none rfl) rfl rfl <| ?_
    intro g9 hg9
    refine zW many_37 rfl rfl <| zN <| ?_
    refine WC.cut (fun y : Bool × Int × ByteArray × DecS => [(0, .slice (some ⟨b, o2, none⟩) ys.length c2), (2, .pointer (some ⟨g2, 0, none⟩)), (3, .pointer (some ⟨g3, 0, none⟩)), (4, .pointer (some ⟨g4, 0, none⟩)), (5, .pointer (some ⟨g5, 0, none⟩)), (7, .int .i64 (toN ys)), (9, .pointer (some ⟨g9, 0, none⟩))]) (fun y => .row g9 (fltL (if y.1 then 0 else 3) y.2.1 y.2.2.1) :: .row g4 y.2.2.2.a.cells :: (y.2.2.2.K ++ (y.2.2.2.E ++ (y.2.2.2.KO ++ [.row g5 (seenL (fOf ys 1 :: seen)), .row g3 (fltL 0 0 ⟨#[]⟩), .row g2 AtL.zero.cells])))) (fun y => AtOwn y.2.2.2.K y.2.2.2.a ∧ Vec 2 y.2.2.2.a.oad y.2.2.2.a.others.length y.2.2.2.a.oc (othsL y.2.2.2.a.others) y.2.2.2.E ∧ (∀ o ∈ y.2.2.2.a.others, OthOwn y.2.2.2.KO o) ∧ y.2.2.2.a.others.length ≤ a.others.length + 1 ∧ ((8 : Int) ∉ fOf ys 1 :: seen → y.2.2.2.a.cad = none ∧ y.2.2.2.a.cc = 0) ∧
    (y.1 = false → stepD a.d (ys.take (toN ys)) ((ys.take (toN ys)).drop (fromN ys)) = .inr (y.2.1, y.2.2.1)) ∧ (y.1 = true → y.2.1 = 0 ∧ y.2.2.1 = ⟨#[]⟩ ∧ stepD a.d (ys.take (toN ys)) ((ys.take (toN ys)).drop (fromN ys)) = .inl y.2.2.2.a.d)) ?_ ?_
    ·
     refine cR <| zM rfl <| ?_
     refine zV (v_indexAddr (lo := 1) rfl rfl rfl Tryz.underlying25 sz_5 rfl (by omega)) rfl ?_
     refine zV (v_load1 rfl rfl one_5 (cellOld (fun h => h) (hW2.get (fOf_get (by omega))))) rfl ?_
     refine zV (v_conv rfl rfl Tryz.underlying3 Tryz.underlying5 (w_i64 (by omega) (by omega))) rfl ?_
     refine zK ck_121 rfl ?_
     intro w hS
     refine Calls.then (isKnown_c w (fOf ys 1)) hS ?_
     refine zN ?_
     refine WC.cond_d rfl (fun h39 => ?_) (fun h39 => ?_)
     refine WC.orders mixed <| rF 2 [0, 1, 2, 3, 4, 5, 6] <| pV (v_move rfl rfl) rfl <| pV (v_move rfl rfl) rfl <| ?_
     refine pV ((v_slice_hi (hi := toN ys) rfl rfl rfl Tryz.underlying25 sz_5 rfl (by omega))) rfl ?_
     refine pV (v_move rfl rfl) rfl <| pV (v_move rfl rfl) rfl <| pV (v_move rfl rfl) rfl <| ?_
     refine pV ((v_slice_lh (lo := fromN ys) (hi := toN ys) rfl rfl rfl rfl Tryz.underlying25 sz_5 rfl rfl (by omega) (by omega))) rfl ?_
     refine WP.nil <| rO 0 [7, 8] <| zK ck_137 rfl <| ?_
     intro w1 hS
     have hc := take_u w0 w1 g4 b o2 c2 (sAddr o2 (fromN ys) c2 1) (c2 - fromN ys) (ys.take (toN ys)) ((ys.take (toN ys)).drop (fromN ys)) a K (.row g9 (fltL 0 0 ⟨#[]⟩) :: (E ++ (KO ++ [.row g5 (seenL (fOf ys 1 :: seen)), .row g3 (fltL 0 0 ⟨#[]⟩), .row g2 AtL.zero.cells]))) hG hZ hWa hWv (by omega) (by omega) (by omega) (by rw [hf1]; exact h39) hA hSn.h0 hSn.h1 (fun t et => hSn.bit t (by omega) (.inr (by rw [← et, hf1]; exact hns))) (fun e8 => by
       rw [hf1] at e8
       rw [e8] at hns
       exact ⟨(h8 hns).1, (h8 hns).2, hSn.com hns⟩) (St.front (R := .row g4 a.cells :: K) (L := E ++ (KO ++ [.row g5 (seenL (fOf ys 1 :: seen)), .row g3 (fltL 0 0 ⟨#[]⟩), .row g2 AtL.zero.cells])) [.row g9 (fltL 0 0 ⟨#[]⟩)] hS)
     rw [hal, hvl] at hc
     refine hc.mono ?_
     rintro e w' ⟨ok, s, d, a', K', rfl, hA', q1, q2, q3, q4, hS', hF, hT⟩
     refine ⟨_, _, rfl, hS', ?_⟩
     refine zW many_37 rfl rfl <| WL.as (L' := .row g4 a'.cells :: (K' ++ (.row g9 (fltL (if ok then 0 else 3) s d) :: (E ++ (KO ++ [.row g5 (seenL (fOf ys 1 :: seen)), .row g3 (fltL 0 0 ⟨#[]⟩), .row g2 AtL.zero.cells]))))) rfl <| WL.to (L' := .row g9 (fltL (if ok then 0 else 3) s d) :: .row g4 a'.cells :: (K' ++ (E ++ (KO ++ [.row g5 (seenL (fOf ys 1 :: seen)), .row g3 (fltL 0 0 ⟨#[]⟩), .row g2 AtL.zero.cells])))) (fun w hS => St.front (R := [.row g9 (fltL (if ok then 0 else 3) s d)]) (L := E ++ (KO ++ [.row g5 (seenL (fOf ys 1 :: seen)), .row g3 (fltL 0 0 ⟨#[]⟩), .row g2 AtL.zero.cells])) (.row g4 a'.cells :: K') hS) <| zH <| rD <| ?_
     exact WE.mid (ok, s, d, ⟨a', K', E, KO⟩) ⟨hA', by dsimp only; rw [q1, q2, q3]; exact hV, by dsimp only; rw [q1]; exact hO, by dsimp only; rw [q1]; omega, fun hn8 => by
     dsimp only
     rcases q4 with q4 | q4
     · rw [hf1] at q4; rw [q4] at hn8; exact absurd (List.mem_cons_self ..) hn8
     · rw [q4.1, q4.2]; exact h8 fun hm => hn8 (List.mem_cons_of_mem _ hm), hF, hT⟩ (.cons rfl (.cons rfl (.cons rfl (.cons rfl (.cons rfl (.cons rfl (.cons rfl .nil))))))) (.refl _)
     ·
      refine WC.orders mixed <| rF 2 [0, 1, 2, 3, 4, 5, 6] <| pV (v_move rfl rfl) rfl <| pV (v_move rfl rfl) rfl <| ?_
      refine pV ((v_slice_hi (hi := toN ys) rfl rfl rfl Tryz.underlying25 sz_5 rfl (by omega))) rfl ?_
      refine pV (v_move rfl rfl) rfl <| pV (v_move rfl rfl) rfl <| pV (v_move rfl rfl) rfl <| ?_
      refine pV ((v_slice_lh (lo := fromN ys) (hi := toN ys) rfl rfl rfl rfl Tryz.underlying25 sz_5 rfl rfl (by omega) (by omega))) rfl ?_
      refine WP.nil <| rO 0 [7, 8] <| zK ck_138 rfl <| ?_
      intro w1 hS
      have hc := other_u w0 w1 g4 b o2 c2 (sAddr o2 (fromN ys) c2 1) (c2 - fromN ys) (ys.take (toN ys)) ((ys.take (toN ys)).drop (fromN ys)) a E (.row g9 (fltL 0 0 ⟨#[]⟩) :: (K ++ (KO ++ [.row g5 (seenL (fOf ys 1 :: seen)), .row g3 (fltL 0 0 ⟨#[]⟩), .row g2 AtL.zero.cells]))) hWa hWv (by omega) (by omega) (by omega) (by rw [hf1]; exact h39) hV (by omega)
        ((St.front (R := E) (L := KO ++ [.row g5 (seenL (fOf ys 1 :: seen)), .row g3 (fltL 0 0 ⟨#[]⟩), .row g2 AtL.zero.cells]) (.row g9 (fltL 0 0 ⟨#[]⟩) :: .row g4 a.cells :: K) hS).perm (List.Perm.append_left E (List.Perm.swap _ _ _)))
      rw [hal, hvl] at hc
      refine hc.mono ?_
      rintro e w' ⟨ok, s, d, ad, oc, os, E', K2, rfl, hV', hol', hO', hS', hF, hT⟩
      refine ⟨_, _, rfl, hS', ?_⟩
      refine zW many_37 rfl rfl <| WL.as (L' := E' ++ (K2 ++ (.row g4 (AtL.cells { a with oad := ad, oc := oc, others := os }) :: .row g9 (fltL (if ok then 0 else 3) s d) :: (K ++ (KO ++ [.row g5 (seenL (fOf ys 1 :: seen)), .row g3 (fltL 0 0 ⟨#[]⟩), .row g2 AtL.zero.cells]))))) rfl <| ?_
      refine WL.to (L' := .row g9 (fltL (if ok then 0 else 3) s d) :: .row g4 (AtL.cells { a with oad := ad, oc := oc, others := os }) :: (K ++ (E' ++ ((K2 ++ KO) ++ [.row g5 (seenL (fOf ys 1 :: seen)), .row g3 (fltL 0 0 ⟨#[]⟩), .row g2 AtL.zero.cells])))) (fun w hS => by
        have := St.front (R := .row g4 (AtL.cells { a with oad := ad, oc := oc, others := os }) :: .row g9 (fltL (if ok then 0 else 3) s d) :: K) (L := KO ++ [.row g5 (seenL (fOf ys 1 :: seen)), .row g3 (fltL 0 0 ⟨#[]⟩), .row g2 AtL.zero.cells]) (E' ++ K2) (by simpa only [List.cons_append, List.append_assoc, List.nil_append] using hS)
        refine St.perm ?_ (List.Perm.swap _ _ _)
        simpa only [List.cons_append, List.append_assoc, List.nil_append] using this) ?_
      refine zH <| rD <| ?_
      exact WE.mid (ok, s, d, ⟨{ a with oad := ad, oc := oc, others := os }, K, E', K2 ++ KO⟩) ⟨⟨hA.path, hA.segs, hA.comms⟩, hV', hO' KO hO, hol', fun hn8 => h8 fun hm => hn8 (List.mem_cons_of_mem _ hm), hF, hT⟩ (.cons rfl (.cons rfl (.cons rfl (.cons rfl (.cons rfl (.cons rfl (.cons rfl .nil))))))) (.refl _)
    rintro ⟨ok, s, d, ⟨a', K', E', KO'⟩⟩ ⟨hA', hV', hO', hlo, h8', hF, hT⟩
    dsimp only at hA' hV' hO' hlo h8' hF hT
    dsimp only
    refine cS <| cR <| zV (v_loadN rfl rfl many_37 rfl allAt) rfl <| ?_
    skip
    cases ok
    refine zV (v_build rfl rfl zero_37 plc_37 rfl) rfl ?_
    refine zV (v_neq_aggT rfl rfl rfl eqk_37 eqg_37 rfl rfl (by (intro h; simp [fltL] at h))) rfl ?_
    refine zN <| cT rfl <| cS <| WC.orders mixed <| rF 3 [0] <| pV (v_build rfl rfl zero_35 plc_35 rfl) rfl <| WP.nil <| ?_
    refine WR.each (g := 2) [1, 2] (by kernel_rfl) (by decide) ?_
    refine ⟨?_, ?_⟩
    refine zV (v_loadN rfl rfl many_37 rfl allAt) rfl <| zH <| rO 0 [2, 3] <| zW many_35 rfl rfl <| zW many_37 rfl rfl <| zH <| rD <| eN <| cE <| eR <| eB <| eR <| eB <| eR <| ?_
    refine WE.ret2 (P := Tryz.prog) (.inl rfl) Tryz.results129 (resRow rfl many_35 rfl) (resRow rfl many_37 rfl) ?_
    have e0 : decD AtL.zero.d [] xs = .inr (s, d) := (by rw [hy, hst, hF rfl])
    exact fun w' h => by unfold AtDecP; rw [e0]; exact ⟨rfl, h.frm⟩
    refine zW many_35 rfl rfl <| zH <| rA 1 [1] rfl <| qV (v_loadN rfl rfl many_37 rfl allAt) rfl <| WQ.nilR <| rO 0 [3] <| zW many_37 rfl rfl <| zH <| rD <| eN <| cE <| eR <| eB <| eR <| ?_
    refine eB <| eR <| WE.ret2 (P := Tryz.prog) (.inl rfl) Tryz.results129 (resRow rfl many_35 rfl) (resRow rfl many_37 rfl) <| ?_
    have e0 : decD AtL.zero.d [] xs = .inr (s, d) := (by rw [hy, hst, hF rfl])
    exact fun w' h => by unfold AtDecP; rw [e0]; exact ⟨rfl, h.frm⟩
    obtain ⟨rfl, rfl, hst2⟩ := hT rfl
    refine zV (v_build rfl rfl zero_37 plc_37 rfl) rfl ?_
    refine zV (v_neq_aggF rfl rfl rfl eqk_37 eqg_37 rfl rfl (by rfl)) rfl ?_
    refine zN <| cF rfl <| cK <| eN <| WC.region <| zM rfl <| zM rfl <| ?_
    refine zV ((v_slice_lo (lo := toN ys) rfl rfl rfl Tryz.underlying25 sz_5 rfl (by omega))) rfl ?_
    refine zA rfl <| WL.nil <| eY <| ?_
    exact WE.next (ys.drop (toN ys), sAddr o2 (toN ys) c2 1, c2 - toN ys, fOf ys 1 :: seen, ⟨a', K', E', KO'⟩) (by dsimp only; rw [List.length_drop]; omega) ⟨by dsimp only; rw [List.length_drop]; omega, hW2.drop (toN ys), by dsimp only; rw [hy, hst, hst2], hA', hV', hO', by
    have := hSn.step (all := ys.take (toN ys)) (v := (ys.take (toN ys)).drop (fromN ys)) hWa.bys (by rw [hf1]; exact hns) hst2
    rwa [hf1] at this, h8'⟩ (.eq rfl (by dsimp only; rw [List.length_drop]) (.cons rfl (.cons rfl (.cons rfl (.cons rfl .nil))))) (.cons _ (.refl _))
  refine zN <| cF rfl <| cX <| eX <| eX <| eH <| eN <| cR <| zF rfl fld_35_9 <| zL rfl one_33 rfl <| zK ck_139 rfl <| ?_
  intro w1 hS
  refine (SortOth_c w0 w1 ((.row g4 a.cells :: K) ++ (KO ++ [.row g5 (seenL seen), .row g3 (fltL 0 0 ⟨#[]⟩), .row g2 AtL.zero.cells])) E a.oad a.oc a.others hV (St.front (R := E) (L := KO ++ [.row g5 (seenL seen), .row g3 (fltL 0 0 ⟨#[]⟩), .row g2 AtL.zero.cells]) (.row g4 a.cells :: K) hS) (by omega)).mono ?_
  rintro e w' ⟨rfl, zs, E2, hp, ha, hV2, hS'⟩
  refine ⟨_, E2 ++ (.row g4 a.cells :: (K ++ (KO ++ [.row g5 (seenL seen), .row g3 (fltL 0 0 ⟨#[]⟩), .row g2 AtL.zero.cells]))), rfl, hS', ?_⟩
  refine zR <| zV (v_loadN rfl rfl many_35 rfl allAt) rfl <| zV (v_build rfl rfl zero_37 plc_37 rfl) rfl <| zW many_35 rfl rfl <| zW many_37 rfl rfl <| zN <| cE <| WE.ret2 (P := Tryz.prog) (.inl rfl) Tryz.results129 (resRow rfl many_35 rfl) (resRow rfl many_37 rfl) <| ?_
  obtain rfl : ys = [] := List.length_eq_zero_iff.1 (by omega)
  have e0 : decD AtL.zero.d [] xs = .inl a.d := (by rw [hy, decD_nil])
  have hzl : a.others.length = zs.length := hp.length_eq.symm
  have ez : AtL.cells { a with others := zs } = a.cells := (by unfold AtL.cells; rw [hzl])
  refine fun w' h => ?_
  unfold AtDecP
  rw [e0]
  refine ⟨{ a with others := zs }, E2 ++ (K ++ KO), by rw [ez]; rfl, ?_, ⟨⟨?_, ?_, ?_⟩, ⟨E2, by rw [hzl] at hV2; exact hV2, fun e he => List.mem_append_left _ he⟩, ?_⟩, h.sub (List.Sublist.append_left (.cons _ (List.Sublist.append_left (List.sublist_append_left _ _) _)) _)⟩
  · have eo : zs.map othD = sortO (a.others.map othD) := sortO_is (hp.map _) hSn.nd ha
    show AtD.mk _ _ _ _ _ _ _ _ _ (zs.map othD) = AtD.mk _ _ _ _ _ _ _ _ _ (sortO (a.others.map othD))
    rw [eo]
    rfl
  · obtain ⟨E', r1, r2⟩ := hA.path
    exact ⟨E', r1, fun e he => List.mem_append_right _ (List.mem_append_left _ (r2 e he))⟩
  · intro s hs
    obtain ⟨E', r1, r2⟩ := hA.segs s hs
    exact ⟨E', r1, fun e he => List.mem_append_right _ (List.mem_append_left _ (r2 e he))⟩
  · obtain ⟨E', r1, r2⟩ := hA.comms
    exact ⟨E', r1, fun e he => List.mem_append_right _ (List.mem_append_left _ (r2 e he))⟩
  · intro o ho
    obtain ⟨E', r1, r2⟩ := hO o (hp.mem_iff.1 ho)
    exact ⟨E', r1, fun e he => List.mem_append_right _ (List.mem_append_right _ (r2 e he))⟩

theorem fOf_drop (xs : List Int) (k i : Nat) : fOf (xs.drop k) i = fOf xs (k + i) := by
  unfold fOf; rw [List.getD_eq_getElem?_getD, List.getD_eq_getElem?_getD, List.getElem?_drop]
def capD (c : CapL) : Int × List Int := (c.code, c.val)
def capsL (cs : List CapL) : List Value := cs.flatMap CapL.cells
theorem capsL_snoc (cs : List CapL) (c : CapL) : capsL (cs ++ [c]) = capsL cs ++ c.cells := by unfold capsL; rw [List.flatMap_append, List.flatMap_cons, List.flatMap_nil, List.append_nil]
def CapOwn (K : List Ent) (c : CapL) : Prop := ∃ E, BV c.ad c.cap c.val E ∧ ∀ e ∈ E, e ∈ K
def capsR (acc : List (Int × List Int)) : List Int → Option (List (Int × List Int))
  | [] => some acc
  | [_] => none
  | x :: n :: xs => if xs.length < n.toNat then none else capsR (acc ++ [(x, xs.take n.toNat)]) (xs.drop n.toNat)
termination_by xs => xs.length
decreasing_by simp only [List.length_drop, List.length_cons]; omega
theorem capsR_nil (acc : List (Int × List Int)) : capsR acc [] = some acc := by rw [capsR]
theorem capsR_cons (acc : List (Int × List Int)) (x n : Int) (xs : List Int) : capsR acc (x :: n :: xs) = if xs.length < n.toNat then none else capsR (acc ++ [(x, xs.take n.toNat)]) (xs.drop n.toNat) := by rw [capsR]
theorem capsR_bad (acc : List (Int × List Int)) {ys : List Int} (h0 : 0 < ys.length) (h : ys.length < 2 ∨ (ys.length : Int) < 2 + fOf ys 1) : capsR acc ys = none := by
  match ys, h0, h with
  | [y], _, _ => rw [capsR]
  | x :: n :: zs, _, h =>
    rw [capsR_cons, if_pos]
    have e : fOf (x :: n :: zs) 1 = n := rfl
    rw [e] at h
    simp only [List.length_cons] at h
    omega
def optsR (acc : List (Int × List Int)) : List Int → List (Int × List Int) ⊕ Int
  | [] => .inl acc
  | [_] => .inr 0
  | x :: n :: xs => if xs.length < n.toNat then .inr 0 else if x ≠ 2 then .inr 4 else match capsR acc (xs.take n.toNat) with
    | none => .inr 0
    | some acc' => optsR acc' (xs.drop n.toNat)
termination_by xs => xs.length
decreasing_by simp only [List.length_drop, List.length_cons]; omega
theorem optsR_nil (acc : List (Int × List Int)) : optsR acc [] = .inl acc := by rw [optsR]
theorem optsR_cons (acc : List (Int × List Int)) (x n : Int) (xs : List Int) : optsR acc (x :: n :: xs) = if xs.length < n.toNat then .inr 0 else if x ≠ 2 then .inr 4 else match capsR acc (xs.take n.toNat) with
    | none => .inr 0
    | some acc' => optsR acc' (xs.drop n.toNat) := by rw [optsR]
theorem optsR_bad (acc : List (Int × List Int)) {ys : List Int} (h0 : 0 < ys.length) (h : ys.length < 2 ∨ (ys.length : Int) < 2 + fOf ys 1) : optsR acc ys = .inr 0 := by
  match ys, h0, h with
  | [y], _, _ => rw [optsR]
  | x :: n :: zs, _, h =>
    rw [optsR_cons, if_pos]
    have e : fOf (x :: n :: zs) 1 = n := rfl
    rw [e] at h
    simp only [List.length_cons] at h
    omega
def asnB (xs : List Int) : Int := fOf xs 1 * 256 + fOf xs 2
def holdB (xs : List Int) : Int := fOf xs 3 * 256 + fOf xs 4
def idB (xs : List Int) : Int := addrI ((xs.take 9).drop 5)
def s04 : ByteArray := ⟨#[0, 4]⟩
def openR (xs : List Int) : List (Int × List Int) ⊕ (Int × ByteArray) :=
  if fOf xs 0 ≠ 4 then .inr (1, s04)
  else if asnB xs = 0 then .inr (2, ⟨#[]⟩)
  else if holdB xs = 1 ∨ holdB xs = 2 then .inr (6, ⟨#[]⟩)
  else if idB xs = 0 then .inr (3, ⟨#[]⟩)
  else if fOf xs 9 ≠ ((xs.drop 10).length : Int) then .inr (0, ⟨#[]⟩)
  else match optsR [] (xs.drop 10) with | .inl cs => .inl cs | .inr s => .inr (s, ⟨#[]⟩)
theorem part_u (w : World) (b o c : Nat) (xs : List Int) (hW : Win w b o c xs) (hn : xs.length ≤ 1000000) :
    Calls Tryz.prog 126 #[.slice (some ⟨b, o, none⟩) xs.length c] w fun e w' => ∃ (x : Int) (u r : Value) (ok : Bool), e = .returned (.tuple #[.int .i64 x, u, r, .bool ok]) ∧ Frm (fun _ => False) w w' ∧
      (ok = false → xs.length < 2 ∨ (xs.length : Int) < 2 + fOf xs 1) ∧
      (ok = true → ∃ (n : Nat) (zs : List Int), xs = x :: (n : Int) :: zs ∧ n ≤ zs.length ∧ u = .slice (some ⟨b, sAddr o 2 c 1, none⟩) (zs.take n).length (c - 2) ∧ r = .slice (some ⟨b, sAddr o (2 + n) c 1, none⟩) (zs.drop n).length (c - (2 + n))) := by
  by_cases h : xs.length < 2 ∨ (xs.length : Int) < 2 + fOf xs 1
  · exact (part_no w b o c xs hW hn h).mono fun e w' ⟨he, hF⟩ => ⟨0, _, _, false, he, hF, fun _ => h, fun e => by cases e⟩
  · obtain ⟨n, en⟩ := Int.eq_ofNat_of_zero_le (fOf_b hW.bys 1).1
    refine (part_ok w b o c xs hW hn (by omega) n en.symm (by omega)).mono fun e w' ⟨he, hF⟩ => ⟨fOf xs 0, _, _, true, he, hF, fun e => (by cases e), fun _ => ?_⟩
    obtain ⟨x, y, zs, rfl⟩ := two_of (ys := xs) (by omega)
    have ey : y = n := en
    subst ey
    have hl : (x :: (n : Int) :: zs).length = zs.length + 2 := rfl
    refine ⟨n, zs, rfl, by omega, ?_, ?_⟩
    · unfold winV; rw [List.length_take, Nat.min_eq_left (by omega), Nat.add_sub_cancel_left]
    · unfold winV; rw [List.length_drop, hl]; congr 1; omega

theorem Win.get2d {w : World} {b o c : Nat} {xs : List Int} (h : Win w b o c xs) (k : Nat) (hk : k + 2 ≤ xs.length) : Calls Tryz.prog 110 #[.slice (some ⟨b, sAddr o k c 1, none⟩) (xs.length - k) (c - k)] w fun e w' => e = .returned (.int .i64 (fOf xs k * 256 + fOf xs (k + 1))) ∧ Frm (fun _ => False) w w' := by
  have e := (h.drop k).get2 (by rw [List.length_drop]; omega)
  rw [List.length_drop, fOf_drop, fOf_drop] at e
  exact e
theorem Win.addrd {w : World} {b o c : Nat} {xs : List Int} (h : Win w b o c xs) (hk : 9 ≤ xs.length) : Calls Tryz.prog 125 #[.slice (some ⟨b, sAddr o 5 c 1, none⟩) (9 - 5) (c - 5)] w fun e w' => e = .returned (.int .u32 (idB xs)) ∧ Frm (fun _ => False) w w' := by
  have hl : ((xs.take 9).drop 5).length = 9 - 5 := by rw [List.length_drop, List.length_take]; omega
  have e := getAddr_c w b (sAddr o 5 c 1) (c - 5) ((xs.take 9).drop 5) ((h.take 9).drop 5) (by omega)
  rw [hl] at e
  exact e
structure CapS where
  ys : List Int
  o : Nat
  c : Nat
  cs : List CapL
  ad : Option Addr
  kc : Nat
  E : List Ent
  KO : List Ent
def MsL.opened (k : Int) (xs : List Int) (ad : Option Addr) (kc : Nat) (cs : List CapL) : MsL := { MsL.zero k with asn := asnB xs, hold := holdB xs, id := idB xs, kad := ad, kc := kc, caps := cs }
def OpenP (w0 w' : World) (gm : Nat) (k : Int) (xs : List Int) (L : List Ent) (e : Ending) : Prop :=
  ∃ (ok : Bool) (s : Int) (d : ByteArray) (ad : Option Addr) (kc : Nat) (cs : List CapL) (E K : List Ent), e = .returned (.agg (fltL (if ok then 0 else 2) s d).toArray) ∧ St (fun _ => False) w0 w' (.row gm (MsL.opened k xs ad kc cs).cells :: (E ++ (K ++ L))) ∧
    Vec 2 ad cs.length kc (capsL cs) E ∧ (∀ c ∈ cs, CapOwn K c) ∧ (ok = false → openR xs = .inr (s, d)) ∧ (ok = true → s = 0 ∧ d = ⟨#[]⟩ ∧ openR xs = .inl (cs.map capD))
set_option maxHeartbeats 4000000 in
theorem readOpen_c (w0 w1 : World) (gm b o c : Nat) (k : Int) (xs : List Int) (L : List Ent) (hW : Win w0 b o c xs) (h10 : 10 ≤ xs.length) (hn : xs.length ≤ 90000) (hS0 : St (fun _ => False) w0 w1 (.row gm (MsL.zero k).cells :: L)) :
    Calls Tryz.prog 113 #[.pointer (some ⟨gm, 0, none⟩), .slice (some ⟨b, o, none⟩) xs.length c] w1 fun e w' => OpenP w0 w' gm k xs L e := by
  have hle := hW.le
  have h9 := fOf_b hW.bys 9
  refine enter Tryz.func113 rfl Tryz.ntmps113 rfl hS0 ?_
  refine cR <| WL.alloc rfl zero_37 (.none rfl) rfl rfl <| ?_
  intro g4 hg4
  refine zN <| cS <| WC.orders mixed <| rF 12 [0, 1, 2, 3, 4, 6, 7, 9, 10] <| pV (v_move rfl rfl) rfl <| pV (v_move rfl rfl) rfl <| pV (v_move rfl rfl) rfl <| pV (v_move rfl rfl) rfl <| ?_
  refine pV ((v_slice_lo (lo := 1) rfl rfl rfl Tryz.underlying25 sz_5 rfl (by omega))) rfl ?_
  refine pV (v_move rfl rfl) rfl ?_
  refine pV ((v_slice_lo (lo := 3) rfl rfl rfl Tryz.underlying25 sz_5 rfl (by omega))) rfl ?_
  refine pV (v_move rfl rfl) rfl ?_
  refine pV ((v_slice_lh (lo := 5) (hi := 9) rfl rfl rfl rfl Tryz.underlying25 sz_5 rfl rfl (by omega) (by omega))) rfl ?_
  refine WP.nil <| rA 7 [5, 8, 11, 12, 13] rfl <| ?_
  refine WQ.call _ rfl rfl ck_110 (.none rfl) rfl rfl (fun w hS => Calls.still ((hW.st hS).get2d 1 (by omega)) hS) ?_
  refine WQ.call _ rfl rfl ck_110 (.none rfl) rfl rfl (fun w hS => Calls.still ((hW.st hS).get2d 3 (by omega)) hS) ?_
  refine WQ.call _ rfl rfl ck_125 (.none rfl) rfl rfl (fun w hS => Calls.still ((hW.st hS).addrd (by omega)) hS) ?_
  refine qV (v_nilCheck rfl rfl) rfl <| qV (v_fieldAddr0 rfl rfl fld_39_1) rfl <| WQ.nilR <| rO 6 [14] <| zO one_3 rfl rfl <| zH <| rF 4 [15, 16] <| pV (v_nilCheck rfl rfl) rfl <| pV (v_fieldAddr0 rfl rfl fld_39_2) rfl <| WP.nil <| rO 3 [17] <| zO one_3 rfl rfl <| zH <| rF 1 [18, 19] <| ?_
  refine pV (v_nilCheck rfl rfl) rfl <| pV (v_fieldAddr0 rfl rfl fld_39_3) rfl <| WP.nil <| rO 0 [20] <| zO one_23 rfl rfl <| WL.as (L' := .row g4 (fltL 0 0 ⟨#[]⟩) :: .row gm (MsL.opened k xs none 0 []).cells :: L) rfl <| zH <| rD <| eN <| cR <| zM rfl <| ?_
  refine zV ((v_slice_lo (lo := 10) rfl rfl rfl Tryz.underlying25 sz_5 rfl (by omega))) rfl ?_
  rw [show xs.length - 10 = (xs.drop 10).length by rw [List.length_drop]]
  refine zA rfl <| zN <| ?_
  refine WC.cut (fun _ : Unit => [(0, .pointer (some ⟨gm, 0, none⟩)), (4, .pointer (some ⟨g4, 0, none⟩)), (5, .slice (some ⟨b, sAddr o 10 c 1, none⟩) (xs.drop 10).length (c - 10))]) (fun _ => .row g4 (fltL 0 0 ⟨#[]⟩) :: .row gm (MsL.opened k xs none 0 []).cells :: L) (fun _ => openR xs = match optsR [] (xs.drop 10) with | .inl cs => .inl cs | .inr s => .inr (s, ⟨#[]⟩)) ?_ ?_
  refine cB <| cR <| zM rfl <| ?_
  refine zV (v_indexAddr (lo := 0) rfl rfl rfl Tryz.underlying25 sz_5 rfl (by omega)) rfl ?_
  refine zV (v_load1 rfl rfl one_5 (cellOld (fun h => h) (hW.get (fOf_get (by omega))))) rfl ?_
  refine zT (v_neq rfl rfl rfl) rfl (fun h38 => ?_) (fun h38 => ?_)
  refine zA rfl <| zN <| cT rfl <| cR <| zV (v_build rfl rfl zero_37 plc_37 rfl) rfl <| zW many_37 rfl rfl <| zN <| cE <| eB <| eR <| tR Tryz.results113 (resRow rfl many_37 rfl) <| ?_
  have e0 : openR xs = .inr (1, s04) := (by unfold openR; rw [if_pos h38])
  exact fun w' h => ⟨false, 1, s04, none, 0, [], [], [], rfl, h.sub (.cons _ (.refl _)), Vec.nil 2, (fun _ h => by cases h), fun _ => e0, fun e => by cases e⟩
  refine zA rfl <| zN <| cF rfl <| cR <| zM rfl <| zC rfl <| zF rfl fld_39_1 <| zL rfl one_3 rfl <| ?_
  refine zT (v_eql rfl rfl rfl) rfl (fun h45 => ?_) (fun h45 => ?_)
  refine zA rfl <| zN <| cT rfl <| cR <| zV (v_build rfl rfl zero_37 plc_37 rfl) rfl <| zW many_37 rfl rfl <| zN <| cE <| eB <| eR <| tR Tryz.results113 (resRow rfl many_37 rfl) <| ?_
  have e0 : openR xs = .inr (2, ⟨#[]⟩) := (by unfold openR; rw [if_neg h38, if_pos (show asnB xs = 0 from h45)])
  exact fun w' h => ⟨false, 2, _, none, 0, [], [], [], rfl, h.sub (.cons _ (.refl _)), Vec.nil 2, (fun _ h => by cases h), fun _ => e0, fun e => by cases e⟩
  refine zA rfl <| zN <| cF rfl <| cR <| zM rfl <| zC rfl <| zF rfl fld_39_2 <| zL rfl one_3 rfl <| ?_
  refine zT (v_eql rfl rfl rfl) rfl (fun h52 => ?_) (fun h52 => ?_)
  refine zM rfl ?_
  iterate 5 refine WL.sk rfl ?_
  refine zP rfl <| zA rfl <| zN <| cT rfl <| cR <| zV (v_build rfl rfl zero_37 plc_37 rfl) rfl <| zW many_37 rfl rfl <| zN <| cE <| eB <| eR <| tR Tryz.results113 (resRow rfl many_37 rfl) <| ?_
  have e0 : openR xs = .inr (6, ⟨#[]⟩) := (by unfold openR; rw [if_neg h38, if_neg (show ¬ asnB xs = 0 from h45), if_pos (show holdB xs = 1 ∨ holdB xs = 2 from .inl h52)])
  exact fun w' h => ⟨false, 6, _, none, 0, [], [], [], rfl, h.sub (.cons _ (.refl _)), Vec.nil 2, (fun _ h => by cases h), fun _ => e0, fun e => by cases e⟩
  refine zM rfl <| zS (v_move rfl rfl) rfl <| zS (v_nilCheck rfl rfl) rfl <| zS (v_fieldAddr0 rfl rfl fld_39_2) rfl <| zS (v_load1 rfl rfl one_3 (cellAt rfl)) rfl <| ?_
  refine WL.test (v_eql rfl rfl rfl) (.some rfl rfl rfl) rfl rfl (fun h58 => ?_) (fun h58 => ?_)
  refine zQ rfl <| zA rfl <| zN <| cT rfl <| cR <| zV (v_build rfl rfl zero_37 plc_37 rfl) rfl <| zW many_37 rfl rfl <| zN <| cE <| eB <| eR <| tR Tryz.results113 (resRow rfl many_37 rfl) <| ?_
  have e0 : openR xs = .inr (6, ⟨#[]⟩) := (by unfold openR; rw [if_neg h38, if_neg (show ¬ asnB xs = 0 from h45), if_pos (show holdB xs = 1 ∨ holdB xs = 2 from .inr h58)])
  exact fun w' h => ⟨false, 6, _, none, 0, [], [], [], rfl, h.sub (.cons _ (.refl _)), Vec.nil 2, (fun _ h => by cases h), fun _ => e0, fun e => by cases e⟩
  refine zQ rfl <| zA rfl <| zN <| cF rfl <| cR <| zM rfl <| zC rfl <| zF rfl fld_39_3 <| zL rfl one_23 rfl <| ?_
  refine zT (v_eql rfl rfl rfl) rfl (fun h66 => ?_) (fun h66 => ?_)
  refine zA rfl <| zN <| cT rfl <| cR <| zV (v_build rfl rfl zero_37 plc_37 rfl) rfl <| zW many_37 rfl rfl <| zN <| cE <| eB <| eR <| tR Tryz.results113 (resRow rfl many_37 rfl) <| ?_
  have e0 : openR xs = .inr (3, ⟨#[]⟩) := (by unfold openR; rw [if_neg h38, if_neg (show ¬ asnB xs = 0 from h45), if_neg (show ¬ (holdB xs = 1 ∨ holdB xs = 2) from fun h => h.elim h52 h58), if_pos (show idB xs = 0 from h66)])
  exact fun w' h => ⟨false, 3, _, none, 0, [], [], [], rfl, h.sub (.cons _ (.refl _)), Vec.nil 2, (fun _ h => by cases h), fun _ => e0, fun e => by cases e⟩
  refine zA rfl <| zN <| cF rfl <| cR <| zM rfl <| ?_
  refine zV (v_indexAddr (lo := 9) rfl rfl rfl Tryz.underlying25 sz_5 rfl (by omega)) rfl ?_
  refine zV (v_load1 rfl rfl one_5 (cellOld (fun h => h) (hW.get (fOf_get (by omega))))) rfl ?_
  refine zV (v_conv rfl rfl Tryz.underlying3 Tryz.underlying5 (w_i64 (by omega) (by omega))) rfl ?_
  refine zM rfl <| zV (v_len_slice rfl rfl Tryz.underlying25) rfl <| ?_
  refine zT (v_neq rfl rfl rfl) rfl (fun h75 => ?_) (fun h75 => ?_)
  refine zA rfl <| zN <| cT rfl <| cR <| zV (v_build rfl rfl zero_37 plc_37 rfl) rfl <| zW many_37 rfl rfl <| zN <| cE <| eB <| eR <| tR Tryz.results113 (resRow rfl many_37 rfl) <| ?_
  have e0 : openR xs = .inr (0, ⟨#[]⟩) := (by unfold openR; rw [if_neg h38, if_neg (show ¬ asnB xs = 0 from h45), if_neg (show ¬ (holdB xs = 1 ∨ holdB xs = 2) from fun h => h.elim h52 h58), if_neg (show ¬ idB xs = 0 from h66), if_pos h75])
  exact fun w' h => ⟨false, 0, _, none, 0, [], [], [], rfl, h.sub (.cons _ (.refl _)), Vec.nil 2, (fun _ h => by cases h), fun _ => e0, fun e => by cases e⟩
  refine zA rfl <| zN <| cF rfl <| cK <| eY <| ?_
  exact WE.mid () (by unfold openR; rw [if_neg h38, if_neg (show ¬ asnB xs = 0 from h45), if_neg (show ¬ (holdB xs = 1 ∨ holdB xs = 2) from fun h => h.elim h52 h58), if_neg (show ¬ idB xs = 0 from h66), if_neg h75]; try (cases optsR [] (xs.drop 10) <;> rfl)) (.cons rfl (.cons rfl (.cons rfl .nil))) (.refl _)
  intro _ hop
  refine cS <| cB <| ?_
  refine WC.loop (fun x : CapS => [(0, .pointer (some ⟨gm, 0, none⟩)), (4, .pointer (some ⟨g4, 0, none⟩)), (5, .slice (some ⟨b, x.o, none⟩) x.ys.length x.c)]) (fun x => x.E ++ (.row g4 (fltL 0 0 ⟨#[]⟩) :: .row gm (MsL.opened k xs x.ad x.kc x.cs).cells :: (x.KO ++ L))) (fun x => x.cs.length + x.ys.length ≤ xs.length ∧ Win w0 b x.o x.c x.ys ∧ optsR [] (xs.drop 10) = optsR (x.cs.map capD) x.ys ∧ Vec 2 x.ad x.cs.length x.kc (capsL x.cs) x.E ∧ ∀ c ∈ x.cs, CapOwn x.KO c) (fun x => x.ys.length) ⟨xs.drop 10, sAddr o 10 c 1, c - 10, [], none, 0, [], []⟩ ⟨by simp, hW.drop 10, rfl, Vec.nil 2, fun _ h => by cases h⟩ (.cons rfl (.cons rfl (.cons rfl .nil))) (.refl _) ?_
  rintro ⟨ys, o2, c2, cs, ad, kc, E, KO⟩ ⟨hl, hW2, hy, hV, hO⟩
  dsimp only at hl hW2 hy hV hO
  dsimp only
  refine cS <| cR <| zM rfl <| zV (v_len_slice rfl rfl Tryz.underlying25) rfl <| ?_
  refine zT (v_gtr rfl rfl rfl) rfl (fun h79 => ?_) (fun h79 => ?_)
  refine zN <| cT rfl <| cK <| eN <| cB <| cR <| zM rfl <| zK ck_126 rfl <| ?_
  intro w1 hS
  refine (part_u w1 b o2 c2 ys (hW2.st hS) (by omega)).mono ?_
  rintro e w' ⟨x, u, r, ok, rfl, hF, hbad, hok⟩
  refine ⟨_, _, rfl, hS.ext hF, ?_⟩
  refine zM rfl <| zX rfl <| zX rfl <| zX rfl <| zX rfl <| zA rfl <| zA rfl <| zA rfl <| zA rfl <| zN <| cS <| cR <| zM rfl <| ?_
  skip
  cases ok
  refine zV (v_not rfl rfl rfl) rfl <| zN <| cT rfl <| cR <| zV (v_build rfl rfl zero_37 plc_37 rfl) rfl <| zW many_37 rfl rfl <| zN <| cE <| eR <| eB <| eR <| eB <| eR <| ?_
  refine tR Tryz.results113 (resRow rfl many_37 rfl) ?_
  have e0 : openR xs = .inr (0, ⟨#[]⟩) := (by rw [hop, hy, optsR_bad _ (by omega) (hbad rfl)])
  exact fun w' h => ⟨false, 0, _, ad, kc, cs, E, KO, rfl, by
    have := St.front (R := [.row gm (MsL.opened k xs ad kc cs).cells]) (L := KO ++ L) E (h.sub (List.Sublist.append_left (.cons _ (.refl _)) _))
    exact this, hV, hO, fun _ => e0, fun e => by cases e⟩
  refine zV (v_not rfl rfl rfl) rfl <| zN <| cF rfl <| cK <| eN <| cS <| cR <| ?_
  obtain ⟨n, zs, rfl, hnz, rfl, rfl⟩ := hok rfl
  have hcl : (x :: (n : Int) :: zs).length = zs.length + 2 := rfl
  rw [optsR_cons, Int.toNat_natCast, if_neg (by omega)] at hy
  have htl : (zs.take n).length = n := (by rw [List.length_take]; omega)
  have hdl : (zs.drop n).length = zs.length - n := (by rw [List.length_drop])
  refine zM rfl ?_
  refine zT (v_neq rfl rfl rfl) rfl (fun h91 => ?_) (fun h91 => ?_)
  refine zN <| cT rfl <| cR <| zV (v_build rfl rfl zero_37 plc_37 rfl) rfl <| zW many_37 rfl rfl <| zN <| cE <| eR <| eB <| eR <| eB <| eR <| tR Tryz.results113 (resRow rfl many_37 rfl) <| ?_
  have e0 : openR xs = .inr (4, ⟨#[]⟩) := (by rw [hop, hy, if_pos h91])
  exact fun w' h => ⟨false, 4, _, ad, kc, cs, E, KO, rfl, by
    have := St.front (R := [.row gm (MsL.opened k xs ad kc cs).cells]) (L := KO ++ L) E (h.sub (List.Sublist.append_left (.cons _ (.refl _)) _))
    exact this, hV, hO, fun _ => e0, fun e => by cases e⟩
  refine zN <| cF rfl <| cK <| eN <| cS <| cB <| ?_
  refine WC.loop (fun y : CapS => [(0, .pointer (some ⟨gm, 0, none⟩)), (4, .pointer (some ⟨g4, 0, none⟩)), (7, .slice (some ⟨b, y.o, none⟩) y.ys.length y.c), (8, .slice (some ⟨b, sAddr o2 (2 + n) c2 1, none⟩) (zs.drop n).length (c2 - (2 + n)))]) (fun y => y.E ++ (.row g4 (fltL 0 0 ⟨#[]⟩) :: .row gm (MsL.opened k xs y.ad y.kc y.cs).cells :: (y.KO ++ L))) (fun y => y.cs.length + y.ys.length + (zs.drop n).length ≤ xs.length ∧ Win w0 b y.o y.c y.ys ∧ capsR (cs.map capD) (zs.take n) = capsR (y.cs.map capD) y.ys ∧ Vec 2 y.ad y.cs.length y.kc (capsL y.cs) y.E ∧ ∀ c ∈ y.cs, CapOwn y.KO c) (fun y => y.ys.length) ⟨zs.take n, sAddr o2 2 c2 1, c2 - 2, cs, ad, kc, E, KO⟩ ⟨by dsimp only; omega, by
  have h1 := (hW2.take (2 + n)).drop 2
  rwa [show ((x :: (n : Int) :: zs).take (2 + n)).drop 2 = zs.take n by rw [show 2 + n = n + 1 + 1 by omega]; rfl] at h1, rfl, hV, hO⟩ (.cons rfl (.cons rfl (.cons rfl (.cons rfl .nil)))) (.refl _) ?_
  rintro ⟨vs, o3, c3, ds, ad2, kc2, E2, KO2⟩ ⟨hl3, hW3, hy3, hV3, hO3⟩
  dsimp only at hl3 hW3 hy3 hV3 hO3
  dsimp only
  refine cS <| cR <| zM rfl <| zV (v_len_slice rfl rfl Tryz.underlying25) rfl <| ?_
  refine zT (v_gtr rfl rfl rfl) rfl (fun h95 => ?_) (fun h95 => ?_)
  refine zN <| cT rfl <| cK <| eN <| cB <| cR <| zM rfl <| zK ck_126 rfl <| ?_
  intro w1 hS
  refine (part_u w1 b o3 c3 vs (hW3.st hS) (by omega)).mono ?_
  rintro e w' ⟨x3, u3, r3, ok3, rfl, hF3, hbad3, hok3⟩
  refine ⟨_, _, rfl, hS.ext hF3, ?_⟩
  refine zM rfl <| zX rfl <| zX rfl <| zX rfl <| zX rfl <| zA rfl <| zA rfl <| zA rfl <| zA rfl <| zN <| cS <| cR <| zM rfl <| ?_
  skip
  cases ok3
  refine zV (v_not rfl rfl rfl) rfl <| zN <| cT rfl <| cR <| zV (v_build rfl rfl zero_37 plc_37 rfl) rfl <| zW many_37 rfl rfl <| zN <| cE <| eR <| eB <| eR <| eB <| eR <| ?_
  refine eB <| eR <| eB <| eR <| tR Tryz.results113 (resRow rfl many_37 rfl) <| ?_
  have e0 : openR xs = .inr (0, ⟨#[]⟩) := (by rw [hop, hy, if_neg (by omega), hy3, capsR_bad _ (by omega) (hbad3 rfl)])
  exact fun w' h => ⟨false, 0, _, ad2, kc2, ds, E2, KO2, rfl, by
    have := St.front (R := [.row gm (MsL.opened k xs ad2 kc2 ds).cells]) (L := KO2 ++ L) E2 (h.sub (List.Sublist.append_left (.cons _ (.refl _)) _))
    exact this, hV3, hO3, fun _ => e0, fun e => by cases e⟩
  refine zV (v_not rfl rfl rfl) rfl <| zN <| cF rfl <| cK <| eN <| cS <| WC.orders mixed <| rF 8 [0, 1, 2, 3, 5, 6] <| ?_
  obtain ⟨n3, zs3, rfl, hnz3, rfl, rfl⟩ := hok3 rfl
  have hcl3 : (x3 :: (n3 : Int) :: zs3).length = zs3.length + 2 := rfl
  rw [capsR_cons, Int.toNat_natCast, if_neg (by omega)] at hy3
  have htl3 : (zs3.take n3).length = n3 := (by rw [List.length_take]; omega)
  have hdl3 : (zs3.drop n3).length = zs3.length - n3 := (by rw [List.length_drop])
  have hx3 := hW3.bys x3 (List.mem_cons_self ..)
  have hWv : Win w0 b (sAddr o3 2 c3 1) (c3 - 2) (zs3.take n3) := (by
    have h1 := (hW3.take (2 + n3)).drop 2
    rwa [show ((x3 :: (n3 : Int) :: zs3).take (2 + n3)).drop 2 = zs3.take n3 by rw [show 2 + n3 = n3 + 1 + 1 by omega]; rfl] at h1)
  refine pV (v_move rfl rfl) rfl <| pV (v_move rfl rfl) rfl <| pV (v_nilCheck rfl rfl) rfl <| pV (v_fieldAddr0 rfl rfl fld_39_4) rfl <| pV (v_move rfl rfl) rfl <| pV (v_move rfl rfl) rfl <| WP.nil <| ?_
  refine WR.each (g := 7) [4, 7] (by kernel_rfl) (by decide) ?_
  refine ⟨?_, ?_⟩
  refine zV (v_load1 rfl rfl one_29 (cellAt (v := .slice ad2 ds.length kc2) rfl)) rfl <| zH <| rO 6 [7] <| zK ck_86 rfl <| ?_
  intro w1 hS
  refine (CloneB_c w1 b (sAddr o3 2 c3 1) (c3 - 2) (zs3.take n3) (hWv.st hS) (by omega)).mono ?_
  rintro e w' ⟨_, rfl, ad113, c113, E113, rfl, hV113, hS'⟩
  refine ⟨_, _, rfl, hS.join hS', ?_⟩
  refine zH <| rF 5 [8] <| pV (v_build rfl rfl zero_140 plc_140 rfl) rfl <| WP.nil <| rO 3 [9, 10] <| zB Tryz.underlying29 sz_140 zero_140 rfl rfl <| ?_
  intro g115 hg115
  refine WL.as (L' := .row g115 (CapL.cells ⟨x3, ad113, c113, zs3.take n3⟩) :: (E113 ++ (E2 ++ (.row g4 (fltL 0 0 ⟨#[]⟩) :: .row gm (MsL.opened k xs ad2 kc2 ds).cells :: (KO2 ++ L))))) rfl ?_
  refine WL.to (L' := E2 ++ (.row g115 (CapL.cells ⟨x3, ad113, c113, zs3.take n3⟩) :: (E113 ++ (.row g4 (fltL 0 0 ⟨#[]⟩) :: .row gm (MsL.opened k xs ad2 kc2 ds).cells :: (KO2 ++ L))))) (fun w hS => by
    have := St.front (R := E2) (L := .row g4 (fltL 0 0 ⟨#[]⟩) :: .row gm (MsL.opened k xs ad2 kc2 ds).cells :: (KO2 ++ L)) (.row g115 (CapL.cells ⟨x3, ad113, c113, zs3.take n3⟩) :: E113) (by simpa only [List.cons_append, List.append_assoc, List.nil_append] using hS)
    simpa only [List.cons_append, List.append_assoc, List.nil_append] using this) ?_
  refine WL.appendL rfl rfl rfl Tryz.underlying29 Tryz.underlying29 sz_140 by_140 zero_140 rfl rfl hV3 (new := CapL.cells ⟨x3, ad113, c113, zs3.take n3⟩) (fun _ => ⟨g115, 0, rfl, fun w hS => allAt (g := g115) w hS⟩) rfl rfl (by omega) (.none rfl) rfl rfl ?_
  intro ad116 c116 E116 hV116 hr116
  rw [← capsL_snoc] at hV116
  rw [show ds.length + 1 = (ds ++ [(⟨x3, ad113, c113, zs3.take n3⟩ : CapL)]).length by rw [List.length_append]; rfl] at hV116 ⊢
  refine zH <| rF 1 [11, 12] <| pV (v_nilCheck rfl rfl) rfl <| pV (v_fieldAddr0 rfl rfl fld_39_4) rfl <| WP.nil <| rO 0 [13] <| zO one_29 rfl rfl <| WL.as (L' := E116 ++ (.row g115 (CapL.cells ⟨x3, ad113, c113, zs3.take n3⟩) :: (E113 ++ (.row g4 (fltL 0 0 ⟨#[]⟩) :: .row gm (MsL.opened k xs ad116 c116 (ds ++ [⟨x3, ad113, c113, zs3.take n3⟩])).cells :: (KO2 ++ L))))) rfl <| ?_
  refine WL.to (L' := E116 ++ (.row g4 (fltL 0 0 ⟨#[]⟩) :: .row gm (MsL.opened k xs ad116 c116 (ds ++ [⟨x3, ad113, c113, zs3.take n3⟩])).cells :: ((E113 ++ KO2) ++ L))) (fun w hS => by
    have h1 : St (fun _ => False) w0 w (E116 ++ (E113 ++ (.row g4 (fltL 0 0 ⟨#[]⟩) :: .row gm (MsL.opened k xs ad116 c116 (ds ++ [⟨x3, ad113, c113, zs3.take n3⟩])).cells :: (KO2 ++ L)))) := hS.sub (List.Sublist.append_left (.cons _ (.refl _)) _)
    refine h1.perm (List.Perm.append_left E116 ?_)
    have := List.perm_append_comm_assoc E113 [.row g4 (fltL 0 0 ⟨#[]⟩), .row gm (MsL.opened k xs ad116 c116 (ds ++ [⟨x3, ad113, c113, zs3.take n3⟩])).cells] (KO2 ++ L)
    simpa only [List.cons_append, List.append_assoc, List.nil_append] using this.symm) ?_
  refine zH <| rD <| eN <| WC.region <| zM rfl <| zA rfl <| WL.nil <| eY <| ?_
  exact WE.next ⟨zs3.drop n3, sAddr o3 (2 + n3) c3 1, c3 - (2 + n3), ds ++ [⟨x3, ad113, c113, zs3.take n3⟩], ad116, c116, E116, E113 ++ KO2⟩ (by dsimp only; omega) ⟨by dsimp only; rw [List.length_append, List.length_cons, List.length_nil]; omega, by
  have h1 := hW3.drop (2 + n3)
  rwa [show (x3 :: (n3 : Int) :: zs3).drop (2 + n3) = zs3.drop n3 by rw [show 2 + n3 = n3 + 1 + 1 by omega]; rfl] at h1, by dsimp only; rw [hy3, List.map_append]; rfl, hV116, fun c hc => by
  rcases List.mem_append.1 hc with hc | hc
  · obtain ⟨E', r1, r2⟩ := hO3 c hc
    exact ⟨E', r1, fun e he => List.mem_append_right _ (r2 e he)⟩
  · rcases List.mem_cons.1 hc with rfl | hc
    · exact ⟨E113, hV113, fun e he => List.mem_append_left _ he⟩
    · cases hc⟩ (.cons rfl (.cons rfl (.cons rfl (.cons rfl .nil)))) (.refl _)
  refine zK ck_86 rfl ?_
  intro w1 hS
  refine (CloneB_c w1 b (sAddr o3 2 c3 1) (c3 - 2) (zs3.take n3) (hWv.st hS) (by omega)).mono ?_
  rintro e w' ⟨_, rfl, ad113, c113, E113, rfl, hV113, hS'⟩
  refine ⟨_, _, rfl, hS.join hS', ?_⟩
  refine zH <| rF 6 [8] <| pV (v_build rfl rfl zero_140 plc_140 rfl) rfl <| WP.nil <| ?_
  refine WR.each (g := 5) [4, 9] (by kernel_rfl) (by decide) ?_
  refine ⟨?_, ?_⟩
  refine zV (v_load1 rfl rfl one_29 (cellAt (v := .slice ad2 ds.length kc2) rfl)) rfl <| zH <| rO 3 [9, 10] <| zB Tryz.underlying29 sz_140 zero_140 rfl rfl <| ?_
  intro g115 hg115
  refine WL.as (L' := .row g115 (CapL.cells ⟨x3, ad113, c113, zs3.take n3⟩) :: (E113 ++ (E2 ++ (.row g4 (fltL 0 0 ⟨#[]⟩) :: .row gm (MsL.opened k xs ad2 kc2 ds).cells :: (KO2 ++ L))))) rfl ?_
  refine WL.to (L' := E2 ++ (.row g115 (CapL.cells ⟨x3, ad113, c113, zs3.take n3⟩) :: (E113 ++ (.row g4 (fltL 0 0 ⟨#[]⟩) :: .row gm (MsL.opened k xs ad2 kc2 ds).cells :: (KO2 ++ L))))) (fun w hS => by
    have := St.front (R := E2) (L := .row g4 (fltL 0 0 ⟨#[]⟩) :: .row gm (MsL.opened k xs ad2 kc2 ds).cells :: (KO2 ++ L)) (.row g115 (CapL.cells ⟨x3, ad113, c113, zs3.take n3⟩) :: E113) (by simpa only [List.cons_append, List.append_assoc, List.nil_append] using hS)
    simpa only [List.cons_append, List.append_assoc, List.nil_append] using this) ?_
  refine WL.appendL rfl rfl rfl Tryz.underlying29 Tryz.underlying29 sz_140 by_140 zero_140 rfl rfl hV3 (new := CapL.cells ⟨x3, ad113, c113, zs3.take n3⟩) (fun _ => ⟨g115, 0, rfl, fun w hS => allAt (g := g115) w hS⟩) rfl rfl (by omega) (.none rfl) rfl rfl ?_
  intro ad116 c116 E116 hV116 hr116
  rw [← capsL_snoc] at hV116
  rw [show ds.length + 1 = (ds ++ [(⟨x3, ad113, c113, zs3.take n3⟩ : CapL)]).length by rw [List.length_append]; rfl] at hV116 ⊢
  refine zH <| rF 1 [11, 12] <| pV (v_nilCheck rfl rfl) rfl <| pV (v_fieldAddr0 rfl rfl fld_39_4) rfl <| WP.nil <| rO 0 [13] <| zO one_29 rfl rfl <| WL.as (L' := E116 ++ (.row g115 (CapL.cells ⟨x3, ad113, c113, zs3.take n3⟩) :: (E113 ++ (.row g4 (fltL 0 0 ⟨#[]⟩) :: .row gm (MsL.opened k xs ad116 c116 (ds ++ [⟨x3, ad113, c113, zs3.take n3⟩])).cells :: (KO2 ++ L))))) rfl <| ?_
  refine WL.to (L' := E116 ++ (.row g4 (fltL 0 0 ⟨#[]⟩) :: .row gm (MsL.opened k xs ad116 c116 (ds ++ [⟨x3, ad113, c113, zs3.take n3⟩])).cells :: ((E113 ++ KO2) ++ L))) (fun w hS => by
    have h1 : St (fun _ => False) w0 w (E116 ++ (E113 ++ (.row g4 (fltL 0 0 ⟨#[]⟩) :: .row gm (MsL.opened k xs ad116 c116 (ds ++ [⟨x3, ad113, c113, zs3.take n3⟩])).cells :: (KO2 ++ L)))) := hS.sub (List.Sublist.append_left (.cons _ (.refl _)) _)
    refine h1.perm (List.Perm.append_left E116 ?_)
    have := List.perm_append_comm_assoc E113 [.row g4 (fltL 0 0 ⟨#[]⟩), .row gm (MsL.opened k xs ad116 c116 (ds ++ [⟨x3, ad113, c113, zs3.take n3⟩])).cells] (KO2 ++ L)
    simpa only [List.cons_append, List.append_assoc, List.nil_append] using this.symm) ?_
  refine zH <| rD <| eN <| WC.region <| zM rfl <| zA rfl <| WL.nil <| eY <| ?_
  exact WE.next ⟨zs3.drop n3, sAddr o3 (2 + n3) c3 1, c3 - (2 + n3), ds ++ [⟨x3, ad113, c113, zs3.take n3⟩], ad116, c116, E116, E113 ++ KO2⟩ (by dsimp only; omega) ⟨by dsimp only; rw [List.length_append, List.length_cons, List.length_nil]; omega, by
  have h1 := hW3.drop (2 + n3)
  rwa [show (x3 :: (n3 : Int) :: zs3).drop (2 + n3) = zs3.drop n3 by rw [show 2 + n3 = n3 + 1 + 1 by omega]; rfl] at h1, by dsimp only; rw [hy3, List.map_append]; rfl, hV116, fun c hc => by
  rcases List.mem_append.1 hc with hc | hc
  · obtain ⟨E', r1, r2⟩ := hO3 c hc
    exact ⟨E', r1, fun e he => List.mem_append_right _ (r2 e he)⟩
  · rcases List.mem_cons.1 hc with rfl | hc
    · exact ⟨E113, hV113, fun e he => List.mem_append_left _ he⟩
    · cases hc⟩ (.cons rfl (.cons rfl (.cons rfl (.cons rfl .nil)))) (.refl _)
  refine zB Tryz.underlying29 sz_140 zero_140 rfl rfl ?_
  intro g115 hg115
  refine WL.as (L' := .row g115 (CapL.cells ⟨x3, ad113, c113, zs3.take n3⟩) :: (E113 ++ (E2 ++ (.row g4 (fltL 0 0 ⟨#[]⟩) :: .row gm (MsL.opened k xs ad2 kc2 ds).cells :: (KO2 ++ L))))) rfl ?_
  refine WL.to (L' := E2 ++ (.row g115 (CapL.cells ⟨x3, ad113, c113, zs3.take n3⟩) :: (E113 ++ (.row g4 (fltL 0 0 ⟨#[]⟩) :: .row gm (MsL.opened k xs ad2 kc2 ds).cells :: (KO2 ++ L))))) (fun w hS => by
    have := St.front (R := E2) (L := .row g4 (fltL 0 0 ⟨#[]⟩) :: .row gm (MsL.opened k xs ad2 kc2 ds).cells :: (KO2 ++ L)) (.row g115 (CapL.cells ⟨x3, ad113, c113, zs3.take n3⟩) :: E113) (by simpa only [List.cons_append, List.append_assoc, List.nil_append] using hS)
    simpa only [List.cons_append, List.append_assoc, List.nil_append] using this) ?_
  refine zH <| rA 4 [4] rfl <| qV (v_load1 rfl rfl one_29 (cellAt (v := .slice ad2 ds.length kc2) rfl)) rfl <| WQ.nilR <| rO 3 [10] <| ?_
  refine WL.appendL rfl rfl rfl Tryz.underlying29 Tryz.underlying29 sz_140 by_140 zero_140 rfl rfl hV3 (new := CapL.cells ⟨x3, ad113, c113, zs3.take n3⟩) (fun _ => ⟨g115, 0, rfl, fun w hS => allAt (g := g115) w hS⟩) rfl rfl (by omega) (.none rfl) rfl rfl ?_
  intro ad116 c116 E116 hV116 hr116
  rw [← capsL_snoc] at hV116
  rw [show ds.length + 1 = (ds ++ [(⟨x3, ad113, c113, zs3.take n3⟩ : CapL)]).length by rw [List.length_append]; rfl] at hV116 ⊢
  refine zH <| rF 1 [11, 12] <| pV (v_nilCheck rfl rfl) rfl <| pV (v_fieldAddr0 rfl rfl fld_39_4) rfl <| WP.nil <| rO 0 [13] <| zO one_29 rfl rfl <| WL.as (L' := E116 ++ (.row g115 (CapL.cells ⟨x3, ad113, c113, zs3.take n3⟩) :: (E113 ++ (.row g4 (fltL 0 0 ⟨#[]⟩) :: .row gm (MsL.opened k xs ad116 c116 (ds ++ [⟨x3, ad113, c113, zs3.take n3⟩])).cells :: (KO2 ++ L))))) rfl <| ?_
  refine WL.to (L' := E116 ++ (.row g4 (fltL 0 0 ⟨#[]⟩) :: .row gm (MsL.opened k xs ad116 c116 (ds ++ [⟨x3, ad113, c113, zs3.take n3⟩])).cells :: ((E113 ++ KO2) ++ L))) (fun w hS => by
    have h1 : St (fun _ => False) w0 w (E116 ++ (E113 ++ (.row g4 (fltL 0 0 ⟨#[]⟩) :: .row gm (MsL.opened k xs ad116 c116 (ds ++ [⟨x3, ad113, c113, zs3.take n3⟩])).cells :: (KO2 ++ L)))) := hS.sub (List.Sublist.append_left (.cons _ (.refl _)) _)
    refine h1.perm (List.Perm.append_left E116 ?_)
    have := List.perm_append_comm_assoc E113 [.row g4 (fltL 0 0 ⟨#[]⟩), .row gm (MsL.opened k xs ad116 c116 (ds ++ [⟨x3, ad113, c113, zs3.take n3⟩])).cells] (KO2 ++ L)
    simpa only [List.cons_append, List.append_assoc, List.nil_append] using this.symm) ?_
  refine zH <| rD <| eN <| WC.region <| zM rfl <| zA rfl <| WL.nil <| eY <| ?_
  exact WE.next ⟨zs3.drop n3, sAddr o3 (2 + n3) c3 1, c3 - (2 + n3), ds ++ [⟨x3, ad113, c113, zs3.take n3⟩], ad116, c116, E116, E113 ++ KO2⟩ (by dsimp only; omega) ⟨by dsimp only; rw [List.length_append, List.length_cons, List.length_nil]; omega, by
  have h1 := hW3.drop (2 + n3)
  rwa [show (x3 :: (n3 : Int) :: zs3).drop (2 + n3) = zs3.drop n3 by rw [show 2 + n3 = n3 + 1 + 1 by omega]; rfl] at h1, by dsimp only; rw [hy3, List.map_append]; rfl, hV116, fun c hc => by
  rcases List.mem_append.1 hc with hc | hc
  · obtain ⟨E', r1, r2⟩ := hO3 c hc
    exact ⟨E', r1, fun e he => List.mem_append_right _ (r2 e he)⟩
  · rcases List.mem_cons.1 hc with rfl | hc
    · exact ⟨E113, hV113, fun e he => List.mem_append_left _ he⟩
    · cases hc⟩ (.cons rfl (.cons rfl (.cons rfl (.cons rfl .nil)))) (.refl _)
  refine zN <| cF rfl <| cX <| eX <| eX <| eH <| eN <| WC.region <| zM rfl <| zA rfl <| WL.nil <| eY <| ?_
  obtain rfl : vs = [] := List.length_eq_zero_iff.1 (by omega)
  exact WE.next ⟨zs.drop n, sAddr o2 (2 + n) c2 1, c2 - (2 + n), ds, ad2, kc2, E2, KO2⟩ (by dsimp only; omega) ⟨by dsimp only; simp only [List.length_nil] at hl3; omega, by
    have h1 := hW2.drop (2 + n)
    rwa [show (x :: (n : Int) :: zs).drop (2 + n) = zs.drop n by rw [show 2 + n = n + 1 + 1 by omega]; rfl] at h1, by dsimp only; rw [hy, if_neg h91, hy3, capsR_nil], hV3, hO3⟩ (.cons rfl (.cons rfl (.cons rfl .nil))) (.refl _)
  refine zN <| cF rfl <| cX <| eX <| eX <| eH <| eN <| cR <| zV (v_build rfl rfl zero_37 plc_37 rfl) rfl <| zW many_37 rfl rfl <| zN <| cE <| tR Tryz.results113 (resRow rfl many_37 rfl) <| ?_
  obtain rfl : ys = [] := List.length_eq_zero_iff.1 (by omega)
  have e0 : openR xs = .inl (cs.map capD) := (by rw [hop, hy, optsR_nil])
  exact fun w' h => ⟨true, 0, _, ad, kc, cs, E, KO, rfl, by
    have := St.front (R := [.row gm (MsL.opened k xs ad kc cs).cells]) (L := KO ++ L) E (h.sub (List.Sublist.append_left (.cons _ (.refl _)) _))
    exact this, hV, hO, fun e => (by cases e), fun _ => ⟨rfl, rfl, e0⟩⟩
end Go.Proofs.YtcmpamnhegndnaaGreatDoor
