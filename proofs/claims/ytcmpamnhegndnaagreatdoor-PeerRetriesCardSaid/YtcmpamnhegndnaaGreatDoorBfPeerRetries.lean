/- Texts joined: engine, contracts and laws, in the order in which they build. -/
import Derived.Test.YtcmpamnhegndnaaGreatDoorBePeerRetries
namespace Go.Proofs.YtcmpamnhegndnaaGreatDoor
open Go.RowKit

theorem openM_in' {a h i : Int} (ha : 1 ≤ a ∧ a ≤ 65535) (hh : I64 h) (hi : U32 i) : (openM a h i).In := openM_in (by constructor <;> omega) hh hi
theorem msgB_le {m : MsL} (h : msgC m = 0) : (msgB m).length ≤ 4096 := by
  have := (msgC_bod h).2
  rw [msgB_len]; omega
theorem feed_sB_ok {a i t h r H j : Int} (hc : msgC (openM t H j) = 0) (hI : (openM t H j).In) (hj : j ≠ i) (hm : 3 ≤ min h H) (hh : min h H ≤ 65535) : feedS (sB a i t h r) 0 (msgB (openM t H j)) = (sC a i t h r (min h H) j, [⟨2, 0, msgB (MsL.zero 4), (MsL.zero 0).d⟩]) := by
  rw [feed_sB hc hI]
  refine (openS_ok rfl hj ?_ ?_).trans ?_
  · show (0 : Int) ≠ 5; decide
  · show (0 : Int) ≠ 4; decide
  · rw [confirm_sB hm hh]
    exact congrArg (Prod.mk _) (sendE_ok ka_code)
set_option maxHeartbeats 2000000 in
theorem Head10_c (w0 : World) (hG : GF w0) (hZ : GZ w0) : Calls Tryz.prog 9 #[] w0 fun e w' => e = .returned (.bool true) ∧ Frm (fun _ => False) w0 w' := by
  have hok : confOk 65000 5 65001 90 10 := by decide
  have hoc : msgC (openM 65001 30 9) = 0 := openM_code (by decide) (by decide) (by decide)
  have hoI : (openM 65001 30 9).In := openM_in' (by decide) ⟨by decide, by decide⟩ ⟨by decide, by decide⟩
  have hol : (msgB (openM 65001 30 9)).length ≤ 4096 := msgB_le hoc
  have hkI : (MsL.zero 4).In := zeroM_in ⟨by decide, by decide⟩
  have hkl : (msgB (MsL.zero 4)).length ≤ 4096 := msgB_le ka_code
  have f1 : feedS (sB 65000 5 65001 90 10) 0 (msgB (openM 65001 30 9)) = (sC 65000 5 65001 90 10 30 9, [⟨2, 0, msgB (MsL.zero 4), (MsL.zero 0).d⟩]) := feed_sB_ok (h := 90) hoc hoI (by decide) (by decide) (by decide)
  have f2 : feedS (sC 65000 5 65001 90 10 30 9) 0 (msgB (MsL.zero 4)) = (sD 65000 5 65001 90 10 30 9, [ef 4 0]) := feed_sC (by decide) (by decide)
  refine enter (vs := []) Tryz.func9 rfl Tryz.ntmps9 rfl (St.start (fun _ => False) w0) ?_
  refine cR <| zA rfl <| zR <| zK ck_12 rfl <| ?_
  intro w hS
  refine Calls.then (lconf_c w) hS ?_
  refine zK ck_11 rfl ?_
  intro w1 hS
  refine (new_c w0 w1 [] hS 65000 5 65001 90 10 hok ⟨by decide, by decide⟩).mono ?_
  rintro e w' ⟨g, p, d, rfl, hA, hS'⟩
  refine ⟨_, _, rfl, hS', ?_⟩
  refine zM rfl <| zX rfl <| zX rfl <| zA rfl <| zA rfl <| zN <| cS <| cR <| zM rfl <| ?_
  refine zV ((v_neq rfl rfl rfl).f ((by decide))) rfl ?_
  refine zM rfl <| zS (v_move rfl rfl) rfl <| zS (v_eql_nil false rfl rfl Tryz.underlying40 rfl) rfl <| zQ rfl <| zM rfl <| zS (v_move rfl rfl) rfl <| WL.call rfl rfl ck_13 (.some rfl rfl rfl) rfl rfl <| ?_
  intro w1 hS
  refine (start_new w0 w1 g p [] [] [] d hA hS (by decide)).mono ?_
  rintro e w' ⟨ad1, c1, fs1, EF1, KF1, p1, E01, E11, d1, rfl, hV1, he1, hA1, hS'⟩
  refine ⟨_, EF1 ++ (KF1 ++ (.row g p1.cells :: (E01 ++ (E11 ++ d1.L p1.gC 0 [])))), rfl, hS', ?_⟩
  refine WL.buildSlice rfl rfl Tryz.underlying32 sz_3 zero_3 rfl (by decide) rfl (.some rfl rfl rfl) rfl rfl ?_
  intro g17 hg17
  refine WL.as (L' := .row g17 [.int .i64 1] :: (EF1 ++ (KF1 ++ (.row g p1.cells :: (E01 ++ (E11 ++ d1.L p1.gC 0 [])))))) rfl <| WL.call rfl rfl ck_16 (.some rfl rfl rfl) rfl rfl <| ?_
  intro w hS
  refine Calls.then (kinds_c w ad1 c1 fs1 EF1 hV1.1 (fun e he => hS.holds e (by simp [Ck.L, clkL, he])) (some ⟨g17, 0, none⟩) 1 [1] (fun _ => ⟨g17, 0, rfl, allAt w hS⟩) (efs_kind he1) (by rw [efs_len he1]; decide)) hS ?_
  refine zS (v_not rfl rfl rfl) rfl <| zQ rfl <| zM rfl <| zS (v_move rfl rfl) rfl <| WL.call rfl rfl ck_14 (.some rfl rfl rfl) rfl rfl <| ?_
  intro w1 hS
  refine (up_new w0 w1 g p1 E01 E11 [] d1 hA1 hG (hS.dropK (.row g17 [.int .i64 1] :: (EF1 ++ KF1)) ) hok).mono ?_
  rintro e w' ⟨ad2, c2, fs2, EF2, KF2, p2, E02, E12, d2, rfl, hV2, he2, hA2, hS'⟩
  refine ⟨_, EF2 ++ (KF2 ++ (.row g p2.cells :: (E02 ++ (E12 ++ d2.L p2.gC 0 [])))), rfl, hS', ?_⟩
  refine WL.buildSlice rfl rfl Tryz.underlying32 sz_3 zero_3 rfl (by decide) rfl (.some rfl rfl rfl) rfl rfl ?_
  intro g24 hg24
  refine WL.as (L' := .row g24 [.int .i64 2] :: (EF2 ++ (KF2 ++ (.row g p2.cells :: (E02 ++ (E12 ++ d2.L p2.gC 0 [])))))) rfl <| WL.call rfl rfl ck_16 (.some rfl rfl rfl) rfl rfl <| ?_
  intro w hS
  refine Calls.then (kinds_c w ad2 c2 fs2 EF2 hV2.1 (fun e he => hS.holds e (by simp [Ck.L, clkL, he])) (some ⟨g24, 0, none⟩) 1 [2] (fun _ => ⟨g24, 0, rfl, allAt w hS⟩) (efs_kind he2) (by rw [efs_len he2]; decide)) hS ?_
  refine zS (v_not rfl rfl rfl) rfl <| zQ rfl <| zM rfl <| zS (v_move rfl rfl) rfl <| WL.call rfl rfl ck_22 (.some rfl rfl rfl) rfl rfl <| ?_
  intro w1 hS
  refine (lopen_c w1 9 30 ⟨by decide, by decide⟩ ⟨by decide, by decide⟩ (hG.keep (fun h => h) hS)).mono ?_
  rw [if_pos hoc]
  rintro e w' ⟨_, rfl, ad3, c3, E3, rfl, hV3, hS'⟩
  refine ⟨_, _, rfl, hS.join hS', ?_⟩
  refine WL.call rfl rfl ck_15 (.some rfl rfl rfl) rfl rfl ?_
  intro w1 hS
  have hf := feed0_c w0 w1 g p2 (sB 65000 5 65001 90 10) E02 E12 E3 d2 hA2 hG hZ (show St (fun _ => False) w0 w1 (.row g p2.cells :: (E02 ++ (E12 ++ d2.L p2.gC 0 E3))) from hS.dropK (.row g24 [.int .i64 2] :: (EF2 ++ KF2)) ) ad3 c3 (msgB (openM 65001 30 9)) (fun w h => hV3.cellsAt (fun e he => h.holds e (by simp [Ck.L, clkL, he]))) (msgB_bys hoI hoc) (by omega) ⟨rfl, rfl, rfl⟩ (by decide)
  rw [f1] at hf
  refine hf.mono ?_
  rintro e w' ⟨ad4, c4, fs4, EF4, KF4, p4, E04, E14, d4, rfl, hV4, he4, hA4, hS'⟩
  refine ⟨_, EF4 ++ (KF4 ++ (.row g p4.cells :: (E04 ++ (E14 ++ d4.L p4.gC 0 E3)))), rfl, hS', ?_⟩
  refine WL.buildSlice rfl rfl Tryz.underlying32 sz_3 zero_3 rfl (by decide) rfl (.some rfl rfl rfl) rfl rfl ?_
  intro g32 hg32
  refine WL.as (L' := .row g32 [.int .i64 2] :: (EF4 ++ (KF4 ++ (.row g p4.cells :: (E04 ++ (E14 ++ d4.L p4.gC 0 E3)))))) rfl <| WL.call rfl rfl ck_16 (.some rfl rfl rfl) rfl rfl <| ?_
  intro w hS
  refine Calls.then (kinds_c w ad4 c4 fs4 EF4 hV4.1 (fun e he => hS.holds e (by simp [Ck.L, clkL, he])) (some ⟨g32, 0, none⟩) 1 [2] (fun _ => ⟨g32, 0, rfl, allAt w hS⟩) (efs_kind he4) (by rw [efs_len he4]; decide)) hS ?_
  refine zS (v_not rfl rfl rfl) rfl <| zQ rfl <| zN <| cF rfl <| cK <| eN <| cR <| zM rfl <| ?_
  have b4 : p4.base = 2 := (congrArg Se.base hA4.eq :)
  have s4 : p4.c0.st = 4 := (congrArg (fun z : Se => z.c0.st) hA4.eq :)
  have t4 : p4.c1.st = 0 := (congrArg (fun z : Se => z.c1.st) hA4.eq :)
  refine zK ck_18 rfl ?_
  intro w hS
  refine Calls.then (state_c w g p4 (hS.row (g := g))) hS ?_
  refine zV ((v_eql rfl rfl rfl).t ((by rw [b4, s4, t4]; decide))) rfl ?_
  refine zM rfl <| zS (v_move rfl rfl) rfl <| zS (v_build rfl rfl zero_39 plc_39 rfl) rfl <| WL.call rfl rfl ck_23 (.some rfl rfl rfl) rfl rfl <| ?_
  intro w1 hS
  refine (lbytes_c w1 (MsL.zero 4) (zero4_at _) hkI (hG.keep (fun h => h) hS) (Nat.zero_le _) (Nat.zero_le _)).mono ?_
  rw [if_pos ka_code]
  rintro e w' ⟨_, rfl, ad5, c5, E5, rfl, hV5, hS'⟩
  refine ⟨_, _, rfl, hS.join hS', ?_⟩
  refine WL.call rfl rfl ck_15 (.some rfl rfl rfl) rfl rfl ?_
  intro w1 hS
  have hf := feed0_c w0 w1 g p4 (sC 65000 5 65001 90 10 30 9) E04 E14 E5 d4 hA4 hG hZ (show St (fun _ => False) w0 w1 (.row g p4.cells :: (E04 ++ (E14 ++ d4.L p4.gC 0 E5))) from hS.dropK (.row g32 [.int .i64 2] :: (EF4 ++ (KF4 ++ E3))) ) ad5 c5 (msgB (MsL.zero 4)) (fun w h => hV5.cellsAt (fun e he => h.holds e (by simp [Ck.L, clkL, he]))) (msgB_bys hkI ka_code) (by omega) ⟨rfl, rfl, rfl⟩ (by decide)
  rw [f2] at hf
  refine hf.mono ?_
  rintro e w' ⟨ad6, c6, fs6, EF6, KF6, p6, E06, E16, d6, rfl, hV6, he6, hA6, hS'⟩
  refine ⟨_, EF6 ++ (KF6 ++ (.row g p6.cells :: (E06 ++ (E16 ++ d6.L p6.gC 0 E5)))), rfl, hS', ?_⟩
  refine WL.buildSlice rfl rfl Tryz.underlying32 sz_3 zero_3 rfl (by decide) rfl (.some rfl rfl rfl) rfl rfl ?_
  intro g44 hg44
  refine WL.as (L' := .row g44 [.int .i64 4] :: (EF6 ++ (KF6 ++ (.row g p6.cells :: (E06 ++ (E16 ++ d6.L p6.gC 0 E5)))))) rfl <| WL.call rfl rfl ck_16 (.some rfl rfl rfl) rfl rfl <| ?_
  intro w hS
  refine Calls.then (kinds_c w ad6 c6 fs6 EF6 hV6.1 (fun e he => hS.holds e (by simp [Ck.L, clkL, he])) (some ⟨g44, 0, none⟩) 1 [4] (fun _ => ⟨g44, 0, rfl, allAt w hS⟩) (efs_kind he6) (by rw [efs_len he6]; decide)) hS ?_
  refine zP rfl <| zM rfl <| zS (v_move rfl rfl) rfl <| ?_
  have b6 : p6.base = 2 := (congrArg Se.base hA6.eq :)
  have s6 : p6.c0.st = 5 := (congrArg (fun z : Se => z.c0.st) hA6.eq :)
  have t6 : p6.c1.st = 0 := (congrArg (fun z : Se => z.c1.st) hA6.eq :)
  have i6 : p6.c0.id = 9 := (congrArg (fun z : Se => z.c0.id) hA6.eq :)
  refine WL.call rfl rfl ck_18 (.some rfl rfl rfl) rfl rfl ?_
  intro w hS
  refine Calls.then (state_c w g p6 (hS.row (g := g))) hS ?_
  refine zS ((v_eql rfl rfl rfl).t ((by rw [b6, s6, t6]; decide))) rfl ?_
  refine zP rfl <| zM rfl <| zS (v_move rfl rfl) rfl <| WL.call rfl rfl ck_21 (.some rfl rfl rfl) rfl rfl <| ?_
  intro w hS
  refine Calls.then (their_c w g p6 (hS.row (g := g))) hS ?_
  refine zS ((v_eql rfl rfl rfl).t ((by unfold theirP; rw [if_pos s6]; exact i6))) rfl ?_
  refine zP rfl <| zA rfl <| zN <| cE <| tR Tryz.results9 rfl <| ?_
  exact fun w' h => ⟨rfl, h.frm⟩

theorem FirstD.uniq {D : List Int} {T : Int} {n n' : Nat} {t t' : Int} (h : FirstD D T n t) (h' : FirstD D T n' t') : n = n' ∧ t = t' := by
  obtain ⟨a1, a2, a3, a4⟩ := h
  obtain ⟨b1, b2, b3, b4⟩ := h'
  by_cases e : n = n'
  · subst e
    rw [a1] at b1
    exact ⟨rfl, Option.some.inj b1⟩
  · have h1 := a4 n' t' (fun h => e h.symm) b1 b2
    have h2 := b4 n t e a1 a2
    unfold ltp at h1 h2
    dsimp only at h1 h2
    omega
theorem TickR.none {T : Int} {s s' : Se} {es : List EfD} (hr : TickR T s es s') (h : ∀ t ∈ s.D, t < 0 ∨ T < t) : es = [] ∧ s' = { s with now := T } := by
  cases hr with
  | done _ => exact ⟨rfl, rfl⟩
  | fire hF _ =>
    have := h _ (List.mem_of_getElem? hF.1)
    have h2 := hF.2.1
    have h3 := hF.2.2.1
    omega
theorem TickR.first {T : Int} {s s' : Se} {es : List EfD} (hr : TickR T s es s') {n : Nat} {t : Int} (hF : FirstD s.D T n t) : ∃ es', es = (fireS s n t).2 ++ es' ∧ TickR T (fireS s n t).1 es' s' := by
  cases hr with
  | done h =>
    have := h _ (List.mem_of_getElem? hF.1)
    have h2 := hF.2.1
    have h3 := hF.2.2.1
    omega
  | fire hF' hr' =>
    obtain ⟨rfl, rfl⟩ := hF.uniq hF'
    exact ⟨_, rfl, hr'⟩
def sR (a i t h r now D : Int) : Se := ⟨a, i, t, h, r, 1, CnM.zero, CnM.zero, now, [D, -1, -1, -1, -1]⟩
theorem tickT_eq {s : Se} {t : Int} (h1 : s.now < t) (h2 : t ≤ s.now + 4096) (h3 : t ≤ 1000000) : tickT s t = t := by
  unfold tickT maxT
  rw [if_pos h1]
  omega
theorem sR_tick {a i t h r now D T : Int} {es : List EfD} {s' : Se} (hr : TickR T (sR a i t h r now D) es s') (h0 : 0 ≤ now) (hT : now < T) (hT1 : T ≤ 1000000) (hr1 : 1 ≤ r) (hr2 : r ≤ 65535) (hD : T ≤ D) :
    (T < D ∧ es = [] ∧ s' = sR a i t h r T D) ∨ (T = D ∧ es = [ef 1 0] ∧ s' = sR a i t h r T (T + r)) := by
  by_cases hlt : T < D
  · left
    obtain ⟨h1, h2⟩ := hr.none (fun x hx => by
      rcases List.mem_cons.1 hx with rfl | hx
      · exact .inr hlt
      · left
        simp at hx
        omega)
    exact ⟨hlt, h1, h2⟩
  · right
    have e : T = D := by omega
    subst e
    have hT0 : 0 ≤ T := by omega
    have hF : FirstD (sR a i t h r now T).D T 0 T := ⟨rfl, hT0, Int.le_refl _, fun k y hk hy hy0 => by
      match k, hk, hy with
      | 1, _, hy => obtain rfl := Option.some.inj hy; omega
      | 2, _, hy => obtain rfl := Option.some.inj hy; omega
      | 3, _, hy => obtain rfl := Option.some.inj hy; omega
      | 4, _, hy => obtain rfl := Option.some.inj hy; omega⟩
    obtain ⟨es', rfl, hr'⟩ := hr.first hF
    have e1 : (fireS (sR a i t h r now T) 0 T).1 = sR a i t h r T (T + r) := by
      show (⟨a, i, t, h, r, 1, CnM.zero, CnM.zero, T, [dueV T 0 r, -1, -1, -1, -1]⟩ : Se) = _
      have e2 : dueV T 0 r = T + r := by
        unfold dueV maxT
        rw [if_neg (by omega)]
        omega
      rw [e2]; rfl
    rw [e1] at hr'
    obtain ⟨h1, h2⟩ := hr'.none (fun x hx => by
      rcases List.mem_cons.1 hx with rfl | hx
      · right; omega
      · left
        simp at hx
        omega)
    subst h1
    exact ⟨rfl, rfl, h2⟩
theorem sR_fit {a i t h r now D : Int} : (sR a i t h r now D).Fit := fun n hn => by
  match n, hn with
  | 0, _ => exact .inl rfl
  | 1, _ => exact .inl rfl
structure RtS where
  t : Int
  n : Int
  D : Int
  p : PeL
  E0 : List Ent
  E1 : List Ent
  d : Ck
theorem quo_of {n r q : Int} (hr : 1 ≤ r) (_h0 : 0 ≤ q) (h1 : n * r ≤ q) (h2 : q < n * r + r) : q / r = n := by
  have h3 : r ≠ 0 := by omega
  have e : q = (q - n * r) + n * r := by omega
  rw [e, Int.add_mul_ediv_right _ _ h3, Int.ediv_eq_zero_of_lt (by omega) (by omega)]
  omega
set_option maxHeartbeats 4000000 in
theorem PeerRetries_all (w0 : World) (hG : GF w0) (hZ : GZ w0) (rt qt : Int) : Calls Tryz.prog 6 #[.int .i64 rt, .int .i64 qt] w0 fun e w' => e = .returned (.bool true) ∧ Frm (fun _ => False) w0 w' := by
  refine enter Tryz.func6 rfl Tryz.ntmps6 rfl (St.start (fun _ => False) w0) ?_
  refine cR <| zA rfl <| zN <| cS <| cR <| zK ck_9 rfl <| ?_
  intro w hS
  refine Calls.then (Head10_c w (hG.keep (fun h => h) hS) (hZ.keep (fun h => h) hS)) hS ?_
  refine zV (v_not rfl rfl rfl) rfl <| zN <| cF rfl <| cK <| eN <| cR <| zK ck_12 rfl <| ?_
  intro w hS
  refine Calls.then (lconf_c w) hS ?_
  refine WL.alloc rfl zero_44 (.none rfl) rfl rfl ?_
  intro g5 hg5
  refine zW many_44 rfl rfl <| zR <| zM rfl <| ?_
  refine zV (v_and rfl rfl rfl (mask_i64' (i := 6) (m := 64) (by decide) (by decide) (by decide))) rfl ?_
  have hb : 0 ≤ rt % 64 ∧ rt % 64 ≤ 63 := (by omega)
  refine zV (v_add rfl rfl rfl (w_i64 (by omega) (by omega))) rfl ?_
  refine zF rfl fld_44_4 <| zO one_3 rfl rfl <| WL.as (L' := [.row g5 (confL 65000 5 65001 90 (1 + rt % 64))]) rfl <| ?_
  generalize hrr : 1 + rt % 64 = rr
  have hr1 : 1 ≤ rr ∧ rr ≤ 64 := (by omega)
  refine zR <| zM rfl <| ?_
  refine zV (v_and rfl rfl rfl (mask_i64' (i := 8) (m := 256) (by decide) (by decide) (by decide))) rfl ?_
  generalize hqq : qt % 256 = qq
  have hq1 : 0 ≤ qq ∧ qq ≤ 255 := (by omega)
  refine zA rfl <| zR <| zV (v_loadN rfl rfl many_44 rfl allAt) rfl <| zK ck_11 rfl <| ?_
  intro w1 hS
  refine (new_c w0 w1 [.row g5 (confL 65000 5 65001 90 rr)] hS 65000 5 65001 90 rr ⟨by decide, by decide, by decide, by decide, by omega⟩ ⟨by decide, by decide⟩).mono ?_
  rintro e w' ⟨g, p, d, rfl, hA, hS'⟩
  refine ⟨_, _, rfl, hS', ?_⟩
  refine zM rfl <| zX rfl <| zX rfl <| zA rfl <| zA rfl <| zN <| cS <| cR <| zM rfl <| ?_
  refine zV ((v_neq rfl rfl rfl).f ((by decide))) rfl ?_
  refine zM rfl <| zS (v_move rfl rfl) rfl <| WL.call rfl rfl ck_13 (.some rfl rfl rfl) rfl rfl <| ?_
  intro w1 hS
  refine (start_new w0 w1 g p [] [] [.row g5 (confL 65000 5 65001 90 rr)] d hA hS (by omega)).mono ?_
  rintro e w' ⟨ad1, c1, fs1, EF1, KF1, p1, E01, E11, d1, rfl, hV1, he1, hA1, hS'⟩
  refine ⟨_, EF1 ++ (KF1 ++ (.row g p1.cells :: (E01 ++ (E11 ++ d1.L p1.gC 0 [.row g5 (confL 65000 5 65001 90 rr)])))), rfl, hS', ?_⟩
  refine WL.buildSlice rfl rfl Tryz.underlying32 sz_3 zero_3 rfl (by decide) rfl (.some rfl rfl rfl) rfl rfl ?_
  intro g31 hg31
  refine WL.as (L' := .row g31 [.int .i64 1] :: (EF1 ++ (KF1 ++ (.row g p1.cells :: (E01 ++ (E11 ++ d1.L p1.gC 0 [.row g5 (confL 65000 5 65001 90 rr)])))))) rfl <| WL.call rfl rfl ck_16 (.some rfl rfl rfl) rfl rfl <| ?_
  intro w hS
  refine Calls.then (kinds_c w ad1 c1 fs1 EF1 hV1.1 (fun e he => hS.holds e (by simp [Ck.L, clkL, he])) (some ⟨g31, 0, none⟩) 1 [1] (fun _ => ⟨g31, 0, rfl, allAt w hS⟩) (efs_kind he1) (by rw [efs_len he1]; decide)) hS ?_
  refine zS (v_not rfl rfl rfl) rfl <| zQ rfl <| zN <| cF rfl <| cK <| eN <| cR <| zA rfl <| zN <| cS <| cR <| zA rfl <| ?_
  refine WL.to (L' := .row g p1.cells :: (E01 ++ (E11 ++ d1.L p1.gC 0 [.row g5 (confL 65000 5 65001 90 rr)]))) (fun w hS => hS.dropK (.row g31 [.int .i64 1] :: (EF1 ++ KF1))) <| zN <| cB <| ?_
  refine WC.loop (fun x : RtS => [(9, .int .i64 x.t), (8, .int .i64 x.n), (6, .pointer (some ⟨g, 0, none⟩)), (5, .pointer (some ⟨g5, 0, none⟩)), (1, .int .i64 qq)]) (fun x => .row g x.p.cells :: (x.E0 ++ (x.E1 ++ x.d.L x.p.gC (x.t - 1) [.row g5 (confL 65000 5 65001 90 rr)]))) (fun x => (1 ≤ x.t ∧ x.t ≤ qq + 1) ∧ (0 ≤ x.n ∧ x.n < x.t) ∧ x.D = x.n * rr + rr ∧ (x.n * rr ≤ x.t - 1 ∧ x.t ≤ x.D) ∧ PeAt g x.p (sR 65000 5 65001 90 rr (x.t - 1) x.D) x.E0 x.E1 x.d) (fun x => (qq + 1 - x.t).toNat) ⟨1, 0, rr, p1, E01, E11, d1⟩ ⟨by dsimp only; omega, by dsimp only; omega, by dsimp only; omega, by dsimp only; omega, hA1⟩ (.cons rfl (.cons rfl (.cons rfl (.cons rfl (.cons rfl .nil))))) (.refl _) ?_
  rintro ⟨t, n, D, p2, E02, E12, d2⟩ ⟨ht, hn, hD, hnt, hA2⟩
  dsimp only at ht hn hD hnt hA2
  dsimp only
  refine cS <| cR <| zM rfl <| zM rfl <| ?_
  refine zT (v_leq rfl rfl rfl) rfl (fun h37 => ?_) (fun h37 => ?_)
  refine zN <| cT rfl <| cK <| eN <| cS <| cB <| cR <| zM rfl <| zM rfl <| zK ck_24 rfl <| ?_
  intro w1 hS
  refine (tick_c w0 w1 g p2 (sR 65000 5 65001 90 rr (t - 1) D) E02 E12 [.row g5 (confL 65000 5 65001 90 rr)] d2 hA2 hG hS sR_fit t ⟨by omega, by omega⟩).mono ?_
  rintro e w' ⟨es, s', hR, ad3, c3, fs, EF, KF, p3, E03, E13, d3, rfl, hV3, he3, hA3, hS'⟩
  rw [tickT_eq (s := sR 65000 5 65001 90 rr (t - 1) D) (show t - 1 < t by omega) (show t ≤ t - 1 + 4096 by omega) (by omega)] at hR
  have hcs := sR_tick hR (by omega) (by omega) (by omega) (by omega) (by omega) (by omega)
  have hn3 : s'.now = t := (by rcases hcs with ⟨_, _, e⟩ | ⟨_, _, e⟩ <;> rw [e] <;> rfl)
  rw [hn3] at hS'
  obtain ⟨D', hs3, hk3, hn3', hD3, hb3⟩ : ∃ D', s' = sR 65000 5 65001 90 rr t D' ∧ (∀ x ∈ fs, x.kind = 1 ∧ t % rr = 0) ∧ fs.length ≤ 1 ∧ D' = (n + fs.length) * rr + rr ∧ ((n + fs.length) * rr ≤ t ∧ t < D') := (by
    rcases hcs with ⟨h1, h2, h3⟩ | ⟨h1, h2, h3⟩
    · rw [h2] at he3
      obtain rfl := List.map_eq_nil_iff.1 he3
      exact ⟨D, h3, fun x hx => (by cases hx), Nat.zero_le _, by simpa using hD, by simp; omega, h1⟩
    · have hl := efs_len (he3.trans h2)
      have hk := efs_kind (he3.trans h2)
      have hl1 : fs.length = 1 := hl
      refine ⟨t + rr, h3, fun x hx => ⟨?_, ?_⟩, by omega, ?_, ?_⟩
      · have := List.mem_map_of_mem (f := EfL.kind) hx
        rw [hk] at this
        exact List.mem_singleton.1 this
      · rw [h1, hD, show n * rr + rr = (n + 1) * rr by rw [Int.add_mul, Int.one_mul]]
        exact Int.mul_emod_left _ _
      · rw [hl1, show ((1 : Nat) : Int) = 1 from rfl, Int.add_mul, Int.one_mul]; omega
      · rw [hl1, show ((1 : Nat) : Int) = 1 from rfl, Int.add_mul, Int.one_mul]; omega)
  rw [hs3] at hA3
  refine ⟨_, _, rfl, hS', ?_⟩
  refine zV (v_len_slice rfl rfl Tryz.underlying46) rfl <| zM rfl <| zN <| cB <| ?_
  refine WC.loop (fun k : Nat => [(44, .int .i64 k), (43, .int .i64 fs.length), (42, .slice ad3 fs.length c3), (9, .int .i64 t), (8, .int .i64 (n + k)), (6, .pointer (some ⟨g, 0, none⟩)), (5, .pointer (some ⟨g5, 0, none⟩)), (1, .int .i64 qq)]) (fun _ => EF ++ (KF ++ (.row g p3.cells :: (E03 ++ (E13 ++ d3.L p3.gC t [.row g5 (confL 65000 5 65001 90 rr)]))))) (fun k => k ≤ fs.length) (fun k => fs.length - k) 0 (Nat.zero_le _) (.cons rfl (.cons rfl (.cons rfl (.cons rfl (.cons (by simp; rfl) (.cons rfl (.cons rfl (.cons rfl .nil)))))))) (.refl _) ?_
  intro k hk
  refine cR ?_
  refine zT (v_lss rfl rfl rfl) rfl (fun h45 => ?_) (fun h45 => ?_)
  refine zN <| cS <| cT rfl <| cK <| eN <| cS <| cB <| cR <| ?_
  obtain ⟨x, hx⟩ : ∃ x, fs[k]? = some x := ⟨fs[k]'(by omega), List.getElem?_eq_getElem _⟩
  obtain ⟨b1, o1, ea1, r1⟩ := hV3.1.src2 (by rw [efsL_len]; omega)
  have hxk := hk3 x (List.mem_of_getElem? hx)
  refine zV ((v_indexAddr (b := b1) (off := o1) (lo := k) rfl (by show some (Value.slice ad3 _ _) = _; rw [ea1]) rfl Tryz.underlying46 sz_54 rfl (by omega))) rfl ?_
  refine zV (v_loadN rfl rfl many_54 rfl (fun w hS => ef_kind (r1 w fun e he => hS.holds e (by simp [he])) hx)) rfl ?_
  refine WL.alloc rfl zero_54 (.none rfl) rfl rfl ?_
  intro g11 hg11
  refine zW many_54 rfl rfl <| zN <| cS <| cR <| zF rfl fld_54_0 <| zV (v_load1 rfl rfl one_3 (cellAt (v := .int .i64 x.kind) rfl)) rfl <| zV ((v_neq rfl rfl rfl).f ((fun h => h hxk.1))) rfl <| zM rfl <| zS (v_move rfl rfl) rfl <| zS (v_fieldAddr0 rfl rfl fld_44_4) rfl <| zS (v_load1 rfl rfl one_3 (cellAt rfl)) rfl <| ?_
  refine zS (v_remT rfl rfl rfl (by first | decide | omega)) rfl ?_
  refine zS ((v_neq rfl rfl rfl).f ((fun h => h ((Int.tmod_eq_emod_of_nonneg (by omega)).trans hxk.2)))) rfl ?_
  refine zQ rfl <| zN <| cF rfl <| cK <| eN <| WC.region <| zM rfl <| ?_
  refine zV (v_add rfl rfl rfl (show _ = n + ((k + 1 : Nat) : Int) from (w_i64 (by omega) (by omega)).trans (by omega))) rfl ?_
  refine zA rfl <| WL.nil <| eY <| eN <| WC.region <| ?_
  refine zV (v_add rfl rfl rfl (show _ = ((k + 1 : Nat) : Int) from (w_i64 (by omega) (by omega)).trans (by omega))) rfl ?_
  refine zM rfl <| WL.nil <| ?_
  exact WE.next (k + 1) (by omega) (by omega) (.cons rfl (.cons rfl (.cons rfl (.cons rfl (.cons rfl (.cons rfl (.cons rfl (.cons rfl .nil)))))))) (.cons _ (.refl _))
  refine zN <| cS <| cF rfl <| cX <| eX <| eX <| eH <| eY <| eN <| WC.region <| zM rfl <| ?_
  refine zV (v_add rfl rfl rfl (show _ = t + 1 from w_i64 (by omega) (by omega))) rfl ?_
  refine zA rfl ?_
  skip
  refine WL.nil ?_
  refine WE.next ⟨t + 1, n + fs.length, D', p3, E03, E13, d3⟩ (by dsimp only; omega) ⟨by dsimp only; omega, by dsimp only; omega, hD3, ⟨by dsimp only; omega, by dsimp only; omega⟩, by dsimp only; rw [show t + 1 - 1 = t by omega]; exact hA3⟩ (.cons rfl (.cons (by rw [show k = fs.length by omega]; rfl) (.cons rfl (.cons rfl (.cons rfl .nil))))) (by dsimp only; rw [show t + 1 - 1 = t by omega]; exact List.sublist_append_of_sublist_right (List.sublist_append_right _ _))
  refine zN <| cF rfl <| cX <| eX <| eX <| eH <| eN <| cR <| ?_
  have hqt : t - 1 = qq := (by omega)
  have hqn : qq / rr = n := quo_of (by omega) (by omega) (by omega) (by omega)
  have b6 : p2.base = 1 := (congrArg Se.base hA2.eq :)
  have s6 : p2.c0.st = 0 := (congrArg (fun z : Se => z.c0.st) hA2.eq :)
  have t6 : p2.c1.st = 0 := (congrArg (fun z : Se => z.c1.st) hA2.eq :)
  refine zM rfl <| zM rfl <| zF rfl fld_44_4 <| zL rfl one_3 rfl <| ?_
  refine zV (v_quoT rfl rfl rfl (by first | decide | omega) (show _ = n from (by rw [Int.tdiv_eq_ediv_of_nonneg (by omega), hqn]; exact w_i64 (by omega) (by omega)))) rfl ?_
  refine zV ((v_eql rfl rfl rfl).t (rfl)) rfl <| zM rfl <| zS (v_move rfl rfl) rfl <| WL.call rfl rfl ck_18 (.some rfl rfl rfl) rfl rfl <| ?_
  intro w hS
  refine Calls.then (state_c w g p2 (hS.row (g := g))) hS ?_
  refine zS ((v_eql rfl rfl rfl).t ((by rw [b6, s6, t6]; decide))) rfl ?_
  refine zP rfl <| zM rfl <| zS (v_move rfl rfl) rfl <| WL.call rfl rfl ck_25 (.some rfl rfl rfl) rfl rfl <| ?_
  intro w hS
  refine Calls.then (now_c w0 w g p2 d2 (t - 1) [.row g5 (confL 65000 5 65001 90 rr)] (hS.row (g := g)) (hS.dropK (.row g p2.cells :: (E02 ++ E12)))) hS ?_
  refine zS (v_move rfl rfl) rfl ?_
  refine zS ((v_eql rfl rfl rfl).t ((by omega))) rfl ?_
  refine zP rfl <| zA rfl <| zN <| cE <| tR Tryz.results6 rfl <| ?_
  exact fun w' h => ⟨rfl, h.frm⟩

end Go.Proofs.YtcmpamnhegndnaaGreatDoor
