/- Texts joined: engine, contracts and laws, in the order in which they build. -/
import Derived.Test.YtcmpamnhegndnaaGreatDoorBfPeerRetries
/- peer: Tick (printed by gen/peu.py). -/
namespace Go.Proofs.YtcmpamnhegndnaaGreatDoor
open Go.RowKit

theorem Next_any {w0 w : World} {gC : Nat} {now : Int} {R : List Ent} {d : Ck} {D : List Int} (hS : St (fun _ => False) w0 w (d.L gC now R)) (hb : Bag d (dueF 0 D)) (u : Int) :
    Calls Tryz.prog 62 #[.pointer (some ⟨gC, 0, none⟩), .int .i64 u] w fun e' w' => ∃ (ok : Bool) (n : Nat) (t : Int) (d' : Ck), e' = .returned (.tuple #[.int .i64 n, .bool ok]) ∧ (ok = true → FirstD D (till now u) n t) ∧ (ok = false → t = till now u ∧ ∀ t ∈ D, t < 0 ∨ till now u < t) ∧ Bag d' (dueF 0 (if ok then D.set n (-1) else D)) ∧ St (fun _ => False) w0 w' (d'.L gC t R) := by
  rcases first_or D (till now u) with ⟨n, t, hF⟩ | hno
  · refine (Next_d hS hb u hF).mono ?_
    rintro e' w' ⟨d', rfl, hb', hS'⟩
    exact ⟨true, n, t, d', rfl, fun _ => hF, fun e => (by cases e), hb', hS'⟩
  · refine (Next_dn hS hb u hno).mono ?_
    rintro e' w' ⟨rfl, hS'⟩
    exact ⟨false, 0, _, d, rfl, fun e => (by cases e), fun _ => ⟨rfl, hno⟩, hb, hS'⟩
theorem wD_le {T now : Int} {D : List Int} (h5 : D.length = 5) (h : ∀ t ∈ D, t = -1 ∨ now ≤ t ∧ t ≤ maxT) (hT : T ≤ now + 4096) (h0 : 0 ≤ now) : wD T D ≤ 20485 := by
  obtain ⟨a, b, c, d, e, rfl⟩ := list5 h5
  have ha := h a (by simp)
  have hb := h b (by simp)
  have hc := h c (by simp)
  have hd := h d (by simp)
  have he := h e (by simp)
  have key : ∀ x : Int, (x = -1 ∨ now ≤ x ∧ x ≤ maxT) → (if 0 ≤ x then (T + 1 - x).toNat else 0) ≤ 4097 := fun x hx => by
    split <;> omega
  have k1 := key a ha
  have k2 := key b hb
  have k3 := key c hc
  have k4 := key d hd
  have k5 := key e he
  simp only [wD, List.map_cons, List.map_nil, List.sum_cons, List.sum_nil]
  omega
theorem PeAt.bagged {g : Nat} {p : PeL} {s : Se} {E0 E1 : List Ent} {d d' : Ck} (hA : PeAt g p s E0 E1 d) (hb : Bag d' (dueF 0 s.D)) : PeAt g p s E0 E1 d' := ⟨hA.eq, hA.ok, hA.ok0, hA.ok1, hA.v0, hA.v1, hA.b0, hA.b1, hb⟩
set_option maxHeartbeats 4000000 in
theorem tick_c (w0 w : World) (g : Nat) (p : PeL) (s : Se) (E0 E1 L : List Ent) (d : Ck) (hA : PeAt g p s E0 E1 d) (hG : GF w0) (hS0 : St (fun _ => False) w0 w (.row g p.cells :: (E0 ++ (E1 ++ d.L p.gC s.now L)))) (hf : s.Fit) (u : Int) (hu : I64 u) :
    Calls Tryz.prog 24 #[.pointer (some ⟨g, 0, none⟩), .int .i64 u] w fun e w' => ∃ es s', TickR (tickT s u) s es s' ∧ EffC w0 w' g es s' L e := by
  have hnow := hA.ok.2.2.2.1
  refine enter Tryz.func24 rfl Tryz.ntmps24 rfl hS0 ?_
  refine WC.seq <| WC.region <| WL.v (v_assign rfl rfl) rfl <| WL.nt <| WC.seq <| WC.seq <| WC.region <| WL.v (v_move rfl rfl) rfl <| WL.v (v_eql_nil false rfl rfl Tryz.underlying40 rfl) rfl <| WL.nt <| ?_
  refine WC.cond_f rfl <| WC.skip <| WE.then_n <| WC.seq <| WC.region <| WL.v (v_move rfl rfl) rfl <| WL.v (v_nilCheck rfl rfl) rfl <| WL.v (v_fieldAddr0 rfl rfl fld_106_1) rfl <| WL.v (v_load1 rfl rfl one_98 (cellAt rfl)) rfl <| WL.call rfl rfl ck_61 (.none rfl) rfl rfl <| ?_
  intro w hS
  refine Calls.then (Now_k (hS.row (g := p.gC))) hS ?_
  refine WL.v (v_assign rfl rfl) rfl <| WL.nt <| ?_
  refine WC.cut (fun U : Int => [(5, .int .i64 U), (0, .pointer (some ⟨g, 0, none⟩))]) (fun _ => .row g p.cells :: (E0 ++ (E1 ++ d.L p.gC s.now L))) (fun U => s.now ≤ U ∧ U ≤ s.now + 4096 ∧ min U maxT = tickT s u) ?_ ?_
  ·
   refine WC.seq <| WC.region <| WL.v (v_move rfl rfl) rfl <| WL.v (v_move rfl rfl) rfl <| ?_
   refine WL.test (v_gtr rfl rfl rfl) (.none rfl) rfl rfl (fun h18 => ?_) (fun h18 => ?_)
   ·
    refine WL.nt <| WC.cond_t rfl <| WC.region <| WL.v (v_move rfl rfl) rfl <| WL.v (v_move rfl rfl) rfl <| ?_
    refine WL.v (v_add rfl rfl rfl (w_i64 (by unfold maxT at hnow; omega) (by unfold maxT at hnow; omega))) rfl ?_
    refine WL.v (v_min rfl rfl rfl) rfl <| WL.v (v_assign rfl rfl) rfl <| WL.nil <| ?_
    exact WE.mid (min u (s.now + 4096)) ⟨by omega, by omega, by unfold tickT; rw [if_pos (by omega)]⟩ (.cons rfl (.cons rfl .nil)) (.refl _)
   ·
    refine WL.nt <| WC.cond_f rfl <| WC.skip <| ?_
    exact WE.mid s.now ⟨by omega, by omega, by unfold tickT; rw [if_neg (by omega)]⟩ (.cons rfl (.cons rfl .nil)) (.refl _)
  ·
   rintro U ⟨hU1, hU2, hUT⟩
   generalize hT : tickT s u = T at hUT
   have hT0 : s.now ≤ T ∧ T ≤ maxT ∧ T ≤ U := (by omega)
   refine WC.seq <| WC.region <| WL.v (v_assign rfl rfl) rfl <| WL.nt <| WC.block <| ?_
   refine WC.loop (fun x : PT => [(5, .int .i64 U), (6, .slice x.y.ad x.y.fs.length x.y.c), (0, .pointer (some ⟨g, 0, none⟩))]) (fun x => x.y.L g x.t.now L) (fun x => PeAt g x.y.p x.t x.y.E0 x.y.E1 x.y.d ∧ x.t.Fit ∧ (s.now ≤ x.t.now ∧ x.t.now ≤ T) ∧ EfsV x.y.ad x.y.c x.y.fs x.y.E x.y.K ∧ x.y.fs.length + 3 * wD T x.t.D ≤ 70000 ∧ ∀ es s', TickR T x.t es s' → TickR T s (x.y.fs.map EfL.d ++ es) s') (fun x => wD T x.t.D) ⟨0, ⟨p, E0, E1, d, none, 0, [], [], []⟩, s⟩ ⟨hA, hf, ⟨Int.le_refl _, hT0.1⟩, ⟨Vec.nil 23, fun e he => by cases he⟩, (by have := wD_le (T := T) hA.ok.2.2.2.2.1 hA.ok.2.2.2.2.2.1 (by omega) hnow.1; show 0 + 3 * wD T s.D ≤ 70000; omega), fun es s' h => h⟩ (.cons rfl (.cons rfl (.cons rfl .nil))) (.refl _) ?_
   rintro ⟨k, ⟨p4, E04, E14, d4, ad4, c4, fs, EF, KF⟩, t⟩ ⟨hA4, hfit, hnt, hV4, hfl, hR⟩
   dsimp only at hA4 hfit hnt hV4 hfl hR
   unfold PS.L
   dsimp only
   refine WC.block <| WC.seq <| WC.region <| WL.v (v_move rfl rfl) rfl <| WL.v (v_nilCheck rfl rfl) rfl <| WL.v (v_fieldAddr0 rfl rfl fld_106_1) rfl <| WL.v (v_load1 rfl rfl one_98 (cellAt rfl)) rfl <| WL.v (v_move rfl rfl) rfl <| WL.call rfl rfl ck_62 (.none rfl) rfl rfl <| ?_
   intro w1 hS
   refine (Next_any (gC := p4.gC) (now := t.now) (R := EF ++ (KF ++ (.row g p4.cells :: (E04 ++ (E14 ++ L))))) (hS.permK (by intro c k h1 h2 h3 e; simp only [Ck.L, clkL, h1, h2, h3] <;> omega)) hA4.bag U).mono ?_
   rintro e w' ⟨ok, n, tt, d5, rfl, hyes, hno, hb5, hS'⟩
   have htl : till t.now U = T := (by unfold till; unfold maxT at *; omega)
   rw [htl] at hyes hno
   refine ⟨_, EF ++ (KF ++ (.row g p4.cells :: (E04 ++ (E14 ++ d5.L p4.gC tt L)))), rfl, hS'.permK (by intro c k h1 h2 h3 e; simp only [Ck.L, clkL, h1, h2, h3] <;> omega), ?_⟩
   refine WL.v (v_move rfl rfl) rfl <| WL.v (v_extract rfl rfl rfl) rfl <| WL.v (v_extract rfl rfl rfl) rfl <| ?_
   skip
   cases ok
   ·
    refine WL.v (v_assign rfl rfl) rfl <| WL.v (v_assign rfl rfl) rfl <| WL.nt <| WC.seq <| WC.seq <| WC.region <| WL.v (v_move rfl rfl) rfl <| WL.v (v_not rfl rfl rfl) rfl <| WL.nt <| WC.cond_t rfl <| ?_
    refine WC.seq <| WC.region <| WL.v (v_move rfl rfl) rfl <| WL.v (v_assign rfl rfl) rfl <| WL.nt <| WC.ret <| WE.then_ret <| WE.block_ret <| WE.then_ret <| WE.block_ret <| ?_
    refine WE.ret1 (P := Tryz.prog) (.inl rfl) Tryz.results24 rfl ?_
    obtain ⟨e1, e2⟩ := hno rfl
    have e3 := hR _ _ (TickR.done e2)
    rw [List.append_nil] at e3
    rw [e1] at *
    exact fun w' h => ⟨_, _, e3, ad4, c4, fs, EF, KF, p4, E04, E14, d5, rfl, hV4, rfl, (hA4.bagged (by simpa using hb5)).till e2 hnt.2 hT0.2.1, h⟩
   ·
    refine WL.v (v_assign rfl rfl) rfl <| WL.v (v_assign rfl rfl) rfl <| WL.nt <| WC.seq <| WC.seq <| WC.region <| WL.v (v_move rfl rfl) rfl <| WL.v (v_not rfl rfl rfl) rfl <| WL.nt <| WC.cond_f rfl <| ?_
    refine WC.skip <| WE.then_n <| WC.seq <| WC.region <| WL.v (v_move rfl rfl) rfl <| WL.nt <| WC.block <| WC.seq <| WC.region <| ?_
    refine WL.test (v_eql rfl rfl rfl) (.none rfl) rfl rfl (fun h37 => ?_) (fun h37 => ?_)
    ·
     obtain rfl : n = 0 := (by omega)
     have hF := hyes rfl
     have hA5 : PeAt g p4 { t with now := tt, D := t.D.set 0 (-1) } E04 E14 d5 := hA4.at hF (by simpa using hb5)
     have hls := fireS_less hA4.ok hfit hF
     have hF2 := hF.now hA4.ok
     clear hyes hno
     refine WL.v (v_assign rfl rfl) rfl <| WL.nt <| WC.cond_t rfl <| WC.region <| WL.v (v_move rfl rfl) rfl <| WL.v (v_move rfl rfl) rfl <| WL.call rfl rfl ck_50 (.none rfl) rfl rfl <| ?_
     intro w1 hS
     refine (dial_c w0 w1 g p4 { t with now := tt, D := t.D.set 0 (-1) } E04 E14 (EF ++ (KF ++ L)) d5 hA5 (hS.permK (by intro c k h1 h2 h3 e; simp only [Ck.L, clkL, h1, h2, h3] <;> omega))).mono ?_
     rintro e w' ⟨ad2, c2, gs, EG, KG, p2, E02, E12, d2, rfl, hV2, heg, hA2, hS'⟩
     have hS2 : St (fun _ => False) w0 w' (EG ++ (KG ++ (.row g p2.cells :: (E02 ++ (E12 ++ d2.L p2.gC (fireS t 0 tt).1.now (EF ++ (KF ++ L))))))) := hS'
     have hgl := efs_len heg
     have hgb : gs.length ≤ 3 := (by rw [hgl]; exact fireS_len t 0 tt)
     refine ⟨_, EF ++ (EG ++ (KG ++ (KF ++ (.row g p2.cells :: (E02 ++ (E12 ++ d2.L p2.gC (fireS t 0 tt).1.now L)))))), rfl, hS2.permK (by intro c k h1 h2 h3 e; simp only [Ck.L, clkL, h1, h2, h3] <;> omega), ?_⟩
     refine WL.appendL rfl rfl rfl Tryz.underlying46 Tryz.underlying46 sz_54 by_54 zero_54 rfl rfl hV4.1 (new := efsL gs) (hV2.1.src (fun e he => List.mem_append_right _ (List.mem_append_left _ he)) |> fun f h => (f (by rw [efsL_len]; omega)).elim fun b1 h1 => h1.elim fun o1 h2 => ⟨b1, o1, h2.1, fun w hS => h2.2 _ _ w hS⟩) (efsL_len gs) (efsL_one gs) (by omega) (.none rfl) rfl rfl ?_
     intro ad41 c41 E41 hV41 hr41
     rw [efsL_app] at hV41
     rw [show fs.length + gs.length = (fs ++ gs).length from List.length_append.symm] at hV41 ⊢
     refine WL.to (L' := (⟨p2, E02, E12, d2, ad41, c41, fs ++ gs, E41, KG ++ KF⟩ : PS).L g (fireS t 0 tt).1.now L) (fun w hS => hS.dropK EG (by intro c k h1 h2 h3 e; simp only [PS.L, Ck.L, clkL, h1, h2, h3] <;> omega)) ?_
     refine WL.v (v_assign rfl rfl) rfl <| WL.nil <| WE.block_n <| WE.block_n <| ?_
     refine WE.next ⟨0, ⟨p2, E02, E12, d2, ad41, c41, fs ++ gs, E41, KG ++ KF⟩, (fireS t 0 tt).1⟩ hls ⟨hA2, fireS_fit hfit _ _, ⟨by rw [fireS_now]; omega, by rw [fireS_now]; omega⟩, ⟨hV41, fun e he => ?_⟩, by dsimp only; rw [List.length_append]; omega, fun es s' h => ?_⟩ (.cons rfl (.cons rfl (.cons rfl .nil))) (.refl _)
     · rcases List.mem_append.1 he with he | he
       · exact (hV4.2 e he).mono fun x hx => List.mem_append_right _ hx
       · exact (hV2.2 e he).mono fun x hx => List.mem_append_left _ hx
     · rw [List.map_append, heg, List.append_assoc]
       exact hR _ _ (.fire hF h)
    ·
     refine WL.v (v_assign rfl rfl) rfl <| WL.nt <| WC.cond_f rfl <| WC.seq <| WC.seq <| WC.region <| ?_
     refine WL.test (v_eql rfl rfl rfl) (.none rfl) rfl rfl (fun h43 => ?_) (fun h43 => ?_)
     ·
      obtain rfl : n = 1 := (by omega)
      have hF := hyes rfl
      have hA5 : PeAt g p4 { t with now := tt, D := t.D.set 1 (-1) } E04 E14 d5 := hA4.at hF (by simpa using hb5)
      have hls := fireS_less hA4.ok hfit hF
      have hF2 := hF.now hA4.ok
      clear hyes hno
      refine WL.v (v_assign rfl rfl) rfl <| WL.nt <| WC.cond_t rfl <| WC.skip <| WE.then_n <| WC.cond_t rfl <| WC.region <| WL.v (v_move rfl rfl) rfl <| WL.v (v_move rfl rfl) rfl <| WL.v (v_move rfl rfl) rfl <| ?_
      refine WL.v (v_sub rfl rfl rfl (show _ = (0 : Int) from w_i64 (by decide) (by decide))) rfl ?_
      refine WL.call rfl rfl ck_63 (.none rfl) rfl rfl ?_
      intro w1 hS
      refine (fault0_c w0 w1 g p4 { t with now := tt, D := t.D.set 1 (-1) } E04 E14 (EF ++ (KF ++ L)) d5 hA5 hG (hS.permK (by intro c k h1 h2 h3 e; simp only [Ck.L, clkL, h1, h2, h3] <;> omega)) 4 0 ⟨by decide, by decide⟩ ⟨by decide, by decide⟩).mono ?_
      rintro e w' ⟨ad2, c2, gs, EG, KG, p2, E02, E12, d2, rfl, hV2, heg, hA2, hS'⟩
      have hS2 : St (fun _ => False) w0 w' (EG ++ (KG ++ (.row g p2.cells :: (E02 ++ (E12 ++ d2.L p2.gC (fireS t 1 tt).1.now (EF ++ (KF ++ L))))))) := hS'
      have hgl := efs_len heg
      have hgb : gs.length ≤ 3 := (by rw [hgl]; exact fireS_len t 1 tt)
      refine ⟨_, EF ++ (EG ++ (KG ++ (KF ++ (.row g p2.cells :: (E02 ++ (E12 ++ d2.L p2.gC (fireS t 1 tt).1.now L)))))), rfl, hS2.permK (by intro c k h1 h2 h3 e; simp only [Ck.L, clkL, h1, h2, h3] <;> omega), ?_⟩
      refine WL.appendL rfl rfl rfl Tryz.underlying46 Tryz.underlying46 sz_54 by_54 zero_54 rfl rfl hV4.1 (new := efsL gs) (hV2.1.src (fun e he => List.mem_append_right _ (List.mem_append_left _ he)) |> fun f h => (f (by rw [efsL_len]; omega)).elim fun b1 h1 => h1.elim fun o1 h2 => ⟨b1, o1, h2.1, fun w hS => h2.2 _ _ w hS⟩) (efsL_len gs) (efsL_one gs) (by omega) (.none rfl) rfl rfl ?_
      intro ad50 c50 E50 hV50 hr50
      rw [efsL_app] at hV50
      rw [show fs.length + gs.length = (fs ++ gs).length from List.length_append.symm] at hV50 ⊢
      refine WL.to (L' := (⟨p2, E02, E12, d2, ad50, c50, fs ++ gs, E50, KG ++ KF⟩ : PS).L g (fireS t 1 tt).1.now L) (fun w hS => hS.dropK EG (by intro c k h1 h2 h3 e; simp only [PS.L, Ck.L, clkL, h1, h2, h3] <;> omega)) ?_
      refine WL.v (v_assign rfl rfl) rfl <| WL.nil <| WE.block_n <| WE.block_n <| ?_
      refine WE.next ⟨0, ⟨p2, E02, E12, d2, ad50, c50, fs ++ gs, E50, KG ++ KF⟩, (fireS t 1 tt).1⟩ hls ⟨hA2, fireS_fit hfit _ _, ⟨by rw [fireS_now]; omega, by rw [fireS_now]; omega⟩, ⟨hV50, fun e he => ?_⟩, by dsimp only; rw [List.length_append]; omega, fun es s' h => ?_⟩ (.cons rfl (.cons rfl (.cons rfl .nil))) (.refl _)
      · rcases List.mem_append.1 he with he | he
        · exact (hV4.2 e he).mono fun x hx => List.mem_append_right _ hx
        · exact (hV2.2 e he).mono fun x hx => List.mem_append_left _ hx
      · rw [List.map_append, heg, List.append_assoc]
        exact hR _ _ (.fire hF h)
     ·
      refine WL.v (v_assign rfl rfl) rfl <| WL.nt <| WC.cond_f rfl <| WC.region <| ?_
      refine WL.test (v_eql rfl rfl rfl) (.none rfl) rfl rfl (fun h44 => ?_) (fun h44 => ?_)
      ·
       obtain rfl : n = 2 := (by omega)
       have hF := hyes rfl
       have hA5 : PeAt g p4 { t with now := tt, D := t.D.set 2 (-1) } E04 E14 d5 := hA4.at hF (by simpa using hb5)
       have hls := fireS_less hA4.ok hfit hF
       have hF2 := hF.now hA4.ok
       clear hyes hno
       refine WL.v (v_assign rfl rfl) rfl <| WL.nt <| WC.cond_t rfl <| WC.region <| WL.v (v_move rfl rfl) rfl <| WL.v (v_move rfl rfl) rfl <| WL.v (v_move rfl rfl) rfl <| ?_
       refine WL.v (v_sub rfl rfl rfl (show _ = (1 : Int) from w_i64 (by decide) (by decide))) rfl ?_
       refine WL.call rfl rfl ck_63 (.none rfl) rfl rfl ?_
       intro w1 hS
       refine (fault1_c w0 w1 g p4 { t with now := tt, D := t.D.set 2 (-1) } E04 E14 (EF ++ (KF ++ L)) d5 hA5 hG (hS.permK (by intro c k h1 h2 h3 e; simp only [Ck.L, clkL, h1, h2, h3] <;> omega)) 4 0 ⟨by decide, by decide⟩ ⟨by decide, by decide⟩).mono ?_
       rintro e w' ⟨ad2, c2, gs, EG, KG, p2, E02, E12, d2, rfl, hV2, heg, hA2, hS'⟩
       have hS2 : St (fun _ => False) w0 w' (EG ++ (KG ++ (.row g p2.cells :: (E02 ++ (E12 ++ d2.L p2.gC (fireS t 2 tt).1.now (EF ++ (KF ++ L))))))) := hS'
       have hgl := efs_len heg
       have hgb : gs.length ≤ 3 := (by rw [hgl]; exact fireS_len t 2 tt)
       refine ⟨_, EF ++ (EG ++ (KG ++ (KF ++ (.row g p2.cells :: (E02 ++ (E12 ++ d2.L p2.gC (fireS t 2 tt).1.now L)))))), rfl, hS2.permK (by intro c k h1 h2 h3 e; simp only [Ck.L, clkL, h1, h2, h3] <;> omega), ?_⟩
       refine WL.appendL rfl rfl rfl Tryz.underlying46 Tryz.underlying46 sz_54 by_54 zero_54 rfl rfl hV4.1 (new := efsL gs) (hV2.1.src (fun e he => List.mem_append_right _ (List.mem_append_left _ he)) |> fun f h => (f (by rw [efsL_len]; omega)).elim fun b1 h1 => h1.elim fun o1 h2 => ⟨b1, o1, h2.1, fun w hS => h2.2 _ _ w hS⟩) (efsL_len gs) (efsL_one gs) (by omega) (.none rfl) rfl rfl ?_
       intro ad50 c50 E50 hV50 hr50
       rw [efsL_app] at hV50
       rw [show fs.length + gs.length = (fs ++ gs).length from List.length_append.symm] at hV50 ⊢
       refine WL.to (L' := (⟨p2, E02, E12, d2, ad50, c50, fs ++ gs, E50, KG ++ KF⟩ : PS).L g (fireS t 2 tt).1.now L) (fun w hS => hS.dropK EG (by intro c k h1 h2 h3 e; simp only [PS.L, Ck.L, clkL, h1, h2, h3] <;> omega)) ?_
       refine WL.v (v_assign rfl rfl) rfl <| WL.nil <| WE.block_n <| WE.block_n <| ?_
       refine WE.next ⟨0, ⟨p2, E02, E12, d2, ad50, c50, fs ++ gs, E50, KG ++ KF⟩, (fireS t 2 tt).1⟩ hls ⟨hA2, fireS_fit hfit _ _, ⟨by rw [fireS_now]; omega, by rw [fireS_now]; omega⟩, ⟨hV50, fun e he => ?_⟩, by dsimp only; rw [List.length_append]; omega, fun es s' h => ?_⟩ (.cons rfl (.cons rfl (.cons rfl .nil))) (.refl _)
       · rcases List.mem_append.1 he with he | he
         · exact (hV4.2 e he).mono fun x hx => List.mem_append_right _ hx
         · exact (hV2.2 e he).mono fun x hx => List.mem_append_left _ hx
       · rw [List.map_append, heg, List.append_assoc]
         exact hR _ _ (.fire hF h)
      ·
       refine WL.v (v_assign rfl rfl) rfl <| WL.nt <| WC.cond_f rfl <| WC.seq <| WC.seq <| WC.region <| ?_
       refine WL.test (v_eql rfl rfl rfl) (.none rfl) rfl rfl (fun h52 => ?_) (fun h52 => ?_)
       ·
        obtain rfl : n = 3 := (by omega)
        have hF := hyes rfl
        have hA5 : PeAt g p4 { t with now := tt, D := t.D.set 3 (-1) } E04 E14 d5 := hA4.at hF (by simpa using hb5)
        have hls := fireS_less hA4.ok hfit hF
        have hF2 := hF.now hA4.ok
        clear hyes hno
        refine WL.v (v_assign rfl rfl) rfl <| WL.nt <| WC.cond_t rfl <| WC.skip <| WE.then_n <| WC.cond_t rfl <| WC.seq <| WC.region <| WL.v (v_move rfl rfl) rfl <| WL.v (v_move rfl rfl) rfl <| ?_
        refine WL.v (v_sub rfl rfl rfl (show _ = (0 : Int) from w_i64 (by decide) (by decide))) rfl ?_
        refine WL.v (v_build rfl rfl zero_39 plc_39 rfl) rfl <| WL.call rfl rfl ck_54 (.none rfl) rfl rfl <| ?_
        intro w1 hS
        refine (send_c w1 0 (MsL.zero 4) (zero4_at _) (zeroM_in ⟨by decide, by decide⟩) (hG.keep (fun h => h) hS) (Nat.zero_le _) (Nat.zero_le _)).mono ?_
        rintro e w' ⟨ad2, c2, gs, EG, KG, rfl, hV2, heg, hS'⟩
        have hgl := efs_len heg
        have hgb := sendE_len 0 (MsL.zero 4)
        refine ⟨_, EF ++ (EG ++ (KG ++ (KF ++ (.row g p4.cells :: (E04 ++ (E14 ++ d5.L p4.gC tt L)))))), rfl, (hS.join hS').permK (by intro c k h1 h2 h3 e; simp only [Ck.L, clkL, h1, h2, h3] <;> omega), ?_⟩
        refine WL.appendL rfl rfl rfl Tryz.underlying46 Tryz.underlying46 sz_54 by_54 zero_54 rfl rfl hV4.1 (new := efsL gs) (hV2.1.src (fun e he => List.mem_append_right _ (List.mem_append_left _ he)) |> fun f h => (f (by rw [efsL_len]; omega)).elim fun b1 h1 => h1.elim fun o1 h2 => ⟨b1, o1, h2.1, fun w hS => h2.2 _ _ w hS⟩) (efsL_len gs) (efsL_one gs) (by omega) (.none rfl) rfl rfl ?_
        intro ad59 c59 E59 hV59 hr59
        rw [efsL_app] at hV59
        rw [show fs.length + gs.length = (fs ++ gs).length from List.length_append.symm] at hV59 ⊢
        refine WL.v (v_assign rfl rfl) rfl <| WL.nt <| WC.region <| WL.v (v_move rfl rfl) rfl <| WL.v (v_move rfl rfl) rfl <| ?_
        refine WL.v (v_sub rfl rfl rfl (show _ = (0 : Int) from w_i64 (by decide) (by decide))) rfl ?_
        refine WL.call rfl rfl ck_64 (.none rfl) rfl rfl ?_
        intro w1 hS
        refine (kept0_c w0 w1 g p4 { t with now := tt, D := t.D.set 3 (-1) } E04 E14 (E59 ++ (EG ++ (KG ++ (KF ++ L)))) d5 hA5 (hS.permK (by intro c k h1 h2 h3 e; simp only [Ck.L, clkL, h1, h2, h3] <;> omega))).mono ?_
        rintro e w' ⟨d6, rfl, hA6, hS'⟩
        have hS2 : St (fun _ => False) w0 w' (.row g p4.cells :: (E04 ++ (E14 ++ d6.L p4.gC tt (E59 ++ (EG ++ (KG ++ (KF ++ L))))))) := hS'
        have hnn : (fireS t 3 tt).1.now = tt := fireS_now _ _ _
        refine ⟨_, (⟨p4, E04, E14, d6, ad59, c59, fs ++ gs, E59, KG ++ KF⟩ : PS).L g (fireS t 3 tt).1.now L, rfl, (by rw [hnn]; exact hS2.dropK EG (by intro c k h1 h2 h3 e; simp only [PS.L, Ck.L, clkL, h1, h2, h3] <;> omega)), ?_⟩
        refine WL.nil <| WE.block_n <| WE.block_n <| ?_
        refine WE.next ⟨0, ⟨p4, E04, E14, d6, ad59, c59, fs ++ gs, E59, KG ++ KF⟩, (fireS t 3 tt).1⟩ hls ⟨hA6, fireS_fit hfit _ _, ⟨by rw [fireS_now]; omega, by rw [fireS_now]; omega⟩, ⟨hV59, fun e he => ?_⟩, by dsimp only; rw [List.length_append]; omega, fun es s' h => ?_⟩ (.cons rfl (.cons rfl (.cons rfl .nil))) (.refl _)
        · rcases List.mem_append.1 he with he | he
          · exact (hV4.2 e he).mono fun x hx => List.mem_append_right _ hx
          · exact (hV2.2 e he).mono fun x hx => List.mem_append_left _ hx
        · rw [List.map_append, heg, List.append_assoc]
          exact hR _ _ (.fire hF h)
       ·
        refine WL.v (v_assign rfl rfl) rfl <| WL.nt <| WC.cond_f rfl <| WC.region <| ?_
        refine WL.test (v_eql rfl rfl rfl) (.none rfl) rfl rfl (fun h53 => ?_) (fun h53 => ?_)
        ·
         obtain rfl : n = 4 := (by omega)
         have hF := hyes rfl
         have hA5 : PeAt g p4 { t with now := tt, D := t.D.set 4 (-1) } E04 E14 d5 := hA4.at hF (by simpa using hb5)
         have hls := fireS_less hA4.ok hfit hF
         have hF2 := hF.now hA4.ok
         clear hyes hno
         refine WL.v (v_assign rfl rfl) rfl <| WL.nt <| WC.cond_t rfl <| WC.seq <| WC.region <| WL.v (v_move rfl rfl) rfl <| WL.v (v_move rfl rfl) rfl <| ?_
         refine WL.v (v_sub rfl rfl rfl (show _ = (1 : Int) from w_i64 (by decide) (by decide))) rfl ?_
         refine WL.v (v_build rfl rfl zero_39 plc_39 rfl) rfl <| WL.call rfl rfl ck_54 (.none rfl) rfl rfl <| ?_
         intro w1 hS
         refine (send_c w1 1 (MsL.zero 4) (zero4_at _) (zeroM_in ⟨by decide, by decide⟩) (hG.keep (fun h => h) hS) (Nat.zero_le _) (Nat.zero_le _)).mono ?_
         rintro e w' ⟨ad2, c2, gs, EG, KG, rfl, hV2, heg, hS'⟩
         have hgl := efs_len heg
         have hgb := sendE_len 1 (MsL.zero 4)
         refine ⟨_, EF ++ (EG ++ (KG ++ (KF ++ (.row g p4.cells :: (E04 ++ (E14 ++ d5.L p4.gC tt L)))))), rfl, (hS.join hS').permK (by intro c k h1 h2 h3 e; simp only [Ck.L, clkL, h1, h2, h3] <;> omega), ?_⟩
         refine WL.appendL rfl rfl rfl Tryz.underlying46 Tryz.underlying46 sz_54 by_54 zero_54 rfl rfl hV4.1 (new := efsL gs) (hV2.1.src (fun e he => List.mem_append_right _ (List.mem_append_left _ he)) |> fun f h => (f (by rw [efsL_len]; omega)).elim fun b1 h1 => h1.elim fun o1 h2 => ⟨b1, o1, h2.1, fun w hS => h2.2 _ _ w hS⟩) (efsL_len gs) (efsL_one gs) (by omega) (.none rfl) rfl rfl ?_
         intro ad59 c59 E59 hV59 hr59
         rw [efsL_app] at hV59
         rw [show fs.length + gs.length = (fs ++ gs).length from List.length_append.symm] at hV59 ⊢
         refine WL.v (v_assign rfl rfl) rfl <| WL.nt <| WC.region <| WL.v (v_move rfl rfl) rfl <| WL.v (v_move rfl rfl) rfl <| ?_
         refine WL.v (v_sub rfl rfl rfl (show _ = (1 : Int) from w_i64 (by decide) (by decide))) rfl ?_
         refine WL.call rfl rfl ck_64 (.none rfl) rfl rfl ?_
         intro w1 hS
         refine (kept1_c w0 w1 g p4 { t with now := tt, D := t.D.set 4 (-1) } E04 E14 (E59 ++ (EG ++ (KG ++ (KF ++ L)))) d5 hA5 (hS.permK (by intro c k h1 h2 h3 e; simp only [Ck.L, clkL, h1, h2, h3] <;> omega))).mono ?_
         rintro e w' ⟨d6, rfl, hA6, hS'⟩
         have hS2 : St (fun _ => False) w0 w' (.row g p4.cells :: (E04 ++ (E14 ++ d6.L p4.gC tt (E59 ++ (EG ++ (KG ++ (KF ++ L))))))) := hS'
         have hnn : (fireS t 4 tt).1.now = tt := fireS_now _ _ _
         refine ⟨_, (⟨p4, E04, E14, d6, ad59, c59, fs ++ gs, E59, KG ++ KF⟩ : PS).L g (fireS t 4 tt).1.now L, rfl, (by rw [hnn]; exact hS2.dropK EG (by intro c k h1 h2 h3 e; simp only [PS.L, Ck.L, clkL, h1, h2, h3] <;> omega)), ?_⟩
         refine WL.nil <| WE.block_n <| WE.block_n <| ?_
         refine WE.next ⟨0, ⟨p4, E04, E14, d6, ad59, c59, fs ++ gs, E59, KG ++ KF⟩, (fireS t 4 tt).1⟩ hls ⟨hA6, fireS_fit hfit _ _, ⟨by rw [fireS_now]; omega, by rw [fireS_now]; omega⟩, ⟨hV59, fun e he => ?_⟩, by dsimp only; rw [List.length_append]; omega, fun es s' h => ?_⟩ (.cons rfl (.cons rfl (.cons rfl .nil))) (.refl _)
         · rcases List.mem_append.1 he with he | he
           · exact (hV4.2 e he).mono fun x hx => List.mem_append_right _ hx
           · exact (hV2.2 e he).mono fun x hx => List.mem_append_left _ hx
         · rw [List.map_append, heg, List.append_assoc]
           exact hR _ _ (.fire hF h)
        ·
         refine WL.v (v_assign rfl rfl) rfl <| WL.nt <| WC.cond_f rfl <| WC.skip <| WE.block_n <| WE.block_n <| ?_
         exact absurd ((hyes rfl).now hA4.ok).2.2.2.1 (by omega)
end Go.Proofs.YtcmpamnhegndnaaGreatDoor
/- peer: single messages, read; what each call makes of a session, as data. -/
namespace Go.Proofs.YtcmpamnhegndnaaGreatDoor
open Go.RowKit

theorem feedM_one {m : MsL} (h : msgC m = 0) (hI : m.In) : feedM [] (msgB m) = ([bareD m], none, []) := by
  obtain ⟨j, rest, hj, e, _, hz⟩ := feedM_prefix [m] [] (msgB m) [] (fun x hx => by obtain rfl := List.mem_singleton.1 hx; exact ⟨h, hI⟩) (by unfold flatB; rw [List.flatMap_cons, List.flatMap_nil])
  obtain ⟨rfl, rfl⟩ := hz rfl
  exact e
theorem openM_code {a h i : Int} (ha : 1 ≤ a ∧ a ≤ 65535) (hh : h = 0 ∨ 3 ≤ h ∧ h ≤ 65535) (hi : i ≠ 0) : msgC (openM a h i) = 0 := by
  have e1 : badO (openM a h i) = false := by
    unfold badO
    exact decide_eq_false (show ¬ (a < 1 ∨ 65535 < a ∨ (h ≠ 0 ∧ (h < 3 ∨ 65535 < h)) ∨ i = 0 ∨ 32 < 0) by omega)
  have e2 : bodC (openM a h i) = 0 := by
    show openC (openM a h i) = 0
    unfold openC
    rw [e1]
    rfl
  have e3 : (bodB (openM a h i)).length = 10 := by
    show (openB (openM a h i)).length = 10
    unfold openB
    simp only [List.length_append, numB_len, List.length_cons, List.length_nil]
    rfl
  unfold msgC
  rw [if_pos e2, if_neg (by omega)]
theorem ka_code : msgC (MsL.zero 4) = 0 := by decide
theorem sendE_ok {n : Int} {m : MsL} (h : msgC m = 0) : sendE n m = [⟨2, n, msgB m, (MsL.zero 0).d⟩] := if_pos h
end Go.Proofs.YtcmpamnhegndnaaGreatDoor
/- peer: the first steps of a session, as data; the document's example. -/
namespace Go.Proofs.YtcmpamnhegndnaaGreatDoor
open Go.RowKit

theorem efs_kind {fs : List EfL} {es : List EfD} (h : fs.map EfL.d = es) : fs.map EfL.kind = es.map EfD.kind := by
  rw [← h, List.map_map]; rfl
theorem openS_ok {s : Se} {n : Nat} {A H j : Int} (h1 : A = s.their) (h2 : j ≠ s.id) (h3 : (s.c (1 - n)).st ≠ 5) (h4 : (s.c (1 - n)).st ≠ 4) : openS s n A H j = (s.confirm n H j, sendE n (MsL.zero 4)) := (if_neg (fun hh => hh h1)).trans ((if_neg h2).trans ((if_neg h3).trans (if_neg h4)))
theorem hearD_open {s : Se} {n : Nat} {m : MsD} (h1 : m.kind = 1) (h2 : (s.c n).st = 3) : hearD s n m = openS s n m.asn m.hold m.id := (if_neg (by omega)).trans (if_pos ⟨h1, h2⟩)
theorem hearD_estab {s : Se} {n : Nat} {m : MsD} (h1 : m.kind = 4) (h2 : (s.c n).st = 4) : hearD s n m = (s.establish n, estabE s n) := (if_neg (by omega)).trans ((if_neg (by omega)).trans (if_pos ⟨h1, h2⟩))
theorem estab_one {s t : Se} {n : Nat} (h1 : s.up5 n = t) (h2 : (t.c (1 - n)).st = 0) : s.establish n = t ∧ estabE s n = [ef 4 n] := by
  subst h1
  exact ⟨if_pos h2, by unfold estabE; rw [if_pos h2]; rfl⟩
theorem confirm_on {s : Se} {n : Nat} {H j : Int} (h : min s.hold H ≠ 0) : s.confirm n H j = ((s.conf4 n H j).alive n).kept n := if_neg h
theorem alive_on {s : Se} {n : Nat} (h : (s.c n).hold ≠ 0) : s.alive n = s.due (1 + n) (s.c n).hold := if_neg h
theorem kept_on {s : Se} {n : Nat} (h : (s.c n).hold ≠ 0) : s.kept n = s.due (3 + n) ((s.c n).hold.tdiv 3) := if_neg h
section
variable (a i t h r : Int)
def sA : Se := ⟨a, i, t, h, r, 1, CnM.zero, CnM.zero, 0, [r, -1, -1, -1, -1]⟩
def sB : Se := ⟨a, i, t, h, r, 2, sentC, CnM.zero, 0, [-1, 240, -1, -1, -1]⟩
def cn4 (H j : Int) : CnM := ⟨4, [], 1, 0, 0, ⟨#[]⟩, H, j⟩
def cn5 (H j : Int) : CnM := ⟨5, [], 2, 0, 0, ⟨#[]⟩, H, j⟩
def sC (H j : Int) : Se := ⟨a, i, t, h, r, 2, cn4 H j, CnM.zero, 0, [-1, H, -1, H.tdiv 3, -1]⟩
def sD (H j : Int) : Se := ⟨a, i, t, h, r, 2, cn5 H j, CnM.zero, 0, [-1, H, -1, H.tdiv 3, -1]⟩
variable {a i t h r : Int}
theorem dueV_0 {n : Nat} {l : Int} (h0 : l ≤ 65535) : dueV 0 n l = l := by
  unfold dueV maxT
  rw [if_neg (by omega)]
  omega
theorem dial_new (hr : r ≤ 65535) : (Se.new a i t h r).dial = sA a i t h r := by
  show (⟨a, i, t, h, r, 1, CnM.zero, CnM.zero, 0, [dueV 0 0 r, -1, -1, -1, -1]⟩ : Se) = _
  rw [dueV_0 hr]
  rfl
theorem up_sA : (sA a i t h r).up 0 = sB a i t h r ∧ upE (sA a i t h r) 0 = sendE 0 (openM a h i) := by
  have hn : ¬ upNo (sA a i t h r) 0 := by
    rintro (h | h | ⟨_, h⟩)
    · exact absurd (show (1 : Int) = 0 from h) (by decide)
    · exact h rfl
    · exact h rfl
  exact ⟨(if_neg hn).trans rfl, if_neg hn⟩
/-- A single message, read on a connection with nothing waiting. -/
theorem feedS_one {s : Se} {n : Nat} {m : MsL} (h0 : (s.c n).st ≠ 0) (hw : (s.c n).wait = []) (h : msgC m = 0) (hI : m.In) : feedS s n (msgB m) = hearD (s.set n { s.c n with wait := [], count := (s.c n).count + 1, fc := 0, fs := 0, fd := ⟨#[]⟩ }) n (bareD m) := by
  have e1 : feedM [] ((s.c n).wait ++ msgB m) = ([bareD m], none, []) := by rw [hw, List.nil_append]; exact feedM_one h hI
  unfold feedS
  rw [if_neg h0]
  have e2 : s.fed n (msgB m) = s.set n { s.c n with wait := [], count := (s.c n).count + 1, fc := 0, fs := 0, fd := ⟨#[]⟩ } := by
    unfold Se.fed CnM.fed
    rw [e1]
    rfl
  rw [e2, e1]
  dsimp only
  generalize he : s.set n _ = s'
  have e3 : (s'.c n).st = (s.c n).st := by
    rw [← he]
    unfold Se.set Se.c
    split <;> rfl
  have e4 : heardD n s' [bareD m] = hearD s' n (bareD m) := by
    unfold heardD
    rw [if_neg (by rw [e3]; exact h0)]
    unfold heardD
    rw [List.append_nil]
  rw [e4]
  unfold endF
  split <;> rfl
/-- An Open on the first connection. -/
theorem feed_sB {A H j : Int} (hc : msgC (openM A H j) = 0) (hI : (openM A H j).In) : feedS (sB a i t h r) 0 (msgB (openM A H j)) = openS ⟨a, i, t, h, r, 2, ⟨3, [], 1, 0, 0, ⟨#[]⟩, 0, 0⟩, CnM.zero, 0, [-1, 240, -1, -1, -1]⟩ 0 A H j := by
  rw [feedS_one (s := sB a i t h r) (n := 0) (show (3 : Int) ≠ 0 by decide) rfl hc hI]
  exact hearD_open rfl rfl
theorem confirm_sB {H j : Int} (hm : 3 ≤ min h H) (hh : min h H ≤ 65535) : Se.confirm ⟨a, i, t, h, r, 2, ⟨3, [], 1, 0, 0, ⟨#[]⟩, 0, 0⟩, CnM.zero, 0, [-1, 240, -1, -1, -1]⟩ 0 H j = sC a i t h r (min h H) j := by
  rw [confirm_on (show min h H ≠ 0 by omega)]
  refine (congrArg (fun z => Se.kept z 0) (alive_on ?_)).trans ?_
  · show min h H ≠ 0; omega
  refine (kept_on ?_).trans ?_
  · show min h H ≠ 0; omega
  show (⟨a, i, t, h, r, 2, cn4 (min h H) j, CnM.zero, 0, [-1, dueV 0 1 (min h H), -1, dueV 0 3 ((min h H).tdiv 3), -1]⟩ : Se) = _
  rw [dueV_0 hh, dueV_0 (tdiv3 (by omega) hh).2]
  rfl
theorem feed_sC {H j : Int} (hm : 3 ≤ H) (hh : H ≤ 65535) : feedS (sC a i t h r H j) 0 (msgB (MsL.zero 4)) = (sD a i t h r H j, [ef 4 0]) := by
  rw [feedS_one (s := sC a i t h r H j) (n := 0) (show (4 : Int) ≠ 0 by decide) rfl ka_code (zeroM_in ⟨by decide, by decide⟩)]
  refine (hearD_estab rfl rfl).trans ?_
  have e1 := estab_one (s := ⟨a, i, t, h, r, 2, ⟨4, [], 2, 0, 0, ⟨#[]⟩, H, j⟩, CnM.zero, 0, [-1, H, -1, H.tdiv 3, -1]⟩) (n := 0) (t := sD a i t h r H j) (by
    refine (alive_on (s := ⟨a, i, t, h, r, 2, ⟨5, [], 2, 0, 0, ⟨#[]⟩, H, j⟩, CnM.zero, 0, [-1, H, -1, H.tdiv 3, -1]⟩) (n := 0) (show H ≠ 0 by omega)).trans ?_
    show (⟨a, i, t, h, r, 2, cn5 H j, CnM.zero, 0, [-1, dueV 0 1 H, -1, H.tdiv 3, -1]⟩ : Se) = _
    rw [dueV_0 hh]
    rfl) rfl
  exact Prod.ext e1.1 e1.2
end
section
variable {a i t h r : Int} (w0 w : World) (g : Nat) (p : PeL) (E0 E1 L : List Ent) (d : Ck)
theorem start_new (hA : PeAt g p (Se.new a i t h r) E0 E1 d) (hS0 : St (fun _ => False) w0 w (.row g p.cells :: (E0 ++ (E1 ++ d.L p.gC 0 L)))) (hr : r ≤ 65535) : Calls Tryz.prog 13 #[.pointer (some ⟨g, 0, none⟩)] w fun e w' => EffC w0 w' g [ef 1 0] (sA a i t h r) L e := by
  have hc := start_c w0 w g p (Se.new a i t h r) E0 E1 L d hA hS0
  rw [if_pos (show (Se.new a i t h r).base = 0 from rfl), if_pos (show (Se.new a i t h r).base = 0 from rfl), dial_new hr] at hc
  exact hc
theorem up_new (hA : PeAt g p (sA a i t h r) E0 E1 d) (hG : GF w0) (hS0 : St (fun _ => False) w0 w (.row g p.cells :: (E0 ++ (E1 ++ d.L p.gC 0 L)))) (hok : confOk a i t h r) : Calls Tryz.prog 14 #[.pointer (some ⟨g, 0, none⟩), .int .i64 0] w fun e w' => EffC w0 w' g [⟨2, 0, msgB (openM a h i), (MsL.zero 0).d⟩] (sB a i t h r) L e := by
  have hc := up0_c w0 w g p (sA a i t h r) E0 E1 L d hA hG hS0 (by have := hok.1; show -9223372036854775808 ≤ a ∧ a ≤ 9223372036854775807; omega)
  rw [up_sA.1, up_sA.2, sendE_ok (openM_code hok.1 hok.2.2.2.1 hok.2.2.1)] at hc
  exact hc
end
end Go.Proofs.YtcmpamnhegndnaaGreatDoor
/- peer: the document's example (printed by gen/pex.py). -/
namespace Go.Proofs.YtcmpamnhegndnaaGreatDoor
open Go.RowKit

theorem openM_in' {a h i : Int} (ha : 1 ≤ a ∧ a ≤ 65535) (hh : I64 h) (hi : U32 i) : (openM a h i).In := openM_in (by constructor <;> omega) hh hi
theorem msgB_le {m : MsL} (h : msgC m = 0) : (msgB m).length ≤ 4096 := by
  have := (msgC_bod h).2
  rw [msgB_len]; omega
theorem feed_sB_ok {a i t h r H j : Int} (hc : msgC (openM t H j) = 0) (hI : (openM t H j).In) (hj : j ≠ i) (hm : 3 ≤ min h H) (hh : min h H ≤ 65535) : feedS (sB a i t h r) 0 (msgB (openM t H j)) = (sC a i t h r (min h H) j, [⟨2, 0, msgB (MsL.zero 4), (MsL.zero 0).d⟩]) := by
  rw [feed_sB hc hI]
  refine (openS_ok rfl hj ?_ ?_).trans ?_
  · show (0 : Int) ≠ 5; decide
  · show (0 : Int) ≠ 4; decide
  · rw [confirm_sB hm hh]
    exact congrArg (Prod.mk _) (sendE_ok ka_code)
set_option maxHeartbeats 2000000 in
theorem Head10_c (w0 : World) (hG : GF w0) (hZ : GZ w0) : Calls Tryz.prog 9 #[] w0 fun e w' => e = .returned (.bool true) ∧ Frm (fun _ => False) w0 w' := by
  have hok : confOk 65000 5 65001 90 10 := by decide
  have hoc : msgC (openM 65001 30 9) = 0 := openM_code (by decide) (by decide) (by decide)
  have hoI : (openM 65001 30 9).In := openM_in' (by decide) ⟨by decide, by decide⟩ ⟨by decide, by decide⟩
  have hol : (msgB (openM 65001 30 9)).length ≤ 4096 := msgB_le hoc
  have hkI : (MsL.zero 4).In := zeroM_in ⟨by decide, by decide⟩
  have hkl : (msgB (MsL.zero 4)).length ≤ 4096 := msgB_le ka_code
  have f1 : feedS (sB 65000 5 65001 90 10) 0 (msgB (openM 65001 30 9)) = (sC 65000 5 65001 90 10 30 9, [⟨2, 0, msgB (MsL.zero 4), (MsL.zero 0).d⟩]) := feed_sB_ok (h := 90) hoc hoI (by decide) (by decide) (by decide)
  have f2 : feedS (sC 65000 5 65001 90 10 30 9) 0 (msgB (MsL.zero 4)) = (sD 65000 5 65001 90 10 30 9, [ef 4 0]) := feed_sC (by decide) (by decide)
  refine enter (vs := []) Tryz.func9 rfl Tryz.ntmps9 rfl (St.start (fun _ => False) w0) ?_
  refine WC.seq <| WC.region <| WL.v (v_assign rfl rfl) rfl <| WL.nt <| WC.seq <| WC.region <| WL.call rfl rfl ck_12 (.none rfl) rfl rfl <| ?_
  intro w hS
  refine Calls.then (lconf_c w) hS ?_
  refine WL.call rfl rfl ck_11 (.none rfl) rfl rfl ?_
  intro w1 hS
  refine (new_c w0 w1 [] hS 65000 5 65001 90 10 hok ⟨by decide, by decide⟩).mono ?_
  rintro e w' ⟨g, p, d, rfl, hA, hS'⟩
  refine ⟨_, _, rfl, hS', ?_⟩
  refine WL.v (v_move rfl rfl) rfl <| WL.v (v_extract rfl rfl rfl) rfl <| WL.v (v_extract rfl rfl rfl) rfl <| WL.v (v_assign rfl rfl) rfl <| WL.v (v_assign rfl rfl) rfl <| WL.nt <| WC.seq <| WC.seq <| WC.region <| WL.v (v_move rfl rfl) rfl <| ?_
  refine WL.v ((v_neq rfl rfl rfl).f ((by decide))) rfl ?_
  refine WL.v (v_move rfl rfl) rfl <| WL.val (v_move rfl rfl) (.some rfl rfl rfl) rfl rfl <| WL.val (v_eql_nil false rfl rfl Tryz.underlying40 rfl) (.some rfl rfl rfl) rfl rfl <| WL.v (v_pick_f rfl rfl rfl) rfl <| WL.v (v_move rfl rfl) rfl <| WL.val (v_move rfl rfl) (.some rfl rfl rfl) rfl rfl <| WL.call rfl rfl ck_13 (.some rfl rfl rfl) rfl rfl <| ?_
  intro w1 hS
  refine (start_new w0 w1 g p [] [] [] d hA hS (by decide)).mono ?_
  rintro e w' ⟨ad1, c1, fs1, EF1, KF1, p1, E01, E11, d1, rfl, hV1, he1, hA1, hS'⟩
  refine ⟨_, EF1 ++ (KF1 ++ (.row g p1.cells :: (E01 ++ (E11 ++ d1.L p1.gC 0 [])))), rfl, hS', ?_⟩
  refine WL.buildSlice rfl rfl Tryz.underlying32 sz_3 zero_3 rfl (by decide) rfl (.some rfl rfl rfl) rfl rfl ?_
  intro g17 hg17
  refine WL.as (L' := .row g17 [.int .i64 1] :: (EF1 ++ (KF1 ++ (.row g p1.cells :: (E01 ++ (E11 ++ d1.L p1.gC 0 [])))))) rfl <| WL.call rfl rfl ck_16 (.some rfl rfl rfl) rfl rfl <| ?_
  intro w hS
  refine Calls.then (kinds_c w ad1 c1 fs1 EF1 hV1.1 (fun e he => hS.holds e (by simp [Ck.L, clkL, he])) (some ⟨g17, 0, none⟩) 1 [1] (fun _ => ⟨g17, 0, rfl, allAt w hS⟩) (efs_kind he1) (by rw [efs_len he1]; decide)) hS ?_
  refine WL.val (v_not rfl rfl rfl) (.some rfl rfl rfl) rfl rfl <| WL.v (v_pick_f rfl rfl rfl) rfl <| WL.v (v_move rfl rfl) rfl <| WL.val (v_move rfl rfl) (.some rfl rfl rfl) rfl rfl <| WL.call rfl rfl ck_14 (.some rfl rfl rfl) rfl rfl <| ?_
  intro w1 hS
  refine (up_new w0 w1 g p1 E01 E11 [] d1 hA1 hG (hS.dropK (.row g17 [.int .i64 1] :: (EF1 ++ KF1)) (by intro c k h1 h2 h3 e; simp only [Ck.L, clkL, h1, h2, h3] <;> omega)) hok).mono ?_
  rintro e w' ⟨ad2, c2, fs2, EF2, KF2, p2, E02, E12, d2, rfl, hV2, he2, hA2, hS'⟩
  refine ⟨_, EF2 ++ (KF2 ++ (.row g p2.cells :: (E02 ++ (E12 ++ d2.L p2.gC 0 [])))), rfl, hS', ?_⟩
  refine WL.buildSlice rfl rfl Tryz.underlying32 sz_3 zero_3 rfl (by decide) rfl (.some rfl rfl rfl) rfl rfl ?_
  intro g24 hg24
  refine WL.as (L' := .row g24 [.int .i64 2] :: (EF2 ++ (KF2 ++ (.row g p2.cells :: (E02 ++ (E12 ++ d2.L p2.gC 0 [])))))) rfl <| WL.call rfl rfl ck_16 (.some rfl rfl rfl) rfl rfl <| ?_
  intro w hS
  refine Calls.then (kinds_c w ad2 c2 fs2 EF2 hV2.1 (fun e he => hS.holds e (by simp [Ck.L, clkL, he])) (some ⟨g24, 0, none⟩) 1 [2] (fun _ => ⟨g24, 0, rfl, allAt w hS⟩) (efs_kind he2) (by rw [efs_len he2]; decide)) hS ?_
  refine WL.val (v_not rfl rfl rfl) (.some rfl rfl rfl) rfl rfl <| WL.v (v_pick_f rfl rfl rfl) rfl <| WL.v (v_move rfl rfl) rfl <| WL.val (v_move rfl rfl) (.some rfl rfl rfl) rfl rfl <| WL.call rfl rfl ck_22 (.some rfl rfl rfl) rfl rfl <| ?_
  intro w1 hS
  refine (lopen_c w1 9 30 ⟨by decide, by decide⟩ ⟨by decide, by decide⟩ (hG.keep (fun h => h) hS)).mono ?_
  rw [if_pos hoc]
  rintro e w' ⟨_, rfl, ad3, c3, E3, rfl, hV3, hS'⟩
  refine ⟨_, _, rfl, hS.join hS', ?_⟩
  refine WL.call rfl rfl ck_15 (.some rfl rfl rfl) rfl rfl ?_
  intro w1 hS
  have hf := feed0_c w0 w1 g p2 (sB 65000 5 65001 90 10) E02 E12 E3 d2 hA2 hG hZ (show St (fun _ => False) w0 w1 (.row g p2.cells :: (E02 ++ (E12 ++ d2.L p2.gC 0 E3))) from hS.dropK (.row g24 [.int .i64 2] :: (EF2 ++ KF2)) (by intro c k h1 h2 h3 e; simp only [Ck.L, clkL, h1, h2, h3] <;> omega)) ad3 c3 (msgB (openM 65001 30 9)) (fun w h => hV3.cellsAt (fun e he => h.holds e (by simp [Ck.L, clkL, he]))) (msgB_bys hoI hoc) (by omega) ⟨rfl, rfl, rfl⟩ (by decide)
  rw [f1] at hf
  refine hf.mono ?_
  rintro e w' ⟨ad4, c4, fs4, EF4, KF4, p4, E04, E14, d4, rfl, hV4, he4, hA4, hS'⟩
  refine ⟨_, EF4 ++ (KF4 ++ (.row g p4.cells :: (E04 ++ (E14 ++ d4.L p4.gC 0 E3)))), rfl, hS', ?_⟩
  refine WL.buildSlice rfl rfl Tryz.underlying32 sz_3 zero_3 rfl (by decide) rfl (.some rfl rfl rfl) rfl rfl ?_
  intro g32 hg32
  refine WL.as (L' := .row g32 [.int .i64 2] :: (EF4 ++ (KF4 ++ (.row g p4.cells :: (E04 ++ (E14 ++ d4.L p4.gC 0 E3)))))) rfl <| WL.call rfl rfl ck_16 (.some rfl rfl rfl) rfl rfl <| ?_
  intro w hS
  refine Calls.then (kinds_c w ad4 c4 fs4 EF4 hV4.1 (fun e he => hS.holds e (by simp [Ck.L, clkL, he])) (some ⟨g32, 0, none⟩) 1 [2] (fun _ => ⟨g32, 0, rfl, allAt w hS⟩) (efs_kind he4) (by rw [efs_len he4]; decide)) hS ?_
  refine WL.val (v_not rfl rfl rfl) (.some rfl rfl rfl) rfl rfl <| WL.v (v_pick_f rfl rfl rfl) rfl <| WL.nt <| WC.cond_f rfl <| WC.skip <| WE.then_n <| WC.seq <| WC.region <| WL.v (v_move rfl rfl) rfl <| ?_
  have b4 : p4.base = 2 := (congrArg Se.base hA4.eq :)
  have s4 : p4.c0.st = 4 := (congrArg (fun z : Se => z.c0.st) hA4.eq :)
  have t4 : p4.c1.st = 0 := (congrArg (fun z : Se => z.c1.st) hA4.eq :)
  refine WL.call rfl rfl ck_18 (.none rfl) rfl rfl ?_
  intro w hS
  refine Calls.then (state_c w g p4 (hS.row (g := g))) hS ?_
  refine WL.v ((v_eql rfl rfl rfl).t ((by rw [b4, s4, t4]; decide))) rfl ?_
  refine WL.v (v_move rfl rfl) rfl <| WL.val (v_move rfl rfl) (.some rfl rfl rfl) rfl rfl <| WL.val (v_build rfl rfl zero_39 plc_39 rfl) (.some rfl rfl rfl) rfl rfl <| WL.call rfl rfl ck_23 (.some rfl rfl rfl) rfl rfl <| ?_
  intro w1 hS
  refine (lbytes_c w1 (MsL.zero 4) (zero4_at _) hkI (hG.keep (fun h => h) hS) (Nat.zero_le _) (Nat.zero_le _)).mono ?_
  rw [if_pos ka_code]
  rintro e w' ⟨_, rfl, ad5, c5, E5, rfl, hV5, hS'⟩
  refine ⟨_, _, rfl, hS.join hS', ?_⟩
  refine WL.call rfl rfl ck_15 (.some rfl rfl rfl) rfl rfl ?_
  intro w1 hS
  have hf := feed0_c w0 w1 g p4 (sC 65000 5 65001 90 10 30 9) E04 E14 E5 d4 hA4 hG hZ (show St (fun _ => False) w0 w1 (.row g p4.cells :: (E04 ++ (E14 ++ d4.L p4.gC 0 E5))) from hS.dropK (.row g32 [.int .i64 2] :: (EF4 ++ (KF4 ++ E3))) (by intro c k h1 h2 h3 e; simp only [Ck.L, clkL, h1, h2, h3] <;> omega)) ad5 c5 (msgB (MsL.zero 4)) (fun w h => hV5.cellsAt (fun e he => h.holds e (by simp [Ck.L, clkL, he]))) (msgB_bys hkI ka_code) (by omega) ⟨rfl, rfl, rfl⟩ (by decide)
  rw [f2] at hf
  refine hf.mono ?_
  rintro e w' ⟨ad6, c6, fs6, EF6, KF6, p6, E06, E16, d6, rfl, hV6, he6, hA6, hS'⟩
  refine ⟨_, EF6 ++ (KF6 ++ (.row g p6.cells :: (E06 ++ (E16 ++ d6.L p6.gC 0 E5)))), rfl, hS', ?_⟩
  refine WL.buildSlice rfl rfl Tryz.underlying32 sz_3 zero_3 rfl (by decide) rfl (.some rfl rfl rfl) rfl rfl ?_
  intro g44 hg44
  refine WL.as (L' := .row g44 [.int .i64 4] :: (EF6 ++ (KF6 ++ (.row g p6.cells :: (E06 ++ (E16 ++ d6.L p6.gC 0 E5)))))) rfl <| WL.call rfl rfl ck_16 (.some rfl rfl rfl) rfl rfl <| ?_
  intro w hS
  refine Calls.then (kinds_c w ad6 c6 fs6 EF6 hV6.1 (fun e he => hS.holds e (by simp [Ck.L, clkL, he])) (some ⟨g44, 0, none⟩) 1 [4] (fun _ => ⟨g44, 0, rfl, allAt w hS⟩) (efs_kind he6) (by rw [efs_len he6]; decide)) hS ?_
  refine WL.v (v_pick_t rfl rfl rfl) rfl <| WL.v (v_move rfl rfl) rfl <| WL.val (v_move rfl rfl) (.some rfl rfl rfl) rfl rfl <| ?_
  have b6 : p6.base = 2 := (congrArg Se.base hA6.eq :)
  have s6 : p6.c0.st = 5 := (congrArg (fun z : Se => z.c0.st) hA6.eq :)
  have t6 : p6.c1.st = 0 := (congrArg (fun z : Se => z.c1.st) hA6.eq :)
  have i6 : p6.c0.id = 9 := (congrArg (fun z : Se => z.c0.id) hA6.eq :)
  refine WL.call rfl rfl ck_18 (.some rfl rfl rfl) rfl rfl ?_
  intro w hS
  refine Calls.then (state_c w g p6 (hS.row (g := g))) hS ?_
  refine WL.val ((v_eql rfl rfl rfl).t ((by rw [b6, s6, t6]; decide))) (.some rfl rfl rfl) rfl rfl ?_
  refine WL.v (v_pick_t rfl rfl rfl) rfl <| WL.v (v_move rfl rfl) rfl <| WL.val (v_move rfl rfl) (.some rfl rfl rfl) rfl rfl <| WL.call rfl rfl ck_21 (.some rfl rfl rfl) rfl rfl <| ?_
  intro w hS
  refine Calls.then (their_c w g p6 (hS.row (g := g))) hS ?_
  refine WL.val ((v_eql rfl rfl rfl).t ((by unfold theirP; rw [if_pos s6]; exact i6))) (.some rfl rfl rfl) rfl rfl ?_
  refine WL.v (v_pick_t rfl rfl rfl) rfl <| WL.v (v_assign rfl rfl) rfl <| WL.nt <| WC.ret <| WE.ret1 (P := Tryz.prog) (.inl rfl) Tryz.results9 rfl <| ?_
  exact fun w' h => ⟨rfl, h.frm⟩
end Go.Proofs.YtcmpamnhegndnaaGreatDoor
/- PeerRetries: as long as no connection comes one is tried again and again. -/
namespace Go.Proofs.YtcmpamnhegndnaaGreatDoor
open Go.RowKit

theorem FirstD.uniq {D : List Int} {T : Int} {n n' : Nat} {t t' : Int} (h : FirstD D T n t) (h' : FirstD D T n' t') : n = n' ∧ t = t' := by
  obtain ⟨a1, a2, a3, a4⟩ := h
  obtain ⟨b1, b2, b3, b4⟩ := h'
  by_cases e : n = n'
  · subst e
    rw [a1] at b1
    exact ⟨rfl, Option.some.inj b1⟩
  · have h1 := a4 n' t' (fun h => e h.symm) b1 b2
    have h2 := b4 n t e a1 a2
    unfold ltp at h1 h2
    dsimp only at h1 h2
    omega
theorem TickR.none {T : Int} {s s' : Se} {es : List EfD} (hr : TickR T s es s') (h : ∀ t ∈ s.D, t < 0 ∨ T < t) : es = [] ∧ s' = { s with now := T } := by
  cases hr with
  | done _ => exact ⟨rfl, rfl⟩
  | fire hF _ =>
    have := h _ (List.mem_of_getElem? hF.1)
    have h2 := hF.2.1
    have h3 := hF.2.2.1
    omega
theorem TickR.first {T : Int} {s s' : Se} {es : List EfD} (hr : TickR T s es s') {n : Nat} {t : Int} (hF : FirstD s.D T n t) : ∃ es', es = (fireS s n t).2 ++ es' ∧ TickR T (fireS s n t).1 es' s' := by
  cases hr with
  | done h =>
    have := h _ (List.mem_of_getElem? hF.1)
    have h2 := hF.2.1
    have h3 := hF.2.2.1
    omega
  | fire hF' hr' =>
    obtain ⟨rfl, rfl⟩ := hF.uniq hF'
    exact ⟨_, rfl, hr'⟩
def sR (a i t h r now D : Int) : Se := ⟨a, i, t, h, r, 1, CnM.zero, CnM.zero, now, [D, -1, -1, -1, -1]⟩
theorem tickT_eq {s : Se} {t : Int} (h1 : s.now < t) (h2 : t ≤ s.now + 4096) (h3 : t ≤ 1000000) : tickT s t = t := by
  unfold tickT maxT
  rw [if_pos h1]
  omega
/-- Time goes by a second further while a retry is due. -/
theorem sR_tick {a i t h r now D T : Int} {es : List EfD} {s' : Se} (hr : TickR T (sR a i t h r now D) es s') (h0 : 0 ≤ now) (hT : now < T) (hT1 : T ≤ 1000000) (hr1 : 1 ≤ r) (hr2 : r ≤ 65535) (hD : T ≤ D) :
    (T < D ∧ es = [] ∧ s' = sR a i t h r T D) ∨ (T = D ∧ es = [ef 1 0] ∧ s' = sR a i t h r T (T + r)) := by
  by_cases hlt : T < D
  · left
    obtain ⟨h1, h2⟩ := hr.none (fun x hx => by
      rcases List.mem_cons.1 hx with rfl | hx
      · exact .inr hlt
      · left
        simp at hx
        omega)
    exact ⟨hlt, h1, h2⟩
  · right
    have e : T = D := by omega
    subst e
    have hT0 : 0 ≤ T := by omega
    have hF : FirstD (sR a i t h r now T).D T 0 T := ⟨rfl, hT0, Int.le_refl _, fun k y hk hy hy0 => by
      match k, hk, hy with
      | 1, _, hy => obtain rfl := Option.some.inj hy; omega
      | 2, _, hy => obtain rfl := Option.some.inj hy; omega
      | 3, _, hy => obtain rfl := Option.some.inj hy; omega
      | 4, _, hy => obtain rfl := Option.some.inj hy; omega⟩
    obtain ⟨es', rfl, hr'⟩ := hr.first hF
    have e1 : (fireS (sR a i t h r now T) 0 T).1 = sR a i t h r T (T + r) := by
      show (⟨a, i, t, h, r, 1, CnM.zero, CnM.zero, T, [dueV T 0 r, -1, -1, -1, -1]⟩ : Se) = _
      have e2 : dueV T 0 r = T + r := by
        unfold dueV maxT
        rw [if_neg (by omega)]
        omega
      rw [e2]; rfl
    rw [e1] at hr'
    obtain ⟨h1, h2⟩ := hr'.none (fun x hx => by
      rcases List.mem_cons.1 hx with rfl | hx
      · right; omega
      · left
        simp at hx
        omega)
    subst h1
    exact ⟨rfl, rfl, h2⟩
theorem sR_fit {a i t h r now D : Int} : (sR a i t h r now D).Fit := fun n hn => by
  match n, hn with
  | 0, _ => exact .inl rfl
  | 1, _ => exact .inl rfl
structure RtS where
  t : Int
  n : Int
  D : Int
  p : PeL
  E0 : List Ent
  E1 : List Ent
  d : Ck
theorem quo_of {n r q : Int} (hr : 1 ≤ r) (h0 : 0 ≤ q) (h1 : n * r ≤ q) (h2 : q < n * r + r) : q / r = n := by
  have h3 : r ≠ 0 := by omega
  have e : q = (q - n * r) + n * r := by omega
  rw [e, Int.add_mul_ediv_right _ _ h3, Int.ediv_eq_zero_of_lt (by omega) (by omega)]
  omega
set_option maxHeartbeats 4000000 in
theorem PeerRetries_all (w0 : World) (hG : GF w0) (hZ : GZ w0) (rt qt : Int) : Calls Tryz.prog 6 #[.int .i64 rt, .int .i64 qt] w0 fun e w' => e = .returned (.bool true) ∧ Frm (fun _ => False) w0 w' := by
  refine enter Tryz.func6 rfl Tryz.ntmps6 rfl (St.start (fun _ => False) w0) ?_
  refine WC.seq <| WC.region <| WL.v (v_assign rfl rfl) rfl <| WL.nt <| WC.seq <| WC.seq <| WC.region <| WL.call rfl rfl ck_9 (.none rfl) rfl rfl <| ?_
  intro w hS
  refine Calls.then (Head10_c w (hG.keep (fun h => h) hS) (hZ.keep (fun h => h) hS)) hS ?_
  refine WL.v (v_not rfl rfl rfl) rfl <| WL.nt <| WC.cond_f rfl <| WC.skip <| WE.then_n <| WC.seq <| WC.region <| WL.call rfl rfl ck_12 (.none rfl) rfl rfl <| ?_
  intro w hS
  refine Calls.then (lconf_c w) hS ?_
  refine WL.alloc rfl zero_44 (.none rfl) rfl rfl ?_
  intro g5 hg5
  refine WL.storeW rfl rfl rfl rfl many_44 rfl rfl (.none rfl) rfl <| WL.nt <| WC.seq <| WC.region <| WL.v (v_move rfl rfl) rfl <| ?_
  refine WL.v (v_and rfl rfl rfl (mask_i64' (i := 6) (m := 64) (by decide) (by decide) (by decide))) rfl ?_
  have hb : 0 ≤ rt % 64 ∧ rt % 64 ≤ 63 := (by omega)
  refine WL.v (v_add rfl rfl rfl (w_i64 (by omega) (by omega))) rfl ?_
  refine WL.v (v_fieldAddr0 rfl rfl fld_44_4) rfl <| WL.store1 rfl rfl rfl rfl one_3 (Nat.le_of_ble_eq_true rfl) (.none rfl) rfl <| WL.as (L' := [.row g5 (confL 65000 5 65001 90 (1 + rt % 64))]) rfl <| ?_
  generalize hrr : 1 + rt % 64 = rr
  have hr1 : 1 ≤ rr ∧ rr ≤ 64 := (by omega)
  refine WL.nt <| WC.seq <| WC.region <| WL.v (v_move rfl rfl) rfl <| ?_
  refine WL.v (v_and rfl rfl rfl (mask_i64' (i := 8) (m := 256) (by decide) (by decide) (by decide))) rfl ?_
  generalize hqq : qt % 256 = qq
  have hq1 : 0 ≤ qq ∧ qq ≤ 255 := (by omega)
  refine WL.v (v_assign rfl rfl) rfl <| WL.nt <| WC.seq <| WC.region <| WL.v (v_loadN rfl rfl many_44 rfl allAt) rfl <| WL.call rfl rfl ck_11 (.none rfl) rfl rfl <| ?_
  intro w1 hS
  refine (new_c w0 w1 [.row g5 (confL 65000 5 65001 90 rr)] hS 65000 5 65001 90 rr ⟨by decide, by decide, by decide, by decide, by omega⟩ ⟨by decide, by decide⟩).mono ?_
  rintro e w' ⟨g, p, d, rfl, hA, hS'⟩
  refine ⟨_, _, rfl, hS', ?_⟩
  refine WL.v (v_move rfl rfl) rfl <| WL.v (v_extract rfl rfl rfl) rfl <| WL.v (v_extract rfl rfl rfl) rfl <| WL.v (v_assign rfl rfl) rfl <| WL.v (v_assign rfl rfl) rfl <| WL.nt <| WC.seq <| WC.seq <| WC.region <| WL.v (v_move rfl rfl) rfl <| ?_
  refine WL.v ((v_neq rfl rfl rfl).f ((by decide))) rfl ?_
  refine WL.v (v_move rfl rfl) rfl <| WL.val (v_move rfl rfl) (.some rfl rfl rfl) rfl rfl <| WL.call rfl rfl ck_13 (.some rfl rfl rfl) rfl rfl <| ?_
  intro w1 hS
  refine (start_new w0 w1 g p [] [] [.row g5 (confL 65000 5 65001 90 rr)] d hA hS (by omega)).mono ?_
  rintro e w' ⟨ad1, c1, fs1, EF1, KF1, p1, E01, E11, d1, rfl, hV1, he1, hA1, hS'⟩
  refine ⟨_, EF1 ++ (KF1 ++ (.row g p1.cells :: (E01 ++ (E11 ++ d1.L p1.gC 0 [.row g5 (confL 65000 5 65001 90 rr)])))), rfl, hS', ?_⟩
  refine WL.buildSlice rfl rfl Tryz.underlying32 sz_3 zero_3 rfl (by decide) rfl (.some rfl rfl rfl) rfl rfl ?_
  intro g31 hg31
  refine WL.as (L' := .row g31 [.int .i64 1] :: (EF1 ++ (KF1 ++ (.row g p1.cells :: (E01 ++ (E11 ++ d1.L p1.gC 0 [.row g5 (confL 65000 5 65001 90 rr)])))))) rfl <| WL.call rfl rfl ck_16 (.some rfl rfl rfl) rfl rfl <| ?_
  intro w hS
  refine Calls.then (kinds_c w ad1 c1 fs1 EF1 hV1.1 (fun e he => hS.holds e (by simp [Ck.L, clkL, he])) (some ⟨g31, 0, none⟩) 1 [1] (fun _ => ⟨g31, 0, rfl, allAt w hS⟩) (efs_kind he1) (by rw [efs_len he1]; decide)) hS ?_
  refine WL.val (v_not rfl rfl rfl) (.some rfl rfl rfl) rfl rfl <| WL.v (v_pick_f rfl rfl rfl) rfl <| WL.nt <| WC.cond_f rfl <| WC.skip <| WE.then_n <| WC.seq <| WC.region <| WL.v (v_assign rfl rfl) rfl <| WL.nt <| ?_
  refine WC.seq <| WC.seq <| WC.region <| WL.v (v_assign rfl rfl) rfl <| ?_
  refine WL.to (L' := .row g p1.cells :: (E01 ++ (E11 ++ d1.L p1.gC 0 [.row g5 (confL 65000 5 65001 90 rr)]))) (fun w hS => hS.dropK (.row g31 [.int .i64 1] :: (EF1 ++ KF1)) (by intro c k h1 h2 h3 e; simp only [Ck.L, clkL, h1, h2, h3] <;> omega)) ?_
  refine WL.nt <| WC.block <| ?_
  refine WC.loop (fun x : RtS => [(9, .int .i64 x.t), (8, .int .i64 x.n), (6, .pointer (some ⟨g, 0, none⟩)), (5, .pointer (some ⟨g5, 0, none⟩)), (1, .int .i64 qq)]) (fun x => .row g x.p.cells :: (x.E0 ++ (x.E1 ++ x.d.L x.p.gC (x.t - 1) [.row g5 (confL 65000 5 65001 90 rr)]))) (fun x => (1 ≤ x.t ∧ x.t ≤ qq + 1) ∧ (0 ≤ x.n ∧ x.n < x.t) ∧ x.D = x.n * rr + rr ∧ (x.n * rr ≤ x.t - 1 ∧ x.t ≤ x.D) ∧ PeAt g x.p (sR 65000 5 65001 90 rr (x.t - 1) x.D) x.E0 x.E1 x.d) (fun x => (qq + 1 - x.t).toNat) ⟨1, 0, rr, p1, E01, E11, d1⟩ ⟨by dsimp only; omega, by dsimp only; omega, by dsimp only; omega, by dsimp only; omega, hA1⟩ (.cons rfl (.cons rfl (.cons rfl (.cons rfl (.cons rfl .nil))))) (.refl _) ?_
  rintro ⟨t, n, D, p2, E02, E12, d2⟩ ⟨ht, hn, hD, hnt, hA2⟩
  dsimp only at ht hn hD hnt hA2
  dsimp only
  refine WC.seq <| WC.seq <| WC.region <| WL.v (v_move rfl rfl) rfl <| WL.v (v_move rfl rfl) rfl <| ?_
  refine WL.test (v_leq rfl rfl rfl) (.none rfl) rfl rfl (fun h37 => ?_) (fun h37 => ?_)
  ·
   refine WL.nt <| WC.cond_t rfl <| WC.skip <| WE.then_n <| WC.seq <| WC.block <| WC.seq <| WC.region <| WL.v (v_move rfl rfl) rfl <| WL.v (v_move rfl rfl) rfl <| ?_
   refine WL.call rfl rfl ck_24 (.none rfl) rfl rfl ?_
   intro w1 hS
   refine (tick_c w0 w1 g p2 (sR 65000 5 65001 90 rr (t - 1) D) E02 E12 [.row g5 (confL 65000 5 65001 90 rr)] d2 hA2 hG hS sR_fit t ⟨by omega, by omega⟩).mono ?_
   rintro e w' ⟨es, s', hR, ad3, c3, fs, EF, KF, p3, E03, E13, d3, rfl, hV3, he3, hA3, hS'⟩
   rw [tickT_eq (s := sR 65000 5 65001 90 rr (t - 1) D) (show t - 1 < t by omega) (show t ≤ t - 1 + 4096 by omega) (by omega)] at hR
   have hcs := sR_tick hR (by omega) (by omega) (by omega) (by omega) (by omega) (by omega)
   have hn3 : s'.now = t := (by rcases hcs with ⟨_, _, e⟩ | ⟨_, _, e⟩ <;> rw [e] <;> rfl)
   rw [hn3] at hS'
   obtain ⟨D', hs3, hk3, hn3', hD3, hb3⟩ : ∃ D', s' = sR 65000 5 65001 90 rr t D' ∧ (∀ x ∈ fs, x.kind = 1 ∧ t % rr = 0) ∧ fs.length ≤ 1 ∧ D' = (n + fs.length) * rr + rr ∧ ((n + fs.length) * rr ≤ t ∧ t < D') := (by
     rcases hcs with ⟨h1, h2, h3⟩ | ⟨h1, h2, h3⟩
     · rw [h2] at he3
       obtain rfl := List.map_eq_nil_iff.1 he3
       exact ⟨D, h3, fun x hx => (by cases hx), Nat.zero_le _, by simpa using hD, by simp; omega, h1⟩
     · have hl := efs_len (he3.trans h2)
       have hk := efs_kind (he3.trans h2)
       have hl1 : fs.length = 1 := hl
       refine ⟨t + rr, h3, fun x hx => ⟨?_, ?_⟩, by omega, ?_, ?_⟩
       · have := List.mem_map_of_mem (f := EfL.kind) hx
         rw [hk] at this
         exact List.mem_singleton.1 this
       · rw [h1, hD, show n * rr + rr = (n + 1) * rr by rw [Int.add_mul, Int.one_mul]]
         exact Int.mul_emod_left _ _
       · rw [hl1, show ((1 : Nat) : Int) = 1 from rfl, Int.add_mul, Int.one_mul]; omega
       · rw [hl1, show ((1 : Nat) : Int) = 1 from rfl, Int.add_mul, Int.one_mul]; omega)
   rw [hs3] at hA3
   refine ⟨_, _, rfl, hS', ?_⟩
   refine WL.v (v_len_slice rfl rfl Tryz.underlying46) rfl <| WL.v (v_move rfl rfl) rfl <| WL.nt <| WC.block <| ?_
   refine WC.loop (fun k : Nat => [(44, .int .i64 k), (43, .int .i64 fs.length), (42, .slice ad3 fs.length c3), (9, .int .i64 t), (8, .int .i64 (n + k)), (6, .pointer (some ⟨g, 0, none⟩)), (5, .pointer (some ⟨g5, 0, none⟩)), (1, .int .i64 qq)]) (fun _ => EF ++ (KF ++ (.row g p3.cells :: (E03 ++ (E13 ++ d3.L p3.gC t [.row g5 (confL 65000 5 65001 90 rr)]))))) (fun k => k ≤ fs.length) (fun k => fs.length - k) 0 (Nat.zero_le _) (.cons rfl (.cons rfl (.cons rfl (.cons rfl (.cons (by simp; rfl) (.cons rfl (.cons rfl (.cons rfl .nil)))))))) (.refl _) ?_
   intro k hk
   refine WC.seq <| WC.region <| ?_
   refine WL.test (v_lss rfl rfl rfl) (.none rfl) rfl rfl (fun h45 => ?_) (fun h45 => ?_)
   ·
    refine WL.nt <| WC.seq <| WC.cond_t rfl <| WC.skip <| WE.then_n <| WC.seq <| WC.block <| WC.seq <| WC.region <| ?_
    obtain ⟨x, hx⟩ : ∃ x, fs[k]? = some x := ⟨fs[k]'(by omega), List.getElem?_eq_getElem _⟩
    obtain ⟨b1, o1, ea1, r1⟩ := hV3.1.src2 (by rw [efsL_len]; omega)
    have hxk := hk3 x (List.mem_of_getElem? hx)
    refine WL.v ((v_indexAddr (b := b1) (off := o1) (lo := k) rfl (by show some (Value.slice ad3 _ _) = _; rw [ea1]) rfl Tryz.underlying46 sz_54 rfl (by omega))) rfl ?_
    refine WL.v (v_loadN rfl rfl many_54 rfl (fun w hS => ef_kind (r1 w fun e he => hS.holds e (by simp [he])) hx)) rfl ?_
    refine WL.alloc rfl zero_54 (.none rfl) rfl rfl ?_
    intro g11 hg11
    refine WL.storeW rfl rfl rfl rfl many_54 rfl rfl (.none rfl) rfl <| WL.nt <| WC.seq <| WC.seq <| WC.region <| WL.v (v_fieldAddr0 rfl rfl fld_54_0) rfl <| WL.v (v_load1 rfl rfl one_3 (cellAt (v := .int .i64 x.kind) rfl)) rfl <| WL.v ((v_neq rfl rfl rfl).f ((fun h => h hxk.1))) rfl <| WL.v (v_move rfl rfl) rfl <| WL.val (v_move rfl rfl) (.some rfl rfl rfl) rfl rfl <| ?_
    refine WL.val (v_fieldAddr0 rfl rfl fld_44_4) (.some rfl rfl rfl) rfl rfl <| WL.val (v_load1 rfl rfl one_3 (cellAt rfl)) (.some rfl rfl rfl) rfl rfl <| ?_
    refine WL.val (v_remT rfl rfl rfl (by first | decide | omega)) (.some rfl rfl rfl) rfl rfl ?_
    refine WL.val ((v_neq rfl rfl rfl).f ((fun h => h ((Int.tmod_eq_emod_of_nonneg (by omega)).trans hxk.2)))) (.some rfl rfl rfl) rfl rfl ?_
    refine WL.v (v_pick_f rfl rfl rfl) rfl <| WL.nt <| WC.cond_f rfl <| WC.skip <| WE.then_n <| WC.region <| WL.v (v_move rfl rfl) rfl <| ?_
    refine WL.v (v_add rfl rfl rfl (show _ = n + ((k + 1 : Nat) : Int) from (w_i64 (by omega) (by omega)).trans (by omega))) rfl ?_
    refine WL.v (v_assign rfl rfl) rfl <| WL.nil <| WE.block_n <| WE.then_n <| WC.region <| ?_
    refine WL.v (v_add rfl rfl rfl (show _ = ((k + 1 : Nat) : Int) from (w_i64 (by omega) (by omega)).trans (by omega))) rfl ?_
    refine WL.v (v_move rfl rfl) rfl <| WL.nil <| ?_
    exact WE.next (k + 1) (by omega) (by omega) (.cons rfl (.cons rfl (.cons rfl (.cons rfl (.cons rfl (.cons rfl (.cons rfl (.cons rfl .nil)))))))) (.cons _ (.refl _))
   ·
    refine WL.nt <| WC.seq <| WC.cond_f rfl <| WC.exit <| WE.then_exit <| WE.then_exit <| WE.block_hit <| WE.block_n <| WE.then_n <| WC.region <| ?_
    refine WL.v (v_move rfl rfl) rfl ?_
    refine WL.v (v_add rfl rfl rfl (show _ = t + 1 from w_i64 (by omega) (by omega))) rfl ?_
    refine WL.v (v_assign rfl rfl) rfl ?_
    skip
    refine WL.nil ?_
    refine WE.next ⟨t + 1, n + fs.length, D', p3, E03, E13, d3⟩ (by dsimp only; omega) ⟨by dsimp only; omega, by dsimp only; omega, hD3, ⟨by dsimp only; omega, by dsimp only; omega⟩, by dsimp only; rw [show t + 1 - 1 = t by omega]; exact hA3⟩ (.cons rfl (.cons (by rw [show k = fs.length by omega]; rfl) (.cons rfl (.cons rfl (.cons rfl .nil))))) (by dsimp only; rw [show t + 1 - 1 = t by omega]; exact List.sublist_append_of_sublist_right (List.sublist_append_right _ _))
  ·
   refine WL.nt <| WC.cond_f rfl <| WC.exit <| WE.then_exit <| WE.then_exit <| WE.block_hit <| WE.then_n <| WC.seq <| WC.region <| ?_
   have hqt : t - 1 = qq := (by omega)
   have hqn : qq / rr = n := quo_of (by omega) (by omega) (by omega) (by omega)
   have b6 : p2.base = 1 := (congrArg Se.base hA2.eq :)
   have s6 : p2.c0.st = 0 := (congrArg (fun z : Se => z.c0.st) hA2.eq :)
   have t6 : p2.c1.st = 0 := (congrArg (fun z : Se => z.c1.st) hA2.eq :)
   refine WL.v (v_move rfl rfl) rfl <| WL.v (v_move rfl rfl) rfl <| WL.v (v_fieldAddr0 rfl rfl fld_44_4) rfl <| WL.v (v_load1 rfl rfl one_3 (cellAt rfl)) rfl <| ?_
   refine WL.v (v_quoT rfl rfl rfl (by first | decide | omega) (show _ = n from (by rw [Int.tdiv_eq_ediv_of_nonneg (by omega), hqn]; exact w_i64 (by omega) (by omega)))) rfl ?_
   refine WL.v ((v_eql rfl rfl rfl).t (rfl)) rfl <| WL.v (v_move rfl rfl) rfl <| WL.val (v_move rfl rfl) (.some rfl rfl rfl) rfl rfl <| WL.call rfl rfl ck_18 (.some rfl rfl rfl) rfl rfl <| ?_
   intro w hS
   refine Calls.then (state_c w g p2 (hS.row (g := g))) hS ?_
   refine WL.val ((v_eql rfl rfl rfl).t ((by rw [b6, s6, t6]; decide))) (.some rfl rfl rfl) rfl rfl ?_
   refine WL.v (v_pick_t rfl rfl rfl) rfl <| WL.v (v_move rfl rfl) rfl <| WL.val (v_move rfl rfl) (.some rfl rfl rfl) rfl rfl <| WL.call rfl rfl ck_25 (.some rfl rfl rfl) rfl rfl <| ?_
   intro w hS
   refine Calls.then (now_c w0 w g p2 d2 (t - 1) [.row g5 (confL 65000 5 65001 90 rr)] (hS.row (g := g)) (hS.dropK (.row g p2.cells :: (E02 ++ E12)) (by intro c k h1 h2 h3 e; simp only [Ck.L, clkL, h1, h2, h3] <;> omega))) hS ?_
   refine WL.val (v_move rfl rfl) (.some rfl rfl rfl) rfl rfl ?_
   refine WL.val ((v_eql rfl rfl rfl).t ((by omega))) (.some rfl rfl rfl) rfl rfl ?_
   refine WL.v (v_pick_t rfl rfl rfl) rfl <| WL.v (v_assign rfl rfl) rfl <| WL.nt <| WC.ret <| WE.ret1 (P := Tryz.prog) (.inl rfl) Tryz.results6 rfl <| ?_
   exact fun w' h => ⟨rfl, h.frm⟩
end Go.Proofs.YtcmpamnhegndnaaGreatDoor
/- Arguments: a message of BGP. -/
namespace Go.Proofs.YtcmpamnhegndnaaGreatDoor
open Go.RowKit

end Go.Proofs.YtcmpamnhegndnaaGreatDoor
