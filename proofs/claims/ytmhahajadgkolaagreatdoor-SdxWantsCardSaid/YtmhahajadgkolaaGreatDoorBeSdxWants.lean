/- Texts joined: engine, contracts and laws, in the order in which they build. -/
import Derived.Test.YtmhahajadgkolaaGreatDoorBdSdxWants
/- pile.Behind. -/
namespace Go.Proofs.YtmhahajadgkolaaGreatDoor
open Go.RowKit

structure BhR where
  j : Nat
  ls : List RuL
  ad : Option Addr
  c : Nat
  E : List Ent
  K : List Ent
theorem behindD_cons (b : List RuD) (r : RuD) (a : List RuD) (p : PlD) : behindD b (r :: a) p = (rowsD p.mr p.ma p.out b r.acts [⟨r.m, []⟩]).bind fun rows => (addsD rows p).bind (behindD b a) := by
  rw [behindD]
  cases rowsD p.mr p.ma p.out b r.acts [⟨r.m, []⟩] with
  | none => rfl
  | some rows => dsimp only [Option.bind]; cases addsD rows p <;> rfl
theorem addsD_cons (x : RuD) (rows : List RuD) (p : PlD) : addsD (x :: rows) p = if covD p.out x.m then addsD rows p else (p.add x.m x.acts).bind (addsD rows) := by
  rw [addsD]
  split
  · rfl
  · cases p.add x.m x.acts <;> rfl
theorem rowsD_cons (mr ma : Int) (but b : List RuD) (a : Ac) (us : List Ac) (rows : List RuD) : rowsD mr ma but b (a :: us) rows = (crossD but appA (aheadD a b) rows ⟨mr, ma, []⟩).bind fun q => if q.out.length = 0 then some [] else rowsD mr ma but b us q.out := by
  rw [rowsD]
  cases crossD but appA (aheadD a b) rows ⟨mr, ma, []⟩ <;> rfl
theorem fit_ls {ls : List RuL} {ds : List RuD} (h : ls.map RuL.d = ds) (hf : ∀ d ∈ ds, d.Fit) : ∀ r ∈ ls, r.d.Fit := fun r hr => hf _ (by rw [← h]; exact List.mem_map_of_mem hr)
set_option maxRecDepth 8000 in
set_option maxHeartbeats 8000000 in
theorem Behind_c (w : World) (aa ba : Option Addr) (ac bc : Nat) (xs ys : List RuL) (mr ma : Int) (hmr : 0 ≤ mr ∧ mr ≤ 4194304) (hma : 0 ≤ ma ∧ ma ≤ 16777216) (ha : RsAt w aa xs) (hb : RsAt w ba ys) (hfa : RsFit 64 xs) (hfb : RsFit 64 ys) (hna : xs.length ≤ 100000000) (hnb : ys.length ≤ 100000000) :
    Calls Tryz.prog 173 #[.slice aa xs.length ac, .slice ba ys.length bc, .agg #[.int .i64 mr, .int .i64 ma]] w fun e w' => RsC w w' (outD (behindD (ys.map RuL.d) (xs.map RuL.d) ⟨mr, ma, []⟩)) e := by
  generalize hC : behindD (ys.map RuL.d) (xs.map RuL.d) ⟨mr, ma, []⟩ = C
  refine enter Tryz.func173 rfl Tryz.ntmps173 rfl (St.start (fun _ => False) w) ?_
  refine WC.seq <| WC.region <| WL.box rfl rfl rfl (.none rfl) rfl rfl <| ?_
  intro g5 hg5
  refine WL.v (v_assign rfl rfl) rfl <| WL.nt <| WC.seq <| WC.region <| WL.v (v_loadN rfl rfl many_305 rfl allAt) rfl <| WL.call rfl rfl ck_174 (.none rfl) rfl rfl <| ?_
  intro w1 hS
  refine (PNew_c w1 mr ma).mono ?_
  rintro e w' ⟨gp, rfl, hS'⟩
  refine ⟨_, .row gp (PlL.cells ⟨mr, ma, none, 0, [], none, 0, [], none, #[], 0⟩) :: ([] ++ ([] ++ ([] ++ ([] ++ [Ent.row g5 [.int .i64 mr, .int .i64 ma]])))), rfl, (by simpa using hS.join hS'), ?_⟩
  refine WL.v (v_assign rfl rfl) rfl <| WL.nt <| WC.seq <| WC.seq <| WC.region <| WL.v (v_move rfl rfl) rfl <| WL.v (v_len_slice rfl rfl Tryz.underlying54) rfl <| WL.v (v_move rfl rfl) rfl <| WL.nt <| WC.block <| ?_
  refine WC.loop (fun x : CrS => [(20, .int .i64 x.i), (19, .int .i64 xs.length), (18, .slice aa xs.length ac), (7, .pointer (some ⟨gp, 0, none⟩)), (5, .pointer (some ⟨g5, 0, none⟩)), (1, .slice ba ys.length bc), (6, .slice none 0 0)]) (fun x => .row gp x.p.cells :: (x.E ++ (x.Em ++ (x.H ++ (x.K ++ [Ent.row g5 [.int .i64 mr, .int .i64 ma]]))))) (fun x => x.i ≤ xs.length ∧ behindD (ys.map RuL.d) ((xs.drop x.i).map RuL.d) x.p.d = C ∧ (x.p.mr = mr ∧ x.p.ma = ma) ∧ PlAt x.p x.E x.Em x.H x.K) (fun x => xs.length - x.i) ⟨0, ⟨mr, ma, none, 0, [], none, 0, [], none, #[], 0⟩, [], [], [], []⟩ ⟨Nat.zero_le _, by dsimp only; rw [List.drop_zero]; exact hC, ⟨rfl, rfl⟩, PlAt.new mr ma hmr hma⟩ (.cons rfl (.cons rfl (.cons rfl (.cons rfl (.cons rfl (.cons rfl (.cons rfl .nil))))))) (.refl _) ?_
  rintro ⟨i, p, E, Em, H, K⟩ ⟨hi, hc, ⟨hm1, hm2⟩, hA⟩
  dsimp only at hi hc hm1 hm2 hA
  dsimp only
  refine WC.seq <| WC.region <| ?_
  refine WL.test (v_lss rfl rfl rfl) (.none rfl) rfl rfl (fun h21 => ?_) (fun h21 => ?_)
  ·
   refine WL.nt <| WC.seq <| WC.cond_t rfl <| WC.skip <| WE.then_n <| WC.seq <| WC.block <| WC.seq <| WC.region <| ?_
   obtain ⟨r, hr⟩ : ∃ x, xs[i]? = some x := ⟨xs[i]'(by omega), List.getElem?_eq_getElem _⟩
   have hrm := List.mem_of_getElem? hr
   have hrf := hfa.fit r hrm
   have hrn := hfa.few r hrm
   obtain ⟨b1, o1, ea1, r1⟩ := ha.rd (by intro hh; have := rulesL_len xs; rw [hh] at this; simp at this; omega)
   rw [drop_cons hr, List.map_cons, behindD_cons] at hc
   generalize hR : rowsD p.d.mr p.d.ma p.d.out (ys.map RuL.d) r.d.acts [⟨r.d.m, []⟩] = R at hc
   refine WL.v ((v_indexAddr (b := b1) (off := o1) (lo := i) rfl (by show some (Value.slice aa _ _) = _; rw [ea1]) rfl Tryz.underlying54 sz_223 rfl (by omega))) rfl ?_
   refine WL.v (v_loadN (cs := r.cells) rfl rfl many_223 (RuL.len r) (rgIn (fun h => h) (Rg.seg RuL.len r1 hr))) rfl <| WL.alloc rfl zero_223 (.none rfl) rfl rfl <| ?_
   intro g9 hg9
   refine WL.storeW rfl rfl rfl rfl many_223 rfl rfl (.none rfl) rfl <| WL.as (L' := .row g9 r.cells :: .row gp p.cells :: (E ++ (Em ++ (H ++ (K ++ [Ent.row g5 [.int .i64 mr, .int .i64 ma]]))))) rfl <| WL.nt <| WC.seq <| WC.region <| WL.v (v_fieldAddr0 rfl rfl fld_223_0) rfl <| WL.v (v_loadN rfl rfl many_220 rfl (segAt (g := g9) (m := 18) (new := mtL r.m) (ru_match r))) rfl <| WL.v (v_build rfl rfl zero_223 plc_223 rfl) rfl <| ?_
   refine WL.buildSlice rfl rfl Tryz.underlying54 sz_223 zero_223 rfl (by decide) (by show some (splice (List.replicate 1 _).flatten 0 (RuL.cells ⟨r.m, none, 0, []⟩)) = some (RuL.cells ⟨r.m, none, 0, []⟩); exact congrArg some (splice_all rfl)) (.none rfl) rfl rfl ?_
   intro g27 hg27
   refine WL.v (v_assign rfl rfl) rfl <| WL.nt <| ?_
   refine WC.cut (fun x : BhR => [(10, .slice x.ad x.ls.length x.c), (9, .pointer (some ⟨g9, 0, none⟩)), (20, .int .i64 i), (19, .int .i64 xs.length), (18, .slice aa xs.length ac), (7, .pointer (some ⟨gp, 0, none⟩)), (5, .pointer (some ⟨g5, 0, none⟩)), (1, .slice ba ys.length bc), (6, .slice none 0 0)]) (fun x => .row gp p.cells :: (E ++ (Em ++ (H ++ (K ++ (x.E ++ (x.K ++ [Ent.row g5 [.int .i64 mr, .int .i64 ma]]))))))) (fun x => R = some (x.ls.map RuL.d) ∧ Vec 19 x.ad x.ls.length x.c (rulesL x.ls) x.E ∧ (∀ y ∈ x.ls, RuOwn x.K y) ∧ RsFit 5000 x.ls ∧ x.ls.length ≤ 100000000) ?_ ?_
   ·
    refine WC.seq <| WC.region <| WL.v (v_fieldAddr0 rfl rfl fld_223_1) rfl <| WL.v (v_load1 rfl rfl one_221 (cellAt (v := .slice r.ad r.acts.length r.c) (ruC_acts r))) rfl <| WL.v (v_len_slice rfl rfl Tryz.underlying221) rfl <| WL.v (v_move rfl rfl) rfl <| WL.nt <| WC.block <| ?_
    refine WC.loop (fun x : BhR => [(31, .int .i64 x.j), (30, .int .i64 r.acts.length), (29, .slice r.ad r.acts.length r.c), (10, .slice x.ad x.ls.length x.c), (9, .pointer (some ⟨g9, 0, none⟩)), (20, .int .i64 i), (19, .int .i64 xs.length), (18, .slice aa xs.length ac), (7, .pointer (some ⟨gp, 0, none⟩)), (5, .pointer (some ⟨g5, 0, none⟩)), (1, .slice ba ys.length bc), (6, .slice none 0 0)]) (fun x => x.E ++ (x.K ++ (.row g9 r.cells :: .row gp p.cells :: (E ++ (Em ++ (H ++ (K ++ [Ent.row g5 [.int .i64 mr, .int .i64 ma]]))))))) (fun x => x.j ≤ r.acts.length ∧ rowsD mr ma p.ds (ys.map RuL.d) (r.acts.drop x.j) (x.ls.map RuL.d) = R ∧ Vec 19 x.ad x.ls.length x.c (rulesL x.ls) x.E ∧ (∀ y ∈ x.ls, RuOwn x.K y) ∧ RsFit (x.j * 64) x.ls ∧ x.ls.length ≤ 100000000) (fun x => r.acts.length - x.j) ⟨0, [⟨r.m, none, 0, []⟩], some ⟨g27, 0, none⟩, 1, [.row g27 (RuL.cells ⟨r.m, none, 0, []⟩)], []⟩ ⟨Nat.zero_le _, by dsimp only; rw [List.drop_zero, ← hR]; show rowsD mr ma p.ds _ _ _ = rowsD p.mr p.ma p.ds _ _ _; rw [hm1, hm2]; rfl, Vec.row rfl rfl (Nat.le_refl _), fun y hy => (by rw [List.mem_singleton.1 hy]; exact ⟨[], Vec.nil 10, fun e he => (by cases he)⟩), ⟨fun y hy => (by rw [List.mem_singleton.1 hy]; exact ⟨⟨hrf.isIn.m, hrf.isIn.nz, fun a h => (by cases h)⟩, fun a h => (by cases h)⟩), fun y hy => (by rw [List.mem_singleton.1 hy]; exact Nat.zero_le _)⟩, (by show 1 ≤ 100000000; decide)⟩ (.cons rfl (.cons rfl (.cons rfl (.cons rfl (.cons rfl (.cons rfl (.cons rfl (.cons rfl (.cons rfl (.cons rfl (.cons rfl (.cons rfl .nil)))))))))))) (.refl _) ?_
    rintro ⟨j, ls, ad, c, E2, K2⟩ ⟨hj, hrw, hV, hK, hF, hll⟩
    dsimp only at hj hrw hV hK hF hll
    dsimp only
    refine WC.seq <| WC.region <| ?_
    refine WL.test (v_lss rfl rfl rfl) (.none rfl) rfl rfl (fun h32 => ?_) (fun h32 => ?_)
    ·
     refine WL.nt <| WC.seq <| WC.cond_t rfl <| WC.skip <| WE.then_n <| WC.seq <| WC.block <| WC.seq <| WC.region <| ?_
     obtain ⟨a, hx⟩ : ∃ x, r.acts[j]? = some x := ⟨r.acts[j]'(by omega), List.getElem?_eq_getElem _⟩
     obtain ⟨b2, o2, ea2, r2⟩ := (ha.ok r hrm) (by intro hh; have := actsL_len r.acts; rw [hh] at this; simp at this; omega)
     have hat := hrf.three (List.mem_of_getElem? hx)
     rw [drop_cons hx, rowsD_cons] at hrw
     refine WL.v ((v_indexAddr (b := b2) (off := o2) (lo := j) rfl (by show some (Value.slice r.ad _ _) = _; rw [ea2]) rfl Tryz.underlying221 sz_225 rfl (by omega))) rfl ?_
     refine WL.v (v_loadN (cs := acL a) rfl rfl many_225 (acL_len a) (rgIn (fun h => h) (Rg.seg acL_len r2 hx))) rfl <| WL.alloc rfl zero_225 (.none rfl) rfl rfl <| ?_
     intro g12 hg12
     refine WL.storeW rfl rfl rfl rfl many_225 rfl rfl (.none rfl) rfl <| WL.as (L' := .row g12 (acL a) :: (E2 ++ (K2 ++ (.row g9 r.cells :: .row gp p.cells :: (E ++ (Em ++ (H ++ (K ++ [Ent.row g5 [.int .i64 mr, .int .i64 ma]])))))))) rfl <| WL.nt <| WC.seq <| WC.region <| WL.v (v_loadN rfl rfl many_305 rfl allAt) rfl <| WL.call rfl rfl ck_174 (.none rfl) rfl rfl <| ?_
     intro w1 hS
     refine (PNew_c w1 mr ma).mono ?_
     rintro e w' ⟨gq, rfl, hS'⟩
     refine ⟨_, _, rfl, hS.join hS', ?_⟩
     refine WL.v (v_assign rfl rfl) rfl <| WL.nt <| WC.seq <| WC.seq <| WC.region <| WL.v (v_move rfl rfl) rfl <| WL.v (v_move rfl rfl) rfl <| WL.v (v_move rfl rfl) rfl <| WL.v (v_loadN rfl rfl many_225 rfl (allAt (g := g12))) rfl <| WL.v (v_move rfl rfl) rfl <| WL.call rfl rfl ck_255 (.none rfl) rfl rfl <| ?_
     intro w1 hS
     refine (ahead_c w1 a hat.1 hat.2.1 hat.2.2 ba bc ys (hb.frm hS.frm) ⟨hfb.fit, fun y hy => Nat.le_trans (hfb.few y hy) (by decide)⟩ hnb).mono ?_
     rintro e w' ⟨had, hac, EA, KA, hs, rfl, hhs, hVA, hKA, hFA, hlA, hS'⟩
     refine ⟨_, EA ++ (KA ++ (.row gq (PlL.cells ⟨mr, ma, none, 0, [], none, 0, [], none, #[], 0⟩) :: .row g12 (acL a) :: (E2 ++ (K2 ++ (.row g9 r.cells :: .row gp p.cells :: (E ++ (Em ++ (H ++ (K ++ [Ent.row g5 [.int .i64 mr, .int .i64 ma]]))))))))), rfl, (hS.join hS').permX, ?_⟩
     refine WL.call rfl rfl ck_253 (.none rfl) rfl rfl ?_
     intro w1 hS
     refine (cross_c (L := EA ++ (KA ++ (.row g12 (acL a) :: (E2 ++ (K2 ++ (.row g9 r.cells :: .row gp p.cells :: (E ++ (Em ++ (H ++ (K ++ [Ent.row g5 [.int .i64 mr, .int .i64 ma]]))))))))) ) gq ⟨mr, ma, none, 0, [], none, 0, [], none, #[], 0⟩ (some gp) p ad had c hac ls hs 96 ck_96 appA sumC_app appA_ok (fun us vs => by unfold appA; rw [List.length_append]; exact Nat.le_refl _) (PlAt.new mr ma hmr hma) hS.permX ⟨fun gb hgb w2 h2 => (by cases hgb; exact hA.r h2 (by simp) (fun e he => by simp [he]) (fun e he => by simp [he])), fun gb hgb => ⟨hA.ok, by have := hA.room; omega⟩⟩ (fun w2 h2 => rsAt_of hV hK h2 (fun e he => by simp [he]) (fun e he => by simp [he])) (fun w2 h2 => rsAt_of hVA hKA h2 (fun e he => by simp [he]) (fun e he => by simp [he])) ⟨hF.fit, fun y hy => by have := hF.few y hy; omega⟩ ⟨fit_ls hhs hFA, fun y hy => ?_⟩ hll hlA).mono ?_
     · have h1 := aheadD_all (act := a) (n := 64) (ys.map RuL.d) (fun d hd => by obtain ⟨z, hz, rfl⟩ := List.mem_map.1 hd; exact hfb.few z hz) y.d (by rw [← hhs]; exact List.mem_map_of_mem hy)
       have h1 : y.acts.length ≤ 64 := h1
       omega
     rintro e w' ⟨b43, q, Eq, Emq, Hq, Kq, rfl, hq, ⟨hq1, hq2⟩, hAq, hS'⟩
     have hq : crossD p.ds appA (aheadD a (ys.map RuL.d)) (ls.map RuL.d) ⟨mr, ma, []⟩ = (if b43 then some q.d else none) := (by rw [← hhs]; exact hq)
     rw [hq] at hrw
     have hqa : b43 = true → ∀ d ∈ q.ds, d.acts.length ≤ (j + 1) * 64 := fun hb43 => (by
       rw [if_pos hb43] at hq
       refine crossD_all (Q := fun l => l.length ≤ (j + 1) * 64) (ls.map RuL.d) ⟨mr, ma, []⟩ q.d (fun d hd s hs' => ?_) (fun x hx => by cases hx) hq
       obtain ⟨z, hz, rfl⟩ := List.mem_map.1 hd
       have h1 := hF.few z hz
       have h2 := aheadD_all (act := a) (n := 64) (ys.map RuL.d) (fun d hd => by obtain ⟨z, hz, rfl⟩ := List.mem_map.1 hd; exact hfb.few z hz) s hs'
       have h3 := normF_len (appA z.d.acts s.acts)
       have h4 : (appA z.d.acts s.acts).length = z.acts.length + s.acts.length := List.length_append
       omega)
     refine ⟨_, _, rfl, hS', ?_⟩
     skip
     cases b43
     ·
      refine WL.v (v_not rfl rfl rfl) rfl <| WL.nt <| WC.cond_t rfl <| WC.seq <| WC.region <| WL.v (v_assign rfl rfl) rfl <| WL.nt <| WC.ret <| WE.then_ret <| WE.block_ret <| WE.then_ret <| WE.then_ret <| WE.block_ret <| WE.then_ret <| ?_
      refine WE.block_ret <| WE.then_ret <| WE.then_ret <| WE.block_ret <| WE.then_ret <| WE.ret1 (P := Tryz.prog) (.inl rfl) Tryz.results173 rfl <| ?_
      have hrw : R = none := hrw.symm
      rw [hrw] at hc
      have hc : C = none := hc.symm
      rw [hc]
      exact fun w' h => RsC.none_ (h.sub (List.nil_sublist _))
     ·
      refine WL.v (v_not rfl rfl rfl) rfl <| WL.nt <| WC.cond_f rfl <| WC.skip <| WE.then_n <| WC.seq <| WC.region <| WL.v (v_move rfl rfl) rfl <| WL.v (v_nilCheck rfl rfl) rfl <| WL.v (v_fieldAddr0 rfl rfl fld_385_1) rfl <| ?_
      have hrw := (show (if q.d.out.length = 0 then some [] else rowsD mr ma p.ds (ys.map RuL.d) (r.acts.drop (j + 1)) q.ds) = R from hrw)
      have hql : q.d.out.length = q.ls.length := List.length_map _
      rw [hql] at hrw
      have hqr := hAq.room
      refine WL.v (v_load1 rfl rfl one_54 (cellAt (v := .slice q.ad q.ls.length q.c) rfl)) rfl <| WL.v (v_assign rfl rfl) rfl <| WL.nt <| WC.seq <| WC.region <| WL.v (v_move rfl rfl) rfl <| WL.v (v_len_slice rfl rfl Tryz.underlying54) rfl <| ?_
      refine WL.test (v_eql rfl rfl rfl) (.none rfl) rfl rfl (fun h51 => ?_) (fun h51 => ?_)
      ·
       refine WL.nt <| WC.cond_t rfl <| WC.exit <| WE.block_miss rfl <| WE.then_exit <| WE.then_exit <| WE.block_hit <| ?_
       have h0 : q.ls.length = 0 := (by omega)
       rw [if_pos h0] at hrw
       refine WE.to (L' := .row gp p.cells :: (E ++ (Em ++ (H ++ (K ++ (Eq ++ (Kq ++ [Ent.row g5 [.int .i64 mr, .int .i64 ma]]))))))) (fun w hS => hS.dropX (.row gq q.cells :: (Emq ++ (Hq ++ (EA ++ (KA ++ (.row g12 (acL a) :: (E2 ++ (K2 ++ [.row g9 r.cells])))))))) ) ?_
       exact WE.mid ⟨0, q.ls, q.ad, q.c, Eq, Kq⟩ ⟨by dsimp only; rw [List.length_eq_zero_iff.1 h0]; exact hrw.symm, hAq.out, hAq.own, ⟨fit_ls rfl hAq.ok.fit, fun y hy => by have h9 : y.acts.length ≤ (j + 1) * 64 := hqa rfl y.d (List.mem_map_of_mem hy); omega⟩, by dsimp only; omega⟩ (.cons rfl (.cons rfl (.cons rfl (.cons rfl (.cons rfl (.cons rfl (.cons rfl (.cons rfl (.cons rfl .nil))))))))) (.refl _)
      ·
       refine WL.nt <| WC.cond_f rfl <| WC.skip <| WE.block_n <| WE.then_n <| WC.region <| ?_
       refine WL.v (v_add rfl rfl rfl (w_i64 (by omega) (by omega))) rfl ?_
       refine WL.v (v_move rfl rfl) rfl <| WL.nil <| ?_
       rw [if_neg (by omega)] at hrw
       refine WE.to (L' := Eq ++ (Kq ++ (.row g9 r.cells :: .row gp p.cells :: (E ++ (Em ++ (H ++ (K ++ [Ent.row g5 [.int .i64 mr, .int .i64 ma]]))))))) (fun w hS => hS.dropX (.row gq q.cells :: (Emq ++ (Hq ++ (EA ++ (KA ++ (.row g12 (acL a) :: (E2 ++ K2)))))))) ?_
       exact WE.next ⟨j + 1, q.ls, q.ad, q.c, Eq, Kq⟩ (by dsimp only; omega) ⟨by dsimp only; omega, hrw, hAq.out, hAq.own, ⟨fit_ls rfl hAq.ok.fit, fun y hy => hqa rfl y.d (List.mem_map_of_mem hy)⟩, by dsimp only; omega⟩ (.int rfl (by dsimp only; omega) (.cons rfl (.cons rfl (.cons rfl (.cons rfl (.cons rfl (.cons rfl (.cons rfl (.cons rfl (.cons rfl (.cons rfl (.cons rfl .nil)))))))))))) (.refl _)
    ·
     refine WL.nt <| WC.seq <| WC.cond_f rfl <| WC.exit <| WE.then_exit <| WE.then_exit <| WE.block_hit <| ?_
     obtain rfl : j = r.acts.length := (by omega)
     rw [List.drop_length] at hrw
     refine WE.to (L' := .row gp p.cells :: (E ++ (Em ++ (H ++ (K ++ (E2 ++ (K2 ++ [Ent.row g5 [.int .i64 mr, .int .i64 ma]]))))))) (fun w hS => hS.dropX [.row g9 r.cells]) ?_
     exact WE.mid ⟨0, ls, ad, c, E2, K2⟩ ⟨hrw.symm, hV, hK, ⟨hF.fit, fun y hy => by have := hF.few y hy; omega⟩, hll⟩ (.cons rfl (.cons rfl (.cons rfl (.cons rfl (.cons rfl (.cons rfl (.cons rfl (.cons rfl (.cons rfl .nil))))))))) (.refl _)
   ·
    rintro ⟨_, ls, ad, c, E2, K2⟩ ⟨hR2, hV, hK, hF, hll⟩
    dsimp only at hR2 hV hK hF hll
    dsimp only
    rw [hR2] at hc
    have hc : (addsD (ls.map RuL.d) p.d).bind (behindD (ys.map RuL.d) ((xs.drop (i + 1)).map RuL.d)) = C := hc
    refine WC.seq <| WC.region <| WL.v (v_move rfl rfl) rfl <| WL.v (v_len_slice rfl rfl Tryz.underlying54) rfl <| WL.v (v_move rfl rfl) rfl <| WL.nt <| WC.block <| ?_
    refine WC.loop (fun x : CrS => [(55, .int .i64 x.i), (54, .int .i64 ls.length), (53, .slice ad ls.length c), (20, .int .i64 i), (19, .int .i64 xs.length), (18, .slice aa xs.length ac), (7, .pointer (some ⟨gp, 0, none⟩)), (5, .pointer (some ⟨g5, 0, none⟩)), (1, .slice ba ys.length bc), (6, .slice none 0 0)]) (fun x => .row gp x.p.cells :: (x.E ++ (x.Em ++ (x.H ++ (x.K ++ (E2 ++ (K2 ++ [Ent.row g5 [.int .i64 mr, .int .i64 ma]]))))))) (fun x => x.i ≤ ls.length ∧ (addsD ((ls.drop x.i).map RuL.d) x.p.d).bind (behindD (ys.map RuL.d) ((xs.drop (i + 1)).map RuL.d)) = C ∧ (x.p.mr = mr ∧ x.p.ma = ma) ∧ PlAt x.p x.E x.Em x.H x.K) (fun x => ls.length - x.i) ⟨0, p, E, Em, H, K⟩ ⟨Nat.zero_le _, by dsimp only; rw [List.drop_zero]; exact hc, ⟨hm1, hm2⟩, hA⟩ (.cons rfl (.cons rfl (.cons rfl (.cons rfl (.cons rfl (.cons rfl (.cons rfl (.cons rfl (.cons rfl (.cons rfl .nil)))))))))) (.refl _) ?_
    rintro ⟨k, p2, E3, Em3, H3, K3⟩ ⟨hk, hd, ⟨hn1, hn2⟩, hA2⟩
    dsimp only at hk hd hn1 hn2 hA2
    dsimp only
    refine WC.seq <| WC.region <| ?_
    refine WL.test (v_lss rfl rfl rfl) (.none rfl) rfl rfl (fun h56 => ?_) (fun h56 => ?_)
    ·
     refine WL.nt <| WC.seq <| WC.cond_t rfl <| WC.skip <| WE.then_n <| WC.seq <| WC.block <| WC.seq <| WC.region <| ?_
     obtain ⟨x, hx⟩ : ∃ x, ls[k]? = some x := ⟨ls[k]'(by omega), List.getElem?_eq_getElem _⟩
     have hxm := List.mem_of_getElem? hx
     have hxf := hF.fit x hxm
     have hxn := hF.few x hxm
     obtain ⟨b3, o3, ea3, r3⟩ := hV.srcM (L := .row gp p2.cells :: (E3 ++ (Em3 ++ (H3 ++ (K3 ++ (E2 ++ (K2 ++ [Ent.row g5 [.int .i64 mr, .int .i64 ma]]))))))) (fun e he => by simp [he]) (by rw [rulesL_len]; omega)
     rw [drop_cons hx, List.map_cons, addsD_cons] at hd
     refine WL.v ((v_indexAddr (b := b3) (off := o3) (lo := k) rfl (by show some (Value.slice ad _ _) = _; rw [ea3]) rfl Tryz.underlying54 sz_223 rfl (by omega))) rfl ?_
     refine WL.v (v_loadN (cs := x.cells) rfl rfl many_223 (RuL.len x) (fun w' hS' => Rg.seg RuL.len (r3 _ _ w' hS') hx)) rfl <| WL.alloc rfl zero_223 (.none rfl) rfl rfl <| ?_
     intro g15 hg15
     refine WL.storeW rfl rfl rfl rfl many_223 rfl rfl (.none rfl) rfl <| WL.as (L' := .row g15 x.cells :: .row gp p2.cells :: (E3 ++ (Em3 ++ (H3 ++ (K3 ++ (E2 ++ (K2 ++ [Ent.row g5 [.int .i64 mr, .int .i64 ma]]))))))) rfl <| WL.nt <| WC.seq <| WC.region <| WL.v (v_move rfl rfl) rfl <| WL.v (v_fieldAddr0 rfl rfl fld_223_0) rfl <| WL.v (v_loadN rfl rfl many_220 rfl (segAt (g := g15) (m := 18) (new := mtL x.m) (ru_match x))) rfl <| WL.call rfl rfl ck_176 (.none rfl) rfl rfl <| ?_
     intro w hS
     refine Calls.then (Covers_c w gp p2 x.m (hA2.r hS (by simp) (fun e he => by simp [he]) (fun e he => by simp [he])) hA2.ok hxf.isIn.m (by have := hA2.room; omega)) hS ?_
     generalize hb62 : decide (covD p2.ds x.m) = bb
     cases bb
     ·
      refine WL.v (v_not rfl rfl rfl) rfl <| WL.v (v_move rfl rfl) rfl <| WL.val (v_move rfl rfl) (.some rfl rfl rfl) rfl rfl <| WL.val (v_fieldAddr0 rfl rfl fld_223_0) (.some rfl rfl rfl) rfl rfl <| WL.val (v_loadN rfl rfl many_220 rfl (segAt (g := g15) (m := 18) (new := mtL x.m) (ru_match x))) (.some rfl rfl rfl) rfl rfl <| WL.val (v_fieldAddr0 rfl rfl fld_223_1) (.some rfl rfl rfl) rfl rfl <| WL.val (v_load1 rfl rfl one_221 (cellAt (v := .slice x.ad x.acts.length x.c) (ruC_acts x))) (.some rfl rfl rfl) rfl rfl <| WL.call rfl rfl ck_177 (.some rfl rfl rfl) rfl rfl <| ?_
      intro w1 hS1
      refine (Add_c (L := .row g15 x.cells :: (E2 ++ (K2 ++ [Ent.row g5 [.int .i64 mr, .int .i64 ma]]))) gp p2 x.m x.ad x.c x.acts hA2 hS1.permX hxf.isIn.m hxf.isIn.nz (fun w2 hS2 => ?_) (fun a h => hxf.three h) (by omega)).mono ?_
      · obtain ⟨Eo, hVo, hEo⟩ := hK x hxm
        exact hVo.rg fun e he => hS2.holds e (by simp [hEo e he])
      rintro e w' ⟨b70, p3, E4, Em4, H4, K4, rfl, hyes, hno, hA3, hS'⟩
      refine ⟨_, .row g15 x.cells :: .row gp p3.cells :: (E4 ++ (Em4 ++ (H4 ++ (K4 ++ (E2 ++ (K2 ++ [Ent.row g5 [.int .i64 mr, .int .i64 ma]])))))), rfl, hS'.permX, ?_⟩
      skip
      cases b70
      ·
       refine WL.val (v_not rfl rfl rfl) (.some rfl rfl rfl) rfl rfl <| WL.v (v_pick_t rfl rfl rfl) rfl <| WL.nt <| WC.cond_t rfl <| WC.seq <| WC.region <| WL.v (v_assign rfl rfl) rfl <| WL.nt <| WC.ret <| WE.block_ret <| WE.then_ret <| WE.then_ret <| WE.block_ret <| WE.block_ret <| ?_
       refine WE.then_ret <| WE.then_ret <| WE.block_ret <| WE.then_ret <| WE.ret1 (P := Tryz.prog) (.inl rfl) Tryz.results173 rfl <| ?_
       obtain ⟨hno1, hno2⟩ := hno rfl
       have hno1 : p2.d.add x.d.m x.d.acts = none := hno1
       rw [if_neg (of_decide_eq_false hb62 : ¬ covD p2.d.out x.d.m), hno1] at hd
       have hd : C = none := hd.symm
       rw [hd]
       exact fun w' h => RsC.none_ (h.sub (List.nil_sublist _))
      ·
       refine WL.val (v_not rfl rfl rfl) (.some rfl rfl rfl) rfl rfl <| WL.v (v_pick_t rfl rfl rfl) rfl <| WL.nt <| WC.cond_f rfl <| WC.skip <| WE.block_n <| WE.then_n <| WC.region <| ?_
       refine WL.v (v_add rfl rfl rfl (w_i64 (by omega) (by omega))) rfl ?_
       refine WL.v (v_move rfl rfl) rfl <| WL.nil <| ?_
       have hyes1 : p2.d.add x.d.m x.d.acts = some p3.d := hyes rfl
       have hq := PlD.add_some hyes1
       rw [if_neg (of_decide_eq_false hb62 : ¬ covD p2.d.out x.d.m), hyes1] at hd
       exact WE.next ⟨k + 1, p3, E4, Em4, H4, K4⟩ (by dsimp only; omega) ⟨by dsimp only; omega, hd, ⟨(congrArg PlD.mr hq :).trans hn1, (congrArg PlD.ma hq :).trans hn2⟩, hA3⟩ (.int rfl (by dsimp only; omega) (.cons rfl (.cons rfl (.cons rfl (.cons rfl (.cons rfl (.cons rfl (.cons rfl (.cons rfl (.cons rfl .nil)))))))))) (.cons _ (.refl _))
     ·
      refine WL.v (v_not rfl rfl rfl) rfl <| WL.v (v_move rfl rfl) rfl <| ?_
      iterate 7 refine WL.sk rfl ?_
      refine WL.v (v_pick_f rfl rfl rfl) rfl <| WL.nt <| WC.cond_f rfl <| WC.skip <| WE.block_n <| WE.then_n <| WC.region <| ?_
      refine WL.v (v_add rfl rfl rfl (w_i64 (by omega) (by omega))) rfl ?_
      refine WL.v (v_move rfl rfl) rfl <| WL.nil <| ?_
      rw [if_pos (of_decide_eq_true hb62 : covD p2.d.out x.d.m)] at hd
      exact WE.next ⟨k + 1, p2, E3, Em3, H3, K3⟩ (by dsimp only; omega) ⟨by dsimp only; omega, hd, ⟨hn1, hn2⟩, hA2⟩ (.int rfl (by dsimp only; omega) (.cons rfl (.cons rfl (.cons rfl (.cons rfl (.cons rfl (.cons rfl (.cons rfl (.cons rfl (.cons rfl .nil)))))))))) (.cons _ (.refl _))
    ·
     refine WL.nt <| WC.seq <| WC.cond_f rfl <| WC.exit <| WE.then_exit <| WE.then_exit <| WE.block_hit <| WE.block_n <| WE.then_n <| WC.region <| ?_
     refine WL.v (v_add rfl rfl rfl (w_i64 (by omega) (by omega))) rfl ?_
     refine WL.v (v_move rfl rfl) rfl <| WL.nil <| ?_
     obtain rfl : k = ls.length := (by omega)
     rw [List.drop_length] at hd
     refine WE.to (L' := .row gp p2.cells :: (E3 ++ (Em3 ++ (H3 ++ (K3 ++ [Ent.row g5 [.int .i64 mr, .int .i64 ma]]))))) (fun w hS => hS.dropX (E2 ++ K2)) ?_
     exact WE.next ⟨i + 1, p2, E3, Em3, H3, K3⟩ (by dsimp only; omega) ⟨by dsimp only; omega, hd, ⟨hn1, hn2⟩, hA2⟩ (.int rfl (by dsimp only; omega) (.cons rfl (.cons rfl (.cons rfl (.cons rfl (.cons rfl (.cons rfl .nil))))))) (.refl _)
  ·
   refine WL.nt <| WC.seq <| WC.cond_f rfl <| WC.exit <| WE.then_exit <| WE.then_exit <| WE.block_hit <| WE.then_n <| WC.seq <| WC.region <| WL.v (v_move rfl rfl) rfl <| WL.v (v_nilCheck rfl rfl) rfl <| WL.v (v_fieldAddr0 rfl rfl fld_385_1) rfl <| WL.v (v_load1 rfl rfl one_54 (cellAt (v := .slice p.ad p.ls.length p.c) rfl)) rfl <| ?_
   refine WL.v (v_assign rfl rfl) rfl <| WL.nt <| WC.ret <| WE.ret1 (P := Tryz.prog) (.inl rfl) Tryz.results173 rfl <| ?_
   obtain rfl : i = xs.length := (by omega)
   rw [List.drop_length] at hc
   have hc : C = some p.d := hc.symm
   rw [hc]
   have hrm := hA.room
   exact fun w' h => ⟨p.ad, p.c, E, K, p.ls, rfl, rfl, hA.out, hA.own, fun d hd => hA.ok.fit d hd, by omega, h.dropX (.row gp p.cells :: (Em ++ (H ++ [Ent.row g5 [.int .i64 mr, .int .i64 ma]])))⟩
end Go.Proofs.YtmhahajadgkolaaGreatDoor
/- policy: the laws of brackets, as relations; how many nodes there are. -/
namespace Go.Proofs.YtmhahajadgkolaaGreatDoor
open Go.RowKit

abbrev idN : Nd := .mk 12 0 0 0 none 0 []
/-! ### How many nodes there are -/
mutual
def countT : Nd → Int → Int
  | .mk _ _ _ _ _ _ kids, most => countKs kids most 1
def countKs : List Nd → Int → Int → Int
  | [], _, all => all
  | t :: ts, most, all => if all > most then all else countKs ts most (all + countT t (most - all))
end
theorem countT_eq (t : Nd) (most : Int) : countT t most = countKs t.kids most 1 := by cases t; rw [countT]; rfl
mutual
theorem countT_le : ∀ (t : Nd) (most : Int), 0 ≤ most → 1 ≤ countT t most ∧ countT t most ≤ most + 1
  | .mk _ _ _ _ _ _ kids, most, h => by rw [countT]; exact countKs_le kids most 1 (by omega)
theorem countKs_le : ∀ (ts : List Nd) (most all : Int), all ≤ most + 1 → all ≤ countKs ts most all ∧ countKs ts most all ≤ most + 1
  | [], most, all, h => by rw [countKs]; omega
  | t :: ts, most, all, h => by
    rw [countKs]
    split
    · omega
    · rename_i hh
      have h1 := countT_le t (most - all) (by omega)
      have h2 := countKs_le ts most (all + countT t (most - all)) (by omega)
      omega
end
mutual
def sizeN : Nd → Int
  | .mk _ _ _ _ _ _ kids => 1 + sizeKs kids
def sizeKs : List Nd → Int
  | [] => 0
  | t :: ts => sizeN t + sizeKs ts
end
theorem sizeN_eq (t : Nd) : sizeN t = 1 + sizeKs t.kids := by cases t; rw [sizeN]; rfl
mutual
theorem sizeN_pos : ∀ t : Nd, 1 ≤ sizeN t
  | .mk _ _ _ _ _ _ kids => by rw [sizeN]; have := sizeKs_len kids; omega
theorem sizeKs_len : ∀ ts : List Nd, (ts.length : Int) ≤ sizeKs ts
  | [] => by rw [sizeKs]; exact Int.le_refl _
  | t :: ts => by
    rw [sizeKs]
    have h1 := sizeN_pos t
    have h2 := sizeKs_len ts
    rw [List.length_cons]; omega
end
theorem sizeKs_get : ∀ (ts : List Nd) (i : Nat) (t : Nd), ts[i]? = some t → sizeN t ≤ sizeKs ts
  | [], _, _, h => by simp at h
  | t :: ts, 0, u, h => by
    simp only [List.getElem?_cons_zero, Option.some.injEq] at h
    subst h
    rw [sizeKs]; have := sizeKs_len ts; omega
  | t :: ts, i + 1, u, h => by
    rw [List.getElem?_cons_succ] at h
    have := sizeKs_get ts i u h
    have := sizeN_pos t
    rw [sizeKs]; omega
theorem sizeN_kid {t u : Nd} {i : Nat} (h : t.kids[i]? = some u) : sizeN u < sizeN t := by
  have := sizeKs_get _ _ _ h
  rw [sizeN_eq t]; omega
theorem sizeN_kids (t : Nd) : (t.kids.length : Int) < sizeN t := by
  have := sizeKs_len t.kids
  rw [sizeN_eq t]; omega
end Go.Proofs.YtmhahajadgkolaaGreatDoor
/- join: weights, and the rules of a policy, as data. -/
namespace Go.Proofs.YtmhahajadgkolaaGreatDoor
open Go.RowKit

def tms (a b : Int) : Int := min (a * b) 4097
theorem mul_ge {a b : Int} (ha : 0 ≤ a) (hb : 1 ≤ b) : a ≤ a * b := by
  have := Int.mul_le_mul_of_nonneg_left hb ha
  rwa [Int.mul_one] at this
theorem mul_ge' {a b : Int} (ha : 1 ≤ a) (hb : 0 ≤ b) : b ≤ a * b := by rw [Int.mul_comm]; exact mul_ge hb ha
theorem tms_in {a b : Int} (ha : 1 ≤ a) (hb : 1 ≤ b) : 1 ≤ tms a b ∧ tms a b ≤ 4097 := by
  unfold tms
  have := mul_ge (by omega : 0 ≤ a) hb
  omega
theorem tms_in0 {a b : Int} (ha : 0 ≤ a) (hb : 0 ≤ b) : 0 ≤ tms a b ∧ tms a b ≤ 4097 := by
  unfold tms
  have := Int.mul_nonneg ha hb
  omega
theorem tms_left {a b : Int} (ha : 0 ≤ a) (h : a ≤ 4097) (hb : 1 ≤ b) : a ≤ tms a b := by
  unfold tms
  have := mul_ge ha hb
  omega
theorem tms_right {a b : Int} (ha : 1 ≤ a) (hb : 0 ≤ b) (h : b ≤ 4097) : b ≤ tms a b := by
  unfold tms
  have := mul_ge' ha hb
  omega
theorem tms_eq {a b : Int} (h : tms a b ≤ 4096) : tms a b = a * b := by unfold tms at *; omega
def pwr (x : Int) : Nat → Int
  | 0 => 1
  | n + 1 => tms (pwr x n) x
theorem pwr_in {x : Int} (hx : 1 ≤ x) : ∀ n, 1 ≤ pwr x n ∧ pwr x n ≤ 4097
  | 0 => by show (1 : Int) ≤ 1 ∧ (1 : Int) ≤ 4097; omega
  | n + 1 => tms_in (pwr_in hx n).1 hx
theorem pwr_full {x : Int} (hx : 1 ≤ x) {n : Nat} (h : 4097 ≤ pwr x n) : ∀ j, pwr x (n + j) = 4097
  | 0 => by have := (pwr_in hx n).2; show pwr x n = _; omega
  | j + 1 => by
    show tms (pwr x (n + j)) x = 4097
    rw [pwr_full hx h j]
    have := tms_left (a := 4097) (by omega) (by omega) hx
    have := (tms_in (a := 4097) (by omega) hx).2
    omega
theorem pwr_one : ∀ n, pwr 1 n = 1
  | 0 => rfl
  | n + 1 => by show tms (pwr 1 n) 1 = 1; rw [pwr_one n]; rfl
theorem pwr_mono {x : Int} (hx : 1 ≤ x) (n : Nat) : pwr x n ≤ pwr x (n + 1) := tms_left (by have := (pwr_in hx n).1; omega) (pwr_in hx n).2 hx
theorem pwr_ge {x : Int} (hx : 1 ≤ x) (h : x ≤ 4097) : ∀ n, 1 ≤ n → x ≤ pwr x n
  | 1, _ => by show x ≤ tms 1 x; exact tms_right (by omega) (by omega) h
  | n + 2, _ => Int.le_trans (pwr_ge hx h (n + 1) (by omega)) (pwr_mono hx (n + 1))
theorem pwr_eq {x : Int} (hx : 1 ≤ x) : ∀ n, pwr x n ≤ 4096 → pwr x n = x ^ n
  | 0, _ => by rw [Int.pow_zero]; rfl
  | n + 1, h => by
    have h1 : tms (pwr x n) x ≤ 4096 := h
    rw [Int.pow_succ, ← pwr_eq hx n (by have := pwr_mono hx n; omega)]
    exact tms_eq h1
def wAll : List (Int × Int) → Int × Int → Int × Int
  | [], s => s
  | x :: xs, s => wAll xs (tms s.1 x.1, min (s.2 + x.2) 4097)
def wRow : List (Int × Int) → Int × Int × Int → Int × Int
  | [], s => (s.1, s.2.2)
  | x :: xs, s => wRow xs (tms s.1 (pwr x.1 s.2.1.toNat), tms s.2.1 x.2, max s.2.2 (tms s.2.1 x.2))
def wNth (l : List (Int × Int)) (i : Nat) : Int × Int := l.getD i (1, 1)
mutual
def weighT : Nd → Int × Int
  | .mk k _ _ _ _ _ kids =>
    if k = 3 then (2, 1)
    else if k = 4 ∨ k = 13 then ((wNth (weighKs kids) 0).1, 1)
    else if k = 5 ∨ k = 6 then ((wAll (weighKs kids) (1, 0)).1, 1)
    else if k = 11 then (1, 0)
    else if k = 15 then wAll (weighKs kids) (1, 0)
    else if k = 16 then (if kids.length = 0 then (1, 1) else wRow (weighKs kids) (1, 1, 0))
    else if k = 17 then (tms (wNth (weighKs kids) 0).1 (max (wNth (weighKs kids) 1).1 (wNth (weighKs kids) 2).1), max (wNth (weighKs kids) 1).2 (wNth (weighKs kids) 2).2)
    else (1, 1)
def weighKs : List Nd → List (Int × Int)
  | [] => []
  | t :: ts => weighT t :: weighKs ts
end
theorem weighKs_map : ∀ ts : List Nd, weighKs ts = ts.map weighT
  | [] => by rw [weighKs]; rfl
  | t :: ts => by rw [weighKs, weighKs_map ts]; rfl
theorem weighT_eq (t : Nd) : weighT t =
    if t.kind = 3 then (2, 1)
    else if t.kind = 4 ∨ t.kind = 13 then ((wNth (t.kids.map weighT) 0).1, 1)
    else if t.kind = 5 ∨ t.kind = 6 then ((wAll (t.kids.map weighT) (1, 0)).1, 1)
    else if t.kind = 11 then (1, 0)
    else if t.kind = 15 then wAll (t.kids.map weighT) (1, 0)
    else if t.kind = 16 then (if t.kids.length = 0 then (1, 1) else wRow (t.kids.map weighT) (1, 1, 0))
    else if t.kind = 17 then (tms (wNth (t.kids.map weighT) 0).1 (max (wNth (t.kids.map weighT) 1).1 (wNth (t.kids.map weighT) 2).1), max (wNth (t.kids.map weighT) 1).2 (wNth (t.kids.map weighT) 2).2)
    else (1, 1) := by
  cases t; rw [weighT, weighKs_map]; rfl
structure WOk (x : Int × Int) : Prop where
  r : 1 ≤ x.1 ∧ x.1 ≤ 4097
  a : 0 ≤ x.2 ∧ x.2 ≤ 4097
theorem wAll_ok : ∀ (xs : List (Int × Int)) (s : Int × Int), (∀ x ∈ xs, WOk x) → WOk s → WOk (wAll xs s) ∧ s.1 ≤ (wAll xs s).1 ∧ s.2 ≤ (wAll xs s).2 ∧ ∀ x ∈ xs, x.1 ≤ (wAll xs s).1 ∧ x.2 ≤ (wAll xs s).2
  | [], s, _, hs => ⟨hs, Int.le_refl _, Int.le_refl _, fun x h => by cases h⟩
  | x :: xs, s, hx, hs => by
    have h := hx x (List.mem_cons_self ..)
    have h1 := h.r
    have h2 := h.a
    have h3 := hs.r
    have h4 := hs.a
    have h5 := tms_in h3.1 h1.1
    have h6 := tms_left (by omega) h3.2 h1.1
    have h7 := tms_right h3.1 (by omega) h1.2
    have ih := wAll_ok xs (tms s.1 x.1, min (s.2 + x.2) 4097) (fun y hy => hx y (List.mem_cons_of_mem _ hy)) ⟨h5, by dsimp only; omega⟩
    obtain ⟨i1, i2, i3, i4⟩ := ih
    dsimp only at i2 i3
    show WOk (wAll xs _) ∧ s.1 ≤ (wAll xs _).1 ∧ s.2 ≤ (wAll xs _).2 ∧ ∀ y ∈ x :: xs, y.1 ≤ (wAll xs _).1 ∧ y.2 ≤ (wAll xs _).2
    refine ⟨i1, by omega, by omega, fun y hy => ?_⟩
    rcases List.mem_cons.1 hy with rfl | hy
    · omega
    · exact i4 y hy
theorem wRow_ok : ∀ (xs : List (Int × Int)) (r a m : Int), (∀ x ∈ xs, WOk x) → 1 ≤ r ∧ r ≤ 4097 → 0 ≤ a ∧ a ≤ 4097 → 0 ≤ m ∧ m ≤ 4097 → WOk (wRow xs (r, a, m)) ∧ r ≤ (wRow xs (r, a, m)).1 ∧ m ≤ (wRow xs (r, a, m)).2
  | [], r, a, m, _, hr, _, hm => ⟨⟨hr, hm⟩, Int.le_refl _, Int.le_refl _⟩
  | x :: xs, r, a, m, hx, hr, ha, hm => by
    have h := hx x (List.mem_cons_self ..)
    have h1 := h.r
    have h2 := h.a
    have h3 := pwr_in h1.1 a.toNat
    have h4 := tms_in hr.1 h3.1
    have h5 := tms_left (by omega) hr.2 h3.1
    have h6 := tms_in0 ha.1 h2.1
    have ih := wRow_ok xs (tms r (pwr x.1 a.toNat)) (tms a x.2) (max m (tms a x.2)) (fun y hy => hx y (List.mem_cons_of_mem _ hy)) h4 h6 (by omega)
    show WOk (wRow xs _) ∧ r ≤ (wRow xs _).1 ∧ m ≤ (wRow xs _).2
    obtain ⟨i1, i2, i3⟩ := ih
    exact ⟨i1, by show r ≤ (wRow xs (tms r (pwr x.1 a.toNat), tms a x.2, max m (tms a x.2))).1; omega, by show m ≤ (wRow xs (tms r (pwr x.1 a.toNat), tms a x.2, max m (tms a x.2))).2; omega⟩
theorem wNth_ok {l : List (Int × Int)} (h : ∀ x ∈ l, WOk x) (i : Nat) : WOk (wNth l i) := by
  unfold wNth
  rw [List.getD_eq_getElem?_getD]
  cases hi : l[i]? with
  | none => exact ⟨by decide, by decide⟩
  | some x => exact h x (List.mem_of_getElem? hi)
mutual
theorem weighT_ok : ∀ t : Nd, WOk (weighT t)
  | .mk k f v m a c kids => by
    have hk := weighKs_ok kids
    rw [weighT]
    split
    · exact ⟨by decide, by decide⟩
    split
    · exact ⟨(wNth_ok hk 0).r, by dsimp only; omega⟩
    split
    · exact ⟨(wAll_ok _ (1, 0) hk ⟨by decide, by decide⟩).1.r, by dsimp only; omega⟩
    split
    · exact ⟨by decide, by decide⟩
    split
    · exact (wAll_ok _ (1, 0) hk ⟨by decide, by decide⟩).1
    split
    · split
      · exact ⟨by decide, by decide⟩
      · exact (wRow_ok _ 1 1 0 hk (by decide) (by decide) (by decide)).1
    split
    · have h0 := wNth_ok hk 0
      have h1 := wNth_ok hk 1
      have h2 := wNth_ok hk 2
      have := h1.r
      have := h2.r
      have := h1.a
      have := h2.a
      exact ⟨tms_in h0.r.1 (by omega), by dsimp only; omega⟩
    · exact ⟨by decide, by decide⟩
theorem weighKs_ok : ∀ ts : List Nd, ∀ x ∈ weighKs ts, WOk x
  | [], x, h => by rw [weighKs] at h; cases h
  | t :: ts, x, h => by
    rw [weighKs] at h
    rcases List.mem_cons.1 h with rfl | h
    · exact weighT_ok t
    · exact weighKs_ok ts x h
end
theorem weighM_ok (ts : List Nd) : ∀ x ∈ ts.map weighT, WOk x := by rw [← weighKs_map]; exact weighKs_ok ts
/-! ### The rules -/
def ac0 : Ac := ⟨0, fun _ => 0⟩
def allD (us : List Ac) : List RuD := [⟨mt0, normF us⟩]
def testD (f : Nat) (v m : Int) : List RuD := if (Mt.one f v m).eqv mt0 then [⟨Mt.one f v m, [ac0]⟩] else [⟨Mt.one f v m, [ac0]⟩, ⟨mt0, []⟩]
def notD (r : RuD) : RuD := ⟨r.m, if 0 < r.acts.length then [] else [ac0]⟩
def pl0 : PlD := ⟨4194304, 16777216, []⟩
def crossL (sum : List Ac → List Ac → List Ac) (a b : List RuD) : List RuD := outD (crossD [] sum b a pl0)
def behindL (a b : List RuD) : List RuD := outD (behindD b a pl0)
def foldD (sum : List Ac → List Ac → List Ac) : List (List RuD) → List RuD → List RuD
  | [], l => l
  | x :: xs, l => foldD sum xs (crossL sum l x)
def silentD (l : List RuD) : Prop := ∀ r ∈ l, ¬ 0 < r.acts.length
instance (l : List RuD) : Decidable (silentD l) := by unfold silentD; infer_instance
def rowD : List (List RuD) → List RuD → List RuD
  | [], l => l
  | x :: xs, l => if silentD l then l else rowD xs (behindL l x)
def ifI (r : RuD) : List RuD → PlD → PlD
  | [], p => p
  | s :: part, p => match r.m.and s.m with
    | none => ifI r part p
    | some m => if covD p.out m then ifI r part p else ifI r part ((p.add m s.acts).getD p)
def ifD (yes no : List RuD) : List RuD → PlD → PlD
  | [], p => p
  | r :: l, p => ifD yes no l (ifI r (if 0 < r.acts.length then yes else no) p)
def nthD (l : List (List RuD)) (i : Nat) : List RuD := l.getD i []
mutual
def buildD : Nd → List RuD
  | .mk k f v m _ _ kids =>
    if k = 2 ∨ k = 11 then allD []
    else if k = 3 then testD f.toNat v m
    else if k = 4 then (nthD (buildKs kids) 0).map notD
    else if k = 5 then foldD bothA (buildKs kids) (allD [ac0])
    else if k = 6 ∨ k = 15 then foldD appA (buildKs kids) (allD [])
    else if k = 13 then nthD (buildKs kids) 0
    else if k = 14 then allD [Ac.one f.toNat v]
    else if k = 16 then rowD (buildKs kids) (allD [ac0])
    else if k = 17 then (ifD (nthD (buildKs kids) 1) (nthD (buildKs kids) 2) (nthD (buildKs kids) 0) pl0).out
    else allD [ac0]
def buildKs : List Nd → List (List RuD)
  | [] => []
  | t :: ts => buildD t :: buildKs ts
end
theorem buildKs_map : ∀ ts : List Nd, buildKs ts = ts.map buildD
  | [] => by rw [buildKs]; rfl
  | t :: ts => by rw [buildKs, buildKs_map ts]; rfl
theorem buildD_eq (t : Nd) : buildD t =
    if t.kind = 2 ∨ t.kind = 11 then allD []
    else if t.kind = 3 then testD t.f.toNat t.val t.mask
    else if t.kind = 4 then (nthD (t.kids.map buildD) 0).map notD
    else if t.kind = 5 then foldD bothA (t.kids.map buildD) (allD [ac0])
    else if t.kind = 6 ∨ t.kind = 15 then foldD appA (t.kids.map buildD) (allD [])
    else if t.kind = 13 then nthD (t.kids.map buildD) 0
    else if t.kind = 14 then allD [Ac.one t.f.toNat t.val]
    else if t.kind = 16 then rowD (t.kids.map buildD) (allD [ac0])
    else if t.kind = 17 then (ifD (nthD (t.kids.map buildD) 1) (nthD (t.kids.map buildD) 2) (nthD (t.kids.map buildD) 0) pl0).out
    else allD [ac0] := by
  cases t; rw [buildD, buildKs_map]; rfl
/-! ### How many rules and acts there are -/
theorem crossL_len (sum : List Ac → List Ac → List Ac) (a b : List RuD) : (crossL sum a b).length ≤ a.length * b.length := by
  unfold crossL
  cases h : crossD [] sum b a pl0 with
  | none => exact Nat.zero_le _
  | some q => have := (crossD_len a pl0 q h).1; show q.out.length ≤ _; have e : pl0.out.length = 0 := rfl; omega
theorem crossL_all {Q : List Ac → Prop} {sum : List Ac → List Ac → List Ac} {a b : List RuD} (hQ : ∀ r ∈ a, ∀ s ∈ b, Q (normF (sum r.acts s.acts))) : ∀ x ∈ crossL sum a b, Q x.acts := by
  unfold crossL
  cases h : crossD [] sum b a pl0 with
  | none => exact fun x hx => by cases hx
  | some q => exact crossD_all a pl0 q hQ (fun x hx => by cases hx) h
theorem fold_len {sum : List Ac → List Ac → List Ac} : ∀ (xs : List Nd) (l : List RuD) (s : Int × Int), WOk s → (∀ u ∈ xs, ((buildD u).length : Int) ≤ (weighT u).1) → (l.length : Int) ≤ s.1 → (wAll (xs.map weighT) s).1 ≤ 300 → ((foldD sum (xs.map buildD) l).length : Int) ≤ (wAll (xs.map weighT) s).1
  | [], l, s, _, _, hl, _ => hl
  | u :: xs, l, s, hs, hu, hl, h => by
    have hw := weighT_ok u
    have h1 := hw.r
    have h2 := hw.a
    have h3 := hs.r
    have h4 := hs.a
    have hs' : WOk (tms s.1 (weighT u).1, min (s.2 + (weighT u).2) 4097) := ⟨tms_in h3.1 h1.1, by dsimp only; omega⟩
    have hle := (wAll_ok (xs.map weighT) _ (weighM_ok xs) hs').2.1
    have h : (wAll (xs.map weighT) (tms s.1 (weighT u).1, min (s.2 + (weighT u).2) 4097)).1 ≤ 300 := h
    refine fold_len xs (crossL sum l (buildD u)) _ hs' (fun y hy => hu y (List.mem_cons_of_mem _ hy)) ?_ h
    dsimp only at hle ⊢
    rw [tms_eq (by omega)]
    have h5 := crossL_len sum l (buildD u)
    have h6 := hu u (List.mem_cons_self ..)
    have h7 : ((l.length * (buildD u).length : Nat) : Int) ≤ s.1 * (weighT u).1 := by
      rw [Int.natCast_mul]
      exact Int.mul_le_mul hl h6 (by omega) (by omega)
    omega
theorem fold_acts : ∀ (xs : List Nd) (l : List RuD) (s : Int × Int), WOk s → (∀ u ∈ xs, ∀ r ∈ buildD u, (r.acts.length : Int) ≤ (weighT u).2) → (∀ r ∈ l, (r.acts.length : Int) ≤ s.2) → (wAll (xs.map weighT) s).2 ≤ 64 → ∀ r ∈ foldD appA (xs.map buildD) l, (r.acts.length : Int) ≤ (wAll (xs.map weighT) s).2
  | [], l, s, _, _, hl, _ => hl
  | u :: xs, l, s, hs, hu, hl, h => by
    have hw := weighT_ok u
    have h1 := hw.r
    have h2 := hw.a
    have h3 := hs.r
    have h4 := hs.a
    have hs' : WOk (tms s.1 (weighT u).1, min (s.2 + (weighT u).2) 4097) := ⟨tms_in h3.1 h1.1, by dsimp only; omega⟩
    have hle := (wAll_ok (xs.map weighT) _ (weighM_ok xs) hs').2.2.1
    have h : (wAll (xs.map weighT) (tms s.1 (weighT u).1, min (s.2 + (weighT u).2) 4097)).2 ≤ 64 := h
    refine fold_acts xs (crossL appA l (buildD u)) _ hs' (fun y hy => hu y (List.mem_cons_of_mem _ hy)) ?_ h
    dsimp only at hle ⊢
    refine crossL_all (Q := fun us => (us.length : Int) ≤ min (s.2 + (weighT u).2) 4097) fun r hr x hx => ?_
    have h5 := normF_len (appA r.acts x.acts)
    have h6 := hl r hr
    have h7 := hu u (List.mem_cons_self ..) x hx
    have h8 : (appA r.acts x.acts).length = r.acts.length + x.acts.length := List.length_append
    omega
/-- What a predicate's rules do. -/
def Yn (us : List Ac) : Prop := us = [] ∨ us = [ac0]
theorem yn_both {a b : List Ac} (ha : Yn a) (_hb : Yn b) : Yn (normF (bothA a b)) := by
  unfold bothA
  split
  · exact .inl rfl
  · rcases ha with rfl | rfl
    · exact .inl rfl
    · exact .inr rfl
theorem yn_app {a b : List Ac} (ha : Yn a) (hb : Yn b) : Yn (normF (appA a b)) := by
  rcases ha with rfl | rfl <;> rcases hb with rfl | rfl
  · exact .inl rfl
  · exact .inr rfl
  · exact .inr rfl
  · exact .inr rfl
theorem fold_yn {sum : List Ac → List Ac → List Ac} (hs : ∀ a b, Yn a → Yn b → Yn (normF (sum a b))) : ∀ (xs : List Nd) (l : List RuD), (∀ u ∈ xs, ∀ r ∈ buildD u, Yn r.acts) → (∀ r ∈ l, Yn r.acts) → ∀ r ∈ foldD sum (xs.map buildD) l, Yn r.acts
  | [], _, _, hl => hl
  | u :: xs, l, hu, hl => fold_yn hs xs (crossL sum l (buildD u)) (fun y hy => hu y (List.mem_cons_of_mem _ hy)) (crossL_all fun r hr x hx => hs _ _ (hl r hr) (hu u (List.mem_cons_self ..) x hx))
structure BLen (pred : Bool) (t : Nd) : Prop where
  len : ((buildD t).length : Int) ≤ (weighT t).1
  acts : ∀ r ∈ buildD t, (r.acts.length : Int) ≤ (weighT t).2
  yn : pred = true → ∀ r ∈ buildD t, Yn r.acts
theorem yn_one {us : List Ac} (h : Yn us) : us.length ≤ 1 := by rcases h with rfl | rfl <;> decide
theorem row_len : ∀ (xs : List Nd) (l : List RuD) (r a m : Int), 1 ≤ r ∧ r ≤ 4097 → 0 ≤ a ∧ a ≤ 4097 → a ≤ m ∧ m ≤ 4097 → (∀ u ∈ xs, (weighT u).1 ≤ 300 → (weighT u).2 ≤ 64 → BLen false u) → (l.length : Int) ≤ r → (∀ x ∈ l, (x.acts.length : Int) ≤ a) → (wRow (xs.map weighT) (r, a, m)).1 ≤ 300 → (wRow (xs.map weighT) (r, a, m)).2 ≤ 64 →
    ((rowD (xs.map buildD) l).length : Int) ≤ (wRow (xs.map weighT) (r, a, m)).1 ∧ ∀ x ∈ rowD (xs.map buildD) l, (x.acts.length : Int) ≤ (wRow (xs.map weighT) (r, a, m)).2
  | [], l, r, a, m, _, _, hm, _, hl, hla, _, _ => ⟨hl, fun x hx => by have := hla x hx; show _ ≤ m; omega⟩
  | u :: xs, l, r, a, m, hr, ha, hm, hu, hl, hla, h1, h2 => by
    have hw := weighT_ok u
    have k1 := hw.r
    have k2 := hw.a
    have k3 := pwr_in k1.1 a.toNat
    have k4 := tms_in hr.1 k3.1
    have k5 := tms_left (by omega) hr.2 k3.1
    have k6 := tms_in0 ha.1 k2.1
    have hk := wRow_ok (xs.map weighT) (tms r (pwr (weighT u).1 a.toNat)) (tms a (weighT u).2) (max m (tms a (weighT u).2)) (weighM_ok xs) k4 k6 (by omega)
    have e : wRow ((u :: xs).map weighT) (r, a, m) = wRow (xs.map weighT) (tms r (pwr (weighT u).1 a.toNat), tms a (weighT u).2, max m (tms a (weighT u).2)) := rfl
    rw [e] at h1 h2 ⊢
    obtain ⟨i1, i2, i3⟩ := hk
    show ((if silentD l then l else rowD (xs.map buildD) (behindL l (buildD u))).length : Int) ≤ _ ∧ ∀ x ∈ (if silentD l then l else rowD (xs.map buildD) (behindL l (buildD u))), _
    split
    · rename_i hsil
      exact ⟨by omega, fun x hx => by have := hsil x hx; omega⟩
    · rename_i hsil
      have ha1 : 1 ≤ a := Decidable.byContradiction fun hn => hsil fun x hx => by have := hla x hx; omega
      have k7 := pwr_ge k1.1 k1.2 a.toNat (by omega)
      have k8 := tms_right hr.1 (by omega) k3.2
      have k9 := tms_right ha1 k2.1 k2.2
      have hb := hu u (List.mem_cons_self ..) (by omega) (by omega)
      have hbl := hb.len
      have e1 := tms_eq (a := r) (b := pwr (weighT u).1 a.toNat) (by omega)
      have e2 := pwr_eq k1.1 a.toNat (by omega)
      have e3 := tms_eq (a := a) (b := (weighT u).2) (by omega)
      have hq : ((behindL l (buildD u)).length : Int) ≤ tms r (pwr (weighT u).1 a.toNat) ∧ ∀ x ∈ behindL l (buildD u), (x.acts.length : Int) ≤ tms a (weighT u).2 := by
        unfold behindL
        cases hc : behindD (buildD u) l pl0 with
        | none => exact ⟨by show (0 : Int) ≤ _; omega, fun x hx => by cases hx⟩
        | some q =>
          have hh := behindD_len (kr := (weighT u).1.toNat) (ka := (weighT u).2.toNat) (n := a.toNat) (by omega) (by omega) (fun x hx => by have := hb.acts x hx; omega) l pl0 q (fun x hx => by have := hla x hx; omega) (fun x hx => by cases hx) hc
          obtain ⟨j1, j2, -⟩ := hh
          refine ⟨?_, fun x hx => ?_⟩
          · have j3 : q.out.length ≤ 0 + l.length * (weighT u).1.toNat ^ a.toNat := j1
            rw [e1, e2]
            have j4 : ((l.length * (weighT u).1.toNat ^ a.toNat : Nat) : Int) ≤ r * (weighT u).1 ^ a.toNat := by
              rw [Int.natCast_mul, Int.natCast_pow, Int.toNat_of_nonneg (by omega)]
              exact Int.mul_le_mul_of_nonneg_right hl (by rw [← e2]; omega)
            show (q.out.length : Int) ≤ _
            omega
          · have j5 := j2 x hx
            rw [e3]
            have j6 : ((a.toNat * (weighT u).2.toNat : Nat) : Int) = a * (weighT u).2 := by rw [Int.natCast_mul, Int.toNat_of_nonneg (by omega), Int.toNat_of_nonneg (by omega)]
            omega
      exact row_len xs (behindL l (buildD u)) _ _ _ k4 k6 (by omega) (fun y hy => hu y (List.mem_cons_of_mem _ hy)) hq.1 hq.2 h1 h2
theorem ifI_len {r : RuD} {n : Nat} : ∀ (part : List RuD) (p : PlD), (∀ s ∈ part, s.acts.length ≤ n) → (∀ x ∈ p.out, x.acts.length ≤ n) → (ifI r part p).out.length ≤ p.out.length + part.length ∧ ∀ x ∈ (ifI r part p).out, x.acts.length ≤ n
  | [], p, _, hp => ⟨Nat.le_refl _, hp⟩
  | s :: part, p, hs, hp => by
    have hs' : ∀ s ∈ part, s.acts.length ≤ n := fun y hy => hs y (List.mem_cons_of_mem _ hy)
    rw [ifI, List.length_cons]
    split
    · have := ifI_len (r := r) part p hs' hp; exact ⟨by omega, this.2⟩
    split
    · have := ifI_len (r := r) part p hs' hp; exact ⟨by omega, this.2⟩
    rename_i m _ _
    cases ha : p.add m s.acts with
    | none => have := ifI_len (r := r) part p hs' hp; exact ⟨by show (ifI r part p).out.length ≤ _; omega, this.2⟩
    | some q =>
      have e := PlD.add_some ha
      have hq : (∀ x ∈ q.out, x.acts.length ≤ n) ∧ q.out.length = p.out.length + 1 := by
        subst e
        refine ⟨fun x hx => ?_, by dsimp only; rw [List.length_append]; rfl⟩
        rcases List.mem_append.1 hx with hx | hx
        · exact hp x hx
        · rw [List.mem_singleton.1 hx]; exact Nat.le_trans (normF_len _) (hs s (List.mem_cons_self ..))
      have := ifI_len (r := r) part q hs' hq.1
      exact ⟨by show (ifI r part q).out.length ≤ _; omega, this.2⟩
theorem ifD_len {yes no : List RuD} {n k : Nat} (hy : yes.length ≤ k) (hn : no.length ≤ k) (ha : ∀ s ∈ yes, s.acts.length ≤ n) (hb : ∀ s ∈ no, s.acts.length ≤ n) : ∀ (l : List RuD) (p : PlD), (∀ x ∈ p.out, x.acts.length ≤ n) → (ifD yes no l p).out.length ≤ p.out.length + l.length * k ∧ ∀ x ∈ (ifD yes no l p).out, x.acts.length ≤ n
  | [], p, hp => ⟨by show p.out.length ≤ _; omega, hp⟩
  | r :: l, p, hp => by
    have h1 := ifI_len (r := r) (n := n) (if 0 < r.acts.length then yes else no) p (by split <;> assumption) hp
    have h2 := ifD_len hy hn ha hb l (ifI r (if 0 < r.acts.length then yes else no) p) h1.2
    have h3 : (if 0 < r.acts.length then yes else no).length ≤ k := by split <;> assumption
    rw [List.length_cons, Nat.add_mul, Nat.one_mul]
    exact ⟨by show (ifD yes no l (ifI r (if 0 < r.acts.length then yes else no) p)).out.length ≤ _; omega, h2.2⟩
theorem nthD_get {ts : List Nd} {i : Nat} {u : Nd} (h : ts[i]? = some u) : nthD (ts.map buildD) i = buildD u := by unfold nthD; rw [List.getD_eq_getElem?_getD, List.getElem?_map, h]; rfl
theorem wNth_get {ts : List Nd} {i : Nat} {u : Nd} (h : ts[i]? = some u) : wNth (ts.map weighT) i = weighT u := by unfold wNth; rw [List.getD_eq_getElem?_getD, List.getElem?_map, h]; rfl
theorem fits_pred {k : Int} (h : fitsP k true = true) : 1 ≤ k ∧ k ≤ 6 := of_decide_eq_true (show decide (1 ≤ k ∧ k ≤ 6) = true from h)
theorem kid_of {t : Nd} {pred : Bool} (hk : okT pred t) {i : Nat} (hi : (i : Int) < leastK t.kind) : ∃ u, t.kids[i]? = some u := by
  have := (formE_le hk.parts.2.2.1).1
  exact ⟨t.kids[i]'(by omega), List.getElem?_eq_getElem _⟩
theorem weigh_pred {t : Nd} (h : okT true t) : (weighT t).2 = 1 := by
  have hk := fits_pred h.parts.1
  rw [weighT_eq]
  by_cases h3 : t.kind = 3
  · rw [if_pos h3]
  rw [if_neg h3]
  by_cases h4 : t.kind = 4 ∨ t.kind = 13
  · rw [if_pos h4]
  rw [if_neg h4]
  by_cases h5 : t.kind = 5 ∨ t.kind = 6
  · rw [if_pos h5]
  rw [if_neg h5, if_neg (by omega), if_neg (by omega), if_neg (by omega), if_neg (by omega)]
theorem okT.mem {t u : Nd} {pred : Bool} (h : okT pred t) (hu : u ∈ t.kids) : ∃ j, t.kids[j]? = some u ∧ okT (predK t.kind j) u := by
  obtain ⟨j, hj⟩ := List.mem_iff_getElem?.1 hu
  exact ⟨j, hj, h.kid hj⟩
theorem build_len : ∀ (N : Nat) (t : Nd), SizeOf.sizeOf t ≤ N → ∀ pred, okT pred t → (weighT t).1 ≤ 300 → (weighT t).2 ≤ 64 → BLen pred t
  | 0, t, hN => by cases t; simp only [Nd.mk.sizeOf_spec] at hN; omega
  | N + 1, t, hN => by
    intro pred hk h1 h2
    have ih : ∀ u ∈ t.kids, ∀ pr, okT pr u → (weighT u).1 ≤ 300 → (weighT u).2 ≤ 64 → BLen pr u := fun u hu => by
      obtain ⟨j, hj⟩ := List.mem_iff_getElem?.1 hu
      exact build_len N u (Nd.kidN hN hj)
    have hform := hk.parts.2.2.1
    have hall : ∀ us : List Ac, ∀ r ∈ allD us, r.acts = normF us := fun us r hr => by rw [List.mem_singleton.1 hr]
    have bl := buildD_eq t
    have wt := weighT_eq t
    by_cases k2 : t.kind = 2 ∨ t.kind = 11
    · rw [if_pos k2] at bl
      have hw : (weighT t).1 = 1 ∧ 0 ≤ (weighT t).2 := ⟨by rcases k2 with k | k <;> (rw [k] at wt; rw [wt]; rfl), (weighT_ok t).a.1⟩
      exact ⟨by rw [bl, hw.1]; exact Int.le_refl _, fun r hr => by rw [bl] at hr; rw [hall _ r hr]; exact hw.2, fun _ r hr => by rw [bl] at hr; exact .inl (hall _ r hr)⟩
    rw [if_neg k2] at bl
    by_cases k3 : t.kind = 3
    · rw [if_pos k3] at bl wt
      have hx : ∀ r ∈ testD t.f.toNat t.val t.mask, Yn r.acts := by
        unfold testD
        split
        · intro r hr; rw [List.mem_singleton.1 hr]; exact .inr rfl
        · intro r hr
          rcases List.mem_cons.1 hr with rfl | hr
          · exact .inr rfl
          · rw [List.mem_singleton.1 hr]; exact .inl rfl
      refine ⟨?_, fun r hr => ?_, fun _ r hr => hx r (by rw [bl] at hr; exact hr)⟩
      · rw [bl, wt]
        unfold testD
        split
        · show ((1 : Nat) : Int) ≤ 2; omega
        · show ((2 : Nat) : Int) ≤ 2; omega
      · rw [bl] at hr
        rw [wt]
        have := yn_one (hx r hr)
        show (r.acts.length : Int) ≤ 1
        omega
    rw [if_neg k3] at bl wt
    by_cases k4 : t.kind = 4
    · rw [if_pos k4] at bl
      rw [if_pos (.inl k4)] at wt
      obtain ⟨u, hu⟩ := kid_of hk (i := 0) (by rw [k4]; decide)
      have hku := hk.kid hu
      rw [k4] at hku
      have hb := ih u (List.mem_of_getElem? hu) true hku (by rw [wt, wNth_get hu] at h1; exact h1) (by rw [weigh_pred hku]; decide)
      rw [nthD_get hu] at bl
      rw [wNth_get hu] at wt
      have hx : ∀ r ∈ (buildD u).map notD, Yn r.acts := fun r hr => by
        obtain ⟨y, _, rfl⟩ := List.mem_map.1 hr
        show Yn (if 0 < y.acts.length then [] else [ac0])
        split
        · exact .inl rfl
        · exact .inr rfl
      refine ⟨by rw [bl, wt, List.length_map]; exact hb.len, fun r hr => ?_, fun _ r hr => hx r (by rw [bl] at hr; exact hr)⟩
      rw [bl] at hr
      rw [wt]
      have := yn_one (hx r hr)
      show (r.acts.length : Int) ≤ 1
      omega
    rw [if_neg k4] at bl
    by_cases k5 : t.kind = 5 ∨ t.kind = 6
    · rw [if_neg (by omega), if_pos k5] at wt
      have hp : ∀ u ∈ t.kids, okT true u := fun u hu => by
        obtain ⟨j, _, hj⟩ := hk.mem hu
        rcases k5 with k | k <;> (rw [k] at hj; exact hj)
      have hw1 := wAll_ok (t.kids.map weighT) (1, 0) (weighM_ok _) ⟨by decide, by decide⟩
      rw [wt] at h1
      have hb : ∀ u ∈ t.kids, BLen true u := fun u hu => ih u hu true (hp u hu) (by have := (hw1.2.2.2 _ (List.mem_map_of_mem hu)).1; omega) (by rw [weigh_pred (hp u hu)]; decide)
      have hx : ∃ sum l, buildD t = foldD sum (t.kids.map buildD) l ∧ l.length = 1 ∧ (∀ r ∈ l, Yn r.acts) ∧ ∀ a b, Yn a → Yn b → Yn (normF (sum a b)) := by
        by_cases k : t.kind = 5
        · rw [if_pos k] at bl
          exact ⟨bothA, allD [ac0], bl, rfl, fun r hr => by rw [hall _ r hr]; exact .inr rfl, fun _ _ => yn_both⟩
        · rw [if_neg k, if_pos (by omega)] at bl
          exact ⟨appA, allD [], bl, rfl, fun r hr => by rw [hall _ r hr]; exact .inl rfl, fun _ _ => yn_app⟩
      obtain ⟨sum, l, bl, hl, hly, hsum⟩ := hx
      have hyn := fold_yn hsum t.kids l (fun u hu => (hb u hu).yn rfl) hly
      refine ⟨?_, fun r hr => ?_, fun _ r hr => hyn r (by rw [bl] at hr; exact hr)⟩
      · rw [bl, wt]
        exact fold_len t.kids l (1, 0) ⟨by decide, by decide⟩ (fun u hu => (hb u hu).len) (by rw [hl]; exact Int.le_refl _) h1
      · rw [bl] at hr
        rw [wt]
        have := yn_one (hyn r hr)
        show (r.acts.length : Int) ≤ 1
        omega
    rw [if_neg (by omega)] at bl
    by_cases k15 : t.kind = 15
    · rw [if_pos (.inr k15)] at bl
      rw [if_neg (by omega), if_neg (by omega), if_neg (by omega), if_pos k15] at wt
      rw [wt] at h1 h2
      have hp : ∀ u ∈ t.kids, okT false u := fun u hu => by
        obtain ⟨j, _, hj⟩ := hk.mem hu
        rw [k15] at hj
        have e : predK 15 j = false := by unfold predK; exact decide_eq_false (by omega)
        rw [e] at hj
        exact hj
      have hw1 := wAll_ok (t.kids.map weighT) (1, 0) (weighM_ok _) ⟨by decide, by decide⟩
      have hb : ∀ u ∈ t.kids, BLen false u := fun u hu => ih u hu false (hp u hu) (by have := (hw1.2.2.2 _ (List.mem_map_of_mem hu)).1; omega) (by have := (hw1.2.2.2 _ (List.mem_map_of_mem hu)).2; omega)
      have hpf : pred = false := by
        cases pred with
        | false => rfl
        | true => have := fits_pred hk.parts.1; omega
      refine ⟨?_, fun r hr => ?_, fun e => by rw [hpf] at e; cases e⟩
      · rw [bl, wt]
        exact fold_len t.kids (allD []) (1, 0) ⟨by decide, by decide⟩ (fun u hu => (hb u hu).len) (Int.le_refl _) h1
      · rw [bl] at hr
        rw [wt]
        exact fold_acts t.kids (allD []) (1, 0) ⟨by decide, by decide⟩ (fun u hu => (hb u hu).acts) (fun r hr => by rw [hall _ r hr]; exact Int.le_refl _) h2 r hr
    rw [if_neg (by omega)] at bl
    rw [if_neg (by omega : ¬ t.kind = 15)] at wt
    by_cases k13 : t.kind = 13
    · rw [if_pos k13] at bl
      rw [if_pos (.inr k13)] at wt
      obtain ⟨u, hu⟩ := kid_of hk (i := 0) (by rw [k13]; decide)
      have hku := hk.kid hu
      rw [k13] at hku
      have hb := ih u (List.mem_of_getElem? hu) true hku (by rw [wt, wNth_get hu] at h1; exact h1) (by rw [weigh_pred hku]; decide)
      rw [nthD_get hu] at bl
      rw [wNth_get hu] at wt
      refine ⟨by rw [bl, wt]; exact hb.len, fun r hr => ?_, fun _ r hr => hb.yn rfl r (by rw [bl] at hr; exact hr)⟩
      rw [bl] at hr
      rw [wt]
      have := yn_one (hb.yn rfl r hr)
      show (r.acts.length : Int) ≤ 1
      omega
    rw [if_neg k13] at bl
    rw [if_neg (by omega), if_neg (by omega), if_neg (by omega)] at wt
    have hpf : t.kind = 14 ∨ t.kind = 16 ∨ t.kind = 17 → pred = false := fun hh => by
      cases pred with
      | false => rfl
      | true => have := fits_pred hk.parts.1; omega
    by_cases k14 : t.kind = 14
    · rw [if_pos k14] at bl
      rw [if_neg (by omega), if_neg (by omega)] at wt
      exact ⟨by rw [bl, wt]; exact Int.le_refl _, fun r hr => by rw [bl] at hr; rw [hall _ r hr, wt]; exact Int.le_refl _, fun e => by rw [hpf (by omega)] at e; cases e⟩
    rw [if_neg k14] at bl
    by_cases k16 : t.kind = 16
    · rw [if_pos k16] at bl wt
      rw [wt] at h1 h2
      have hf := hpf (by omega)
      by_cases h0 : t.kids.length = 0
      · rw [List.length_eq_zero_iff.1 h0] at bl
        rw [if_pos h0] at wt
        refine ⟨by rw [bl, wt]; exact Int.le_refl _, fun r hr => ?_, fun e => by rw [hf] at e; cases e⟩
        rw [bl] at hr
        rw [wt, hall [ac0] r hr]
        exact Int.le_refl _
      · rw [if_neg h0] at wt h1 h2
        obtain ⟨u0, us, hus⟩ := List.exists_cons_of_ne_nil (fun e => h0 (by rw [e]; rfl) : t.kids ≠ [])
        have hp : ∀ u ∈ t.kids, (weighT u).1 ≤ 300 → (weighT u).2 ≤ 64 → BLen false u := fun u hu => by
          obtain ⟨j, _, hj⟩ := hk.mem hu
          rw [k16] at hj
          have e : predK 16 j = false := by unfold predK; exact decide_eq_false (by omega)
          rw [e] at hj
          exact ih u hu false hj
        -- the first one: an act is there
        have hrow : ∀ m, 0 ≤ m → m ≤ 1 → True := fun _ _ _ => trivial
        have key : ((rowD (t.kids.map buildD) (allD [ac0])).length : Int) ≤ (wRow (t.kids.map weighT) (1, 1, 0)).1 ∧ ∀ x ∈ rowD (t.kids.map buildD) (allD [ac0]), (x.acts.length : Int) ≤ (wRow (t.kids.map weighT) (1, 1, 0)).2 := by
          rw [hus] at hp h1 h2 ⊢
          have hw := weighT_ok u0
          have k1 := hw.r
          have k2 := hw.a
          have e : wRow ((u0 :: us).map weighT) (1, 1, 0) = wRow (us.map weighT) (tms 1 (pwr (weighT u0).1 1), tms 1 (weighT u0).2, max 0 (tms 1 (weighT u0).2)) := rfl
          have q3 := pwr_in k1.1 1
          have q4 := tms_in (a := 1) (by decide) q3.1
          have q6 := tms_in0 (a := 1) (by decide) k2.1
          have q7 := wRow_ok (us.map weighT) (tms 1 (pwr (weighT u0).1 1)) (tms 1 (weighT u0).2) (max 0 (tms 1 (weighT u0).2)) (weighM_ok us) q4 q6 (by omega)
          have q8 := pwr_ge k1.1 k1.2 1 (by decide)
          have q9 := tms_right (a := 1) (by decide) (by omega) q3.2
          have q10 := tms_right (a := 1) (by decide) k2.1 k2.2
          rw [e] at h1 h2 ⊢
          have hb := hp u0 (List.mem_cons_self ..) (by omega) (by omega)
          have hns : ¬ silentD (allD [ac0]) := by decide
          have er : rowD ((u0 :: us).map buildD) (allD [ac0]) = rowD (us.map buildD) (behindL (allD [ac0]) (buildD u0)) := by
            show (if silentD (allD [ac0]) then _ else _) = _
            rw [if_neg hns]
          rw [er]
          have hbl := hb.len
          have hq : ((behindL (allD [ac0]) (buildD u0)).length : Int) ≤ tms 1 (pwr (weighT u0).1 1) ∧ ∀ x ∈ behindL (allD [ac0]) (buildD u0), (x.acts.length : Int) ≤ tms 1 (weighT u0).2 := by
            unfold behindL
            cases hc : behindD (buildD u0) (allD [ac0]) pl0 with
            | none => exact ⟨by show (0 : Int) ≤ _; omega, fun x hx => by cases hx⟩
            | some q =>
              have hh := behindD_len (kr := (weighT u0).1.toNat) (ka := (weighT u0).2.toNat) (n := 1) (by omega) (by omega) (fun x hx => by have := hb.acts x hx; omega) (allD [ac0]) pl0 q (fun x hx => by rw [hall _ x hx]; decide) (fun x hx => by cases hx) hc
              obtain ⟨j1, j2, -⟩ := hh
              refine ⟨?_, fun x hx => ?_⟩
              · have j3 : q.out.length ≤ 0 + 1 * (weighT u0).1.toNat ^ 1 := j1
                rw [Nat.pow_one] at j3
                show (q.out.length : Int) ≤ _
                omega
              · have j5 := j2 x hx
                omega
          exact row_len us (behindL (allD [ac0]) (buildD u0)) _ _ _ q4 q6 (by omega) (fun y hy => hp y (List.mem_cons_of_mem _ hy)) hq.1 hq.2 h1 h2
        exact ⟨by rw [bl, wt]; exact key.1, fun r hr => by rw [bl] at hr; rw [wt]; exact key.2 r hr, fun e => by rw [hf] at e; cases e⟩
    rw [if_neg k16] at bl wt
    by_cases k17 : t.kind = 17
    · rw [if_pos k17] at bl wt
      obtain ⟨u0, hu0⟩ := kid_of hk (i := 0) (by rw [k17]; decide)
      obtain ⟨u1, hu1⟩ := kid_of hk (i := 1) (by rw [k17]; decide)
      obtain ⟨u2, hu2⟩ := kid_of hk (i := 2) (by rw [k17]; decide)
      have o0 := hk.kid hu0
      have o1 := hk.kid hu1
      have o2 := hk.kid hu2
      rw [k17] at o0 o1 o2
      rw [nthD_get hu0, nthD_get hu1, nthD_get hu2] at bl
      rw [wNth_get hu0, wNth_get hu1, wNth_get hu2] at wt
      rw [wt] at h1 h2
      dsimp only at h1 h2
      have w0 := weighT_ok u0
      have w1 := weighT_ok u1
      have w2 := weighT_ok u2
      have a0 := w0.r
      have a1 := w1.r
      have a2 := w2.r
      have hm : 1 ≤ max (weighT u1).1 (weighT u2).1 ∧ max (weighT u1).1 (weighT u2).1 ≤ 4097 := by omega
      have t1 := tms_left (by omega) a0.2 hm.1
      have t2 := tms_right a0.1 (by omega) hm.2
      have b0 := ih u0 (List.mem_of_getElem? hu0) true o0 (by omega) (by rw [weigh_pred o0]; decide)
      have b1 := ih u1 (List.mem_of_getElem? hu1) false o1 (by omega) (by omega)
      have b2 := ih u2 (List.mem_of_getElem? hu2) false o2 (by omega) (by omega)
      have l0 := b0.len
      have l1 := b1.len
      have l2 := b2.len
      have hx := ifD_len (yes := buildD u1) (no := buildD u2) (n := (max (weighT u1).2 (weighT u2).2).toNat) (k := (max (weighT u1).1 (weighT u2).1).toNat) (by omega) (by omega) (fun s hs => by have := b1.acts s hs; omega) (fun s hs => by have := b2.acts s hs; omega) (buildD u0) pl0 (fun x hx => by cases hx)
      have ha1 := w1.a
      have ha2 := w2.a
      refine ⟨?_, fun r hr => ?_, fun e => by rw [hpf (by omega)] at e; cases e⟩
      · rw [bl, wt]
        show _ ≤ tms (weighT u0).1 (max (weighT u1).1 (weighT u2).1)
        rw [tms_eq (by omega)]
        have h3 := hx.1
        have e0 : pl0.out.length = 0 := rfl
        have h4 : (((buildD u0).length * (max (weighT u1).1 (weighT u2).1).toNat : Nat) : Int) ≤ (weighT u0).1 * max (weighT u1).1 (weighT u2).1 := by
          rw [Int.natCast_mul, Int.toNat_of_nonneg (by omega)]
          exact Int.mul_le_mul_of_nonneg_right l0 (by omega)
        omega
      · rw [bl] at hr
        rw [wt]
        have := hx.2 r hr
        show (r.acts.length : Int) ≤ max (weighT u1).2 (weighT u2).2
        omega
    rw [if_neg k17] at bl wt
    exact ⟨by rw [bl, wt]; exact Int.le_refl _, fun r hr => by rw [bl] at hr; rw [hall _ r hr, wt]; exact Int.le_refl _, fun _ r hr => by rw [bl] at hr; rw [hall _ r hr]; exact .inr rfl⟩
end Go.Proofs.YtmhahajadgkolaaGreatDoor
/- join: weigh. -/
namespace Go.Proofs.YtmhahajadgkolaaGreatDoor
open Go.RowKit

theorem mul_in {a b : Int} (ha : 0 ≤ a ∧ a ≤ 4097) (hb : 0 ≤ b ∧ b ≤ 4097) : 0 ≤ a * b ∧ a * b ≤ 16785409 := by
  have h1 := Int.mul_nonneg ha.1 hb.1
  have h2 := Int.mul_le_mul ha.2 hb.2 hb.1 (by omega)
  omega
theorem times_c (w : World) (a b : Int) (ha : 0 ≤ a ∧ a ≤ 4097) (hb : 0 ≤ b ∧ b ≤ 4097) : Calls Tryz.prog 166 #[.int .i64 a, .int .i64 b] w fun e w' => e = .returned (.int .i64 (tms a b)) ∧ Frm (fun _ => False) w w' := by
  have hm := mul_in ha hb
  refine enter Tryz.func166 rfl Tryz.ntmps166 rfl (St.start (fun _ => False) w) ?_
  refine WC.seq <| WC.region <| WL.v (v_assign rfl rfl) rfl <| WL.nt <| WC.seq <| WC.region <| WL.v (v_move rfl rfl) rfl <| WL.v (v_move rfl rfl) rfl <| ?_
  refine WL.v (v_mul rfl rfl rfl (w_i64 (by omega) (by omega))) rfl ?_
  refine WL.v (v_min rfl rfl rfl) rfl <| WL.v (v_assign rfl rfl) rfl <| WL.nt <| WC.ret <| WE.ret1 (P := Tryz.prog) (.inl rfl) Tryz.results166 rfl <| ?_
  exact fun w' h => ⟨rfl, h.frm⟩
theorem power_c (w : World) (b : Int) (n : Nat) (hb : 1 ≤ b ∧ b ≤ 4097) (hn : n ≤ 4097) : Calls Tryz.prog 246 #[.int .i64 b, .int .i64 n] w fun e w' => e = .returned (.int .i64 (pwr b n)) ∧ Frm (fun _ => False) w w' := by
  refine enter Tryz.func246 rfl Tryz.ntmps246 rfl (St.start (fun _ => False) w) ?_
  refine WC.seq <| WC.region <| WL.v (v_assign rfl rfl) rfl <| WL.nt <| WC.seq <| WC.region <| WL.v (v_assign rfl rfl) rfl <| WL.nt <| WC.seq <| WC.seq <| WC.region <| WL.v (v_move rfl rfl) rfl <| ?_
  refine WL.test (v_leq rfl rfl rfl) (.none rfl) rfl rfl (fun h8 => ?_) (fun h8 => ?_)
  ·
   refine WL.nt <| WC.cond_t rfl <| WC.seq <| WC.region <| WL.v (v_move rfl rfl) rfl <| WL.v (v_assign rfl rfl) rfl <| WL.nt <| WC.ret <| WE.then_ret <| WE.ret1 (P := Tryz.prog) (.inl rfl) Tryz.results246 rfl <| ?_
   obtain rfl : b = 1 := (by omega)
   exact fun w' h => ⟨by rw [pwr_one], h.frm⟩
  ·
   refine WL.nt <| WC.cond_f rfl <| WC.skip <| WE.then_n <| WC.seq <| WC.seq <| WC.region <| WL.v (v_assign rfl rfl) rfl <| WL.nt <| WC.block <| WC.loop (fun i : Nat => [(6, .int .i64 i), (5, .int .i64 (pwr b i)), (0, .int .i64 b), (1, .int .i64 n)]) (fun _ => []) (fun i => i ≤ n) (fun i => n - i) 0 (Nat.zero_le _) (.cons rfl (.cons rfl (.cons rfl (.cons rfl .nil)))) (.refl _) <| ?_
   intro i hi
   have hp := pwr_in hb.1 i
   refine WC.seq <| WC.seq <| WC.region <| WL.v (v_move rfl rfl) rfl <| WL.v (v_move rfl rfl) rfl <| ?_
   refine WL.test (v_lss rfl rfl rfl) (.none rfl) rfl rfl (fun h12 => ?_) (fun h12 => ?_)
   ·
    refine WL.v (v_move rfl rfl) rfl <| WL.val (v_move rfl rfl) (.some rfl rfl rfl) rfl rfl <| ?_
    refine WL.test (v_lss rfl rfl rfl) (.some rfl rfl rfl) rfl rfl (fun h15 => ?_) (fun h15 => ?_)
    ·
     refine WL.v (v_pick_t rfl rfl rfl) rfl <| WL.nt <| WC.cond_t rfl <| WC.skip <| WE.then_n <| WC.seq <| WC.block <| WC.region <| WL.v (v_move rfl rfl) rfl <| WL.v (v_move rfl rfl) rfl <| WL.call rfl rfl ck_166 (.none rfl) rfl rfl <| ?_
     intro w hS
     refine Calls.then (times_c w (pwr b i) b (by omega) (by omega)) hS ?_
     refine WL.v (v_assign rfl rfl) rfl <| WL.nil <| WE.block_n <| WE.then_n <| WC.region <| WL.v (v_move rfl rfl) rfl <| ?_
     refine WL.v (v_add rfl rfl rfl (w_i64 (by omega) (by omega))) rfl ?_
     refine WL.v (v_assign rfl rfl) rfl <| WL.nil <| ?_
     exact WE.next (i + 1) (by omega) (by omega) (.int rfl (by omega) (.cons rfl (.cons rfl (.cons rfl .nil)))) (.refl _)
    ·
     refine WL.v (v_pick_t rfl rfl rfl) rfl <| WL.nt <| WC.cond_f rfl <| WC.exit <| WE.then_exit <| WE.then_exit <| WE.block_hit <| WE.then_n <| WC.seq <| WC.region <| WL.v (v_move rfl rfl) rfl <| WL.v (v_assign rfl rfl) rfl <| WL.nt <| WC.ret <| ?_
     refine WE.ret1 (P := Tryz.prog) (.inl rfl) Tryz.results246 rfl ?_
     have := pwr_full hb.1 (n := i) (by omega) (n - i)
     rw [show i + (n - i) = n by omega] at this
     exact fun w' h => ⟨by rw [this, show pwr b i = 4097 by omega], h.frm⟩
   ·
    refine WL.v (v_move rfl rfl) rfl ?_
    iterate 2 refine WL.sk rfl ?_
    refine WL.v (v_pick_f rfl rfl rfl) rfl <| WL.nt <| WC.cond_f rfl <| WC.exit <| WE.then_exit <| WE.then_exit <| WE.block_hit <| WE.then_n <| WC.seq <| WC.region <| WL.v (v_move rfl rfl) rfl <| WL.v (v_assign rfl rfl) rfl <| WL.nt <| WC.ret <| ?_
    refine WE.ret1 (P := Tryz.prog) (.inl rfl) Tryz.results246 rfl ?_
    obtain rfl : i = n := (by omega)
    exact fun w' h => ⟨rfl, h.frm⟩
def WgTo (N : Nat) : Prop := ∀ (t : Nd), SizeOf.sizeOf t ≤ N → ∀ (w : World) (pred : Bool), okT pred t → t.In → t.At w →
  Calls Tryz.prog 87 #[ndV t] w fun e w' => e = .returned (.tuple #[.int .i64 (weighT t).1, .int .i64 (weighT t).2]) ∧ Frm (fun _ => False) w w'
theorem weighAll_c (N : Nat) (ih : WgTo N) (t : Nd) (hN : SizeOf.sizeOf t ≤ N + 1) (w : World) (pred : Bool) (hk : okT pred t) (hI : t.In) (hA : t.At w) :
    Calls Tryz.prog 164 #[.slice t.ad t.kids.length t.cap] w fun e w' => e = .returned (.tuple #[.int .i64 (wAll (t.kids.map weighT) (1, 0)).1, .int .i64 (wAll (t.kids.map weighT) (1, 0)).2]) ∧ Frm (fun _ => False) w w' := by
  have hlen := hI.nums.2.2.2.2
  generalize hC : wAll (t.kids.map weighT) (1, 0) = C
  refine enter Tryz.func164 rfl Tryz.ntmps164 rfl (St.start (fun _ => False) w) ?_
  refine WC.seq <| WC.region <| WL.v (v_assign rfl rfl) rfl <| WL.v (v_assign rfl rfl) rfl <| WL.nt <| WC.seq <| WC.region <| WL.v (v_assign rfl rfl) rfl <| WL.v (v_assign rfl rfl) rfl <| WL.nt <| WC.seq <| WC.seq <| WC.region <| WL.v (v_move rfl rfl) rfl <| ?_
  refine WL.v (v_len_slice rfl rfl Tryz.underlying24) rfl <| WL.v (v_move rfl rfl) rfl <| WL.nt <| WC.block <| ?_
  refine WC.loop (fun x : Nat × Int × Int => [(12, .int .i64 x.1), (11, .int .i64 t.kids.length), (10, .slice t.ad t.kids.length t.cap), (4, .int .i64 x.2.1), (5, .int .i64 x.2.2)]) (fun _ => []) (fun x => x.1 ≤ t.kids.length ∧ WOk x.2 ∧ wAll ((t.kids.drop x.1).map weighT) x.2 = C) (fun x => t.kids.length - x.1) (0, 1, 0) ⟨Nat.zero_le _, ⟨by decide, by decide⟩, by dsimp only; rw [List.drop_zero]; exact hC⟩ (.cons rfl (.cons rfl (.cons rfl (.cons rfl (.cons rfl .nil))))) (.refl _) ?_
  rintro ⟨k, r, a⟩ ⟨hk', hw, hc⟩
  dsimp only at hk' hc
  dsimp only
  have hwr := hw.r
  have hwa := hw.a
  dsimp only at hwr hwa
  refine WC.seq <| WC.region <| ?_
  refine WL.test (v_lss rfl rfl rfl) (.none rfl) rfl rfl (fun h13 => ?_) (fun h13 => ?_)
  ·
   refine WL.nt <| WC.seq <| WC.cond_t rfl <| WC.skip <| WE.then_n <| WC.seq <| WC.block <| WC.seq <| WC.region <| ?_
   obtain ⟨u, hu⟩ : ∃ u, t.kids[k]? = some u := ⟨t.kids[k]'(by omega), List.getElem?_eq_getElem _⟩
   obtain ⟨b, o, ea, _⟩ := (hA.kid hu).1
   have hu2 := weighT_ok u
   have hur := hu2.r
   have hua := hu2.a
   rw [drop_cons hu, List.map_cons, wAll] at hc
   refine WL.v (v_indexAddr (b := b) (off := o) (lo := k) rfl (by show some (Value.slice t.ad _ _) = _; rw [ea]) rfl Tryz.underlying24 sz_26 rfl (by omega)) rfl ?_
   refine WL.v (v_loadN (cs := ndL u) rfl rfl many_26 rfl (rangeIn (fun h => h) (hA.kidAt hu ea))) rfl <| WL.alloc rfl zero_26 (.none rfl) rfl rfl <| ?_
   intro g7 hg7
   refine WL.storeW rfl rfl rfl rfl many_26 rfl rfl (.none rfl) rfl <| WL.nt <| WC.seq <| WC.region <| WL.v (v_loadN rfl rfl many_26 rfl allAt) rfl <| WL.call rfl rfl ck_87 (.none rfl) rfl rfl <| ?_
   intro w hS
   refine Calls.then (ih u (Nd.kidN hN hu) w _ (hk.kid hu) (hI.kids.get _ _ _ hu) ((hA.kid hu).2.st (fun _ h => h) hS)) hS ?_
   refine WL.v (v_move rfl rfl) rfl <| WL.v (v_extract rfl rfl rfl) rfl <| WL.v (v_extract rfl rfl rfl) rfl <| WL.v (v_assign rfl rfl) rfl <| WL.v (v_assign rfl rfl) rfl <| WL.nt <| WC.seq <| WC.region <| WL.v (v_move rfl rfl) rfl <| WL.v (v_move rfl rfl) rfl <| WL.call rfl rfl ck_166 (.none rfl) rfl rfl <| ?_
   intro w hS
   refine Calls.then (times_c w r (weighT u).1 (by omega) (by omega)) hS ?_
   refine WL.v (v_assign rfl rfl) rfl <| WL.nt <| WC.region <| WL.v (v_move rfl rfl) rfl <| WL.v (v_move rfl rfl) rfl <| ?_
   refine WL.v (v_add rfl rfl rfl (w_i64 (by omega) (by omega))) rfl ?_
   refine WL.v (v_min rfl rfl rfl) rfl <| WL.v (v_assign rfl rfl) rfl <| WL.nil <| WE.block_n <| WE.then_n <| WC.region <| ?_
   refine WL.v (v_add rfl rfl rfl (w_i64 (by omega) (by omega))) rfl ?_
   refine WL.v (v_move rfl rfl) rfl <| WL.nil <| ?_
   exact WE.next (k + 1, tms r (weighT u).1, min (a + (weighT u).2) 4097) (by dsimp only; omega) ⟨by dsimp only; omega, ⟨tms_in hwr.1 hur.1, by dsimp only; omega⟩, hc⟩ (.int rfl (by dsimp only; omega) (.cons rfl (.cons rfl (.cons rfl (.cons rfl .nil))))) (.cons _ (.refl _))
  ·
   refine WL.nt <| WC.seq <| WC.cond_f rfl <| WC.exit <| WE.then_exit <| WE.then_exit <| WE.block_hit <| WE.then_n <| WC.seq <| WC.region <| WL.v (v_move rfl rfl) rfl <| WL.v (v_move rfl rfl) rfl <| WL.v (v_assign rfl rfl) rfl <| WL.v (v_assign rfl rfl) rfl <| ?_
   refine WL.nt <| WC.ret <| WE.ret2 (P := Tryz.prog) (.inl rfl) Tryz.results164 rfl rfl <| ?_
   obtain rfl : k = t.kids.length := (by omega)
   rw [List.drop_length] at hc
   exact fun w' h => ⟨by rw [← hc]; rfl, h.frm⟩
theorem weighRow_c (N : Nat) (ih : WgTo N) (t : Nd) (hN : SizeOf.sizeOf t ≤ N + 1) (w : World) (pred : Bool) (hk : okT pred t) (hI : t.In) (hA : t.At w) :
    Calls Tryz.prog 165 #[.slice t.ad t.kids.length t.cap] w fun e w' => e = .returned (.tuple #[.int .i64 (if t.kids.length = 0 then (1, 1) else wRow (t.kids.map weighT) (1, 1, 0)).1, .int .i64 (if t.kids.length = 0 then (1, 1) else wRow (t.kids.map weighT) (1, 1, 0)).2]) ∧ Frm (fun _ => False) w w' := by
  have hlen := hI.nums.2.2.2.2
  generalize hC : wRow (t.kids.map weighT) (1, 1, 0) = C
  refine enter Tryz.func165 rfl Tryz.ntmps165 rfl (St.start (fun _ => False) w) ?_
  refine WC.seq <| WC.region <| WL.v (v_assign rfl rfl) rfl <| WL.v (v_assign rfl rfl) rfl <| WL.nt <| WC.seq <| WC.seq <| WC.region <| WL.v (v_move rfl rfl) rfl <| WL.v (v_len_slice rfl rfl Tryz.underlying24) rfl <| ?_
  refine WL.test (v_eql rfl rfl rfl) (.none rfl) rfl rfl (fun h13 => ?_) (fun h13 => ?_)
  ·
   refine WL.nt <| WC.cond_t rfl <| WC.seq <| WC.region <| WL.v (v_assign rfl rfl) rfl <| WL.v (v_assign rfl rfl) rfl <| WL.nt <| WC.ret <| WE.then_ret <| WE.ret2 (P := Tryz.prog) (.inl rfl) Tryz.results165 rfl rfl <| ?_
   exact fun w' h => ⟨by rw [if_pos (by omega)], h.frm⟩
  ·
   refine WL.nt <| WC.cond_f rfl <| WC.skip <| WE.then_n <| WC.seq <| WC.region <| WL.v (v_assign rfl rfl) rfl <| WL.v (v_assign rfl rfl) rfl <| WL.v (v_assign rfl rfl) rfl <| WL.nt <| WC.seq <| WC.seq <| WC.region <| WL.v (v_move rfl rfl) rfl <| ?_
   refine WL.v (v_len_slice rfl rfl Tryz.underlying24) rfl <| WL.v (v_move rfl rfl) rfl <| WL.nt <| WC.block <| ?_
   refine WC.loop (fun x : Nat × Int × Int × Int => [(16, .int .i64 x.1), (15, .int .i64 t.kids.length), (14, .slice t.ad t.kids.length t.cap), (4, .int .i64 x.2.1), (5, .int .i64 x.2.2.1), (6, .int .i64 x.2.2.2)]) (fun _ => []) (fun x => x.1 ≤ t.kids.length ∧ (1 ≤ x.2.1 ∧ x.2.1 ≤ 4097) ∧ (0 ≤ x.2.2.1 ∧ x.2.2.1 ≤ 4097) ∧ wRow ((t.kids.drop x.1).map weighT) x.2 = C) (fun x => t.kids.length - x.1) (0, 1, 1, 0) ⟨Nat.zero_le _, by decide, by decide, by dsimp only; rw [List.drop_zero]; exact hC⟩ (.cons rfl (.cons rfl (.cons rfl (.cons rfl (.cons rfl (.cons rfl .nil)))))) (.refl _) ?_
   rintro ⟨k, r, a, m⟩ ⟨hk', hwr, hwa, hc⟩
   dsimp only at hk' hwr hwa hc
   dsimp only
   refine WC.seq <| WC.region <| ?_
   refine WL.test (v_lss rfl rfl rfl) (.none rfl) rfl rfl (fun h17 => ?_) (fun h17 => ?_)
   ·
    refine WL.nt <| WC.seq <| WC.cond_t rfl <| WC.skip <| WE.then_n <| WC.seq <| WC.block <| WC.seq <| WC.region <| ?_
    obtain ⟨u, hu⟩ : ∃ u, t.kids[k]? = some u := ⟨t.kids[k]'(by omega), List.getElem?_eq_getElem _⟩
    obtain ⟨b, o, ea, _⟩ := (hA.kid hu).1
    have hu2 := weighT_ok u
    have hur := hu2.r
    have hua := hu2.a
    have hpw := pwr_in hur.1 a.toNat
    rw [drop_cons hu, List.map_cons, wRow] at hc
    refine WL.v (v_indexAddr (b := b) (off := o) (lo := k) rfl (by show some (Value.slice t.ad _ _) = _; rw [ea]) rfl Tryz.underlying24 sz_26 rfl (by omega)) rfl ?_
    refine WL.v (v_loadN (cs := ndL u) rfl rfl many_26 rfl (rangeIn (fun h => h) (hA.kidAt hu ea))) rfl <| WL.alloc rfl zero_26 (.none rfl) rfl rfl <| ?_
    intro g8 hg8
    refine WL.storeW rfl rfl rfl rfl many_26 rfl rfl (.none rfl) rfl <| WL.nt <| WC.seq <| WC.region <| WL.v (v_loadN rfl rfl many_26 rfl allAt) rfl <| WL.call rfl rfl ck_87 (.none rfl) rfl rfl <| ?_
    intro w hS
    refine Calls.then (ih u (Nd.kidN hN hu) w _ (hk.kid hu) (hI.kids.get _ _ _ hu) ((hA.kid hu).2.st (fun _ h => h) hS)) hS ?_
    refine WL.v (v_move rfl rfl) rfl <| WL.v (v_extract rfl rfl rfl) rfl <| WL.v (v_extract rfl rfl rfl) rfl <| WL.v (v_assign rfl rfl) rfl <| WL.v (v_assign rfl rfl) rfl <| WL.nt <| WC.seq <| WC.region <| WL.v (v_move rfl rfl) rfl <| WL.v (v_move rfl rfl) rfl <| WL.v (v_move rfl rfl) rfl <| WL.call rfl rfl ck_246 (.none rfl) rfl rfl <| ?_
    intro w hS
    refine Calls.then ((by have := power_c w (weighT u).1 a.toNat hur (by omega); rwa [Int.toNat_of_nonneg hwa.1] at this)) hS ?_
    refine WL.call rfl rfl ck_166 (.none rfl) rfl rfl ?_
    intro w hS
    refine Calls.then (times_c w r (pwr (weighT u).1 a.toNat) (by omega) (by omega)) hS ?_
    refine WL.v (v_assign rfl rfl) rfl <| WL.nt <| WC.seq <| WC.region <| WL.v (v_move rfl rfl) rfl <| WL.v (v_move rfl rfl) rfl <| WL.call rfl rfl ck_166 (.none rfl) rfl rfl <| ?_
    intro w hS
    refine Calls.then (times_c w a (weighT u).2 (by omega) (by omega)) hS ?_
    refine WL.v (v_assign rfl rfl) rfl <| WL.nt <| WC.region <| WL.v (v_move rfl rfl) rfl <| WL.v (v_move rfl rfl) rfl <| WL.v (v_max rfl rfl rfl) rfl <| WL.v (v_assign rfl rfl) rfl <| WL.nil <| WE.block_n <| WE.then_n <| WC.region <| ?_
    refine WL.v (v_add rfl rfl rfl (w_i64 (by omega) (by omega))) rfl ?_
    refine WL.v (v_move rfl rfl) rfl <| WL.nil <| ?_
    exact WE.next (k + 1, tms r (pwr (weighT u).1 a.toNat), tms a (weighT u).2, max m (tms a (weighT u).2)) (by dsimp only; omega) ⟨by dsimp only; omega, tms_in hwr.1 hpw.1, tms_in0 hwa.1 hua.1, hc⟩ (.int rfl (by dsimp only; omega) (.cons rfl (.cons rfl (.cons rfl (.cons rfl (.cons rfl .nil)))))) (.cons _ (.refl _))
   ·
    refine WL.nt <| WC.seq <| WC.cond_f rfl <| WC.exit <| WE.then_exit <| WE.then_exit <| WE.block_hit <| WE.then_n <| WC.seq <| WC.region <| WL.v (v_move rfl rfl) rfl <| WL.v (v_move rfl rfl) rfl <| WL.v (v_assign rfl rfl) rfl <| WL.v (v_assign rfl rfl) rfl <| ?_
    refine WL.nt <| WC.ret <| WE.ret2 (P := Tryz.prog) (.inl rfl) Tryz.results165 rfl rfl <| ?_
    obtain rfl : k = t.kids.length := (by omega)
    rw [List.drop_length] at hc
    exact fun w' h => ⟨by rw [if_neg (by omega), ← hc]; rfl, h.frm⟩
set_option maxHeartbeats 4000000 in
theorem weigh_step (N : Nat) (ih : WgTo N) : WgTo (N + 1) := by
  intro t hN w pred hk hI hA
  have hlen := hI.nums.2.2.2.2
  have hw := weighT_eq t
  have kid : ∀ i : Nat, (i : Int) < leastK t.kind → ∃ u b o, t.kids[i]? = some u ∧ t.ad = some ⟨b, o, none⟩ ∧ w.rangeAt b (o + i * 5) (ndL u) := fun i hi => by
    obtain ⟨u, hu⟩ := kid_of hk hi
    obtain ⟨b, o, ea, hr⟩ := (hA.kid hu).1
    exact ⟨u, b, o, hu, ea, hr⟩
  refine enter Tryz.func87 rfl Tryz.ntmps87 rfl (St.start (fun _ => False) w) ?_
  refine WC.seq <| WC.region <| WL.box rfl rfl rfl (.none rfl) rfl rfl <| ?_
  intro g1 hg1
  refine WL.v (v_assign rfl rfl) rfl <| WL.v (v_assign rfl rfl) rfl <| WL.nt <| WC.seq <| WC.seq <| WC.region <| WL.v (v_fieldAddr0 rfl rfl fld_26_0) rfl <| WL.v (v_load1 rfl rfl one_3 (cellAt rfl)) rfl <| WL.nt <| WC.block <| WC.seq <| WC.region <| ?_
  refine WL.test (v_eql rfl rfl rfl) (.none rfl) rfl rfl (fun h17 => ?_) (fun h17 => ?_)
  ·
   refine WL.v (v_assign rfl rfl) rfl <| WL.nt <| WC.cond_t rfl <| WC.seq <| WC.region <| WL.v (v_assign rfl rfl) rfl <| WL.v (v_assign rfl rfl) rfl <| WL.nt <| WC.ret <| WE.block_ret <| WE.then_ret <| WE.ret2 (P := Tryz.prog) (.inl rfl) Tryz.results87 rfl rfl <| ?_
   rw [if_pos h17] at hw
   exact fun w' h => ⟨by rw [hw], h.frm⟩
  ·
   refine WL.v (v_assign rfl rfl) rfl <| WL.nt <| WC.cond_f rfl <| WC.seq <| WC.seq <| WC.region <| ?_
   refine WL.test (v_eql rfl rfl rfl) (.none rfl) rfl rfl (fun h19 => ?_) (fun h19 => ?_)
   ·
    refine WL.v (v_assign rfl rfl) rfl <| WL.nt <| WC.cond_t rfl <| WC.skip <| WE.then_n <| WC.cond_t rfl <| WC.seq <| WC.region <| WL.v (v_fieldAddr0 rfl rfl fld_26_4) rfl <| WL.v (v_load1 rfl rfl one_24 (cellAt rfl)) rfl <| ?_
    obtain ⟨u, b, o, hu, ea, hr⟩ := kid 0 (by first | (rw [show t.kind = 4 from h19]; decide) | (rw [show t.kind = 13 from h20]; decide))
    have hlt := (List.getElem?_eq_some_iff.1 hu).1
    rw [if_neg (by omega), if_pos (by omega), wNth_get hu] at hw
    refine WL.v (v_indexAddr (b := b) (off := o) (lo := 0) rfl (by show some (Value.slice t.ad _ _) = _; rw [ea]) rfl Tryz.underlying24 sz_26 rfl (by omega)) rfl ?_
    refine WL.v (v_loadN (cs := ndL u) rfl rfl many_26 rfl (rangeIn (fun h => h) hr)) rfl <| WL.call rfl rfl ck_87 (.none rfl) rfl rfl <| ?_
    intro w hS
    refine Calls.then (ih u (Nd.kidN hN hu) w _ (hk.kid hu) (hI.kids.get _ _ _ hu) ((hA.kid hu).2.st (fun _ h => h) hS)) hS ?_
    refine WL.v (v_move rfl rfl) rfl <| WL.v (v_extract rfl rfl rfl) rfl <| WL.v (v_extract rfl rfl rfl) rfl <| WL.v (v_assign rfl rfl) rfl <| WL.v (v_assign rfl rfl) rfl <| WL.nt <| WC.seq <| WC.region <| WL.v (v_move rfl rfl) rfl <| WL.v (v_assign rfl rfl) rfl <| WL.v (v_assign rfl rfl) rfl <| WL.nt <| WC.ret <| WE.block_ret <| ?_
    refine WE.then_ret <| WE.ret2 (P := Tryz.prog) (.inl rfl) Tryz.results87 rfl rfl <| ?_
    exact fun w' h => ⟨by rw [hw], h.frm⟩
   ·
    refine WL.v (v_assign rfl rfl) rfl <| WL.nt <| WC.cond_f rfl <| WC.region <| ?_
    refine WL.test (v_eql rfl rfl rfl) (.none rfl) rfl rfl (fun h20 => ?_) (fun h20 => ?_)
    ·
     refine WL.v (v_assign rfl rfl) rfl <| WL.nt <| WC.cond_t rfl <| WC.seq <| WC.region <| WL.v (v_fieldAddr0 rfl rfl fld_26_4) rfl <| WL.v (v_load1 rfl rfl one_24 (cellAt rfl)) rfl <| ?_
     obtain ⟨u, b, o, hu, ea, hr⟩ := kid 0 (by first | (rw [show t.kind = 4 from h19]; decide) | (rw [show t.kind = 13 from h20]; decide))
     have hlt := (List.getElem?_eq_some_iff.1 hu).1
     rw [if_neg (by omega), if_pos (by omega), wNth_get hu] at hw
     refine WL.v (v_indexAddr (b := b) (off := o) (lo := 0) rfl (by show some (Value.slice t.ad _ _) = _; rw [ea]) rfl Tryz.underlying24 sz_26 rfl (by omega)) rfl ?_
     refine WL.v (v_loadN (cs := ndL u) rfl rfl many_26 rfl (rangeIn (fun h => h) hr)) rfl <| WL.call rfl rfl ck_87 (.none rfl) rfl rfl <| ?_
     intro w hS
     refine Calls.then (ih u (Nd.kidN hN hu) w _ (hk.kid hu) (hI.kids.get _ _ _ hu) ((hA.kid hu).2.st (fun _ h => h) hS)) hS ?_
     refine WL.v (v_move rfl rfl) rfl <| WL.v (v_extract rfl rfl rfl) rfl <| WL.v (v_extract rfl rfl rfl) rfl <| WL.v (v_assign rfl rfl) rfl <| WL.v (v_assign rfl rfl) rfl <| WL.nt <| WC.seq <| WC.region <| WL.v (v_move rfl rfl) rfl <| WL.v (v_assign rfl rfl) rfl <| WL.v (v_assign rfl rfl) rfl <| WL.nt <| WC.ret <| WE.block_ret <| ?_
     refine WE.then_ret <| WE.ret2 (P := Tryz.prog) (.inl rfl) Tryz.results87 rfl rfl <| ?_
     exact fun w' h => ⟨by rw [hw], h.frm⟩
    ·
     refine WL.v (v_assign rfl rfl) rfl <| WL.nt <| WC.cond_f rfl <| WC.seq <| WC.seq <| WC.region <| ?_
     refine WL.test (v_eql rfl rfl rfl) (.none rfl) rfl rfl (fun h31 => ?_) (fun h31 => ?_)
     ·
      refine WL.v (v_assign rfl rfl) rfl <| WL.nt <| WC.cond_t rfl <| WC.skip <| WE.then_n <| WC.cond_t rfl <| WC.seq <| WC.region <| WL.v (v_fieldAddr0 rfl rfl fld_26_4) rfl <| WL.v (v_load1 rfl rfl one_24 (cellAt rfl)) rfl <| ?_
      rw [if_neg (by omega), if_neg (by omega), if_pos (by omega)] at hw
      refine WL.call rfl rfl ck_164 (.none rfl) rfl rfl ?_
      intro w hS
      refine Calls.then (weighAll_c N ih t hN w pred hk hI (hA.st (fun _ h => h) hS)) hS ?_
      refine WL.v (v_move rfl rfl) rfl <| WL.v (v_extract rfl rfl rfl) rfl <| WL.v (v_extract rfl rfl rfl) rfl <| WL.v (v_assign rfl rfl) rfl <| WL.v (v_assign rfl rfl) rfl <| WL.nt <| WC.seq <| WC.region <| WL.v (v_move rfl rfl) rfl <| WL.v (v_assign rfl rfl) rfl <| WL.v (v_assign rfl rfl) rfl <| WL.nt <| WC.ret <| WE.block_ret <| ?_
      refine WE.then_ret <| WE.ret2 (P := Tryz.prog) (.inl rfl) Tryz.results87 rfl rfl <| ?_
      exact fun w' h => ⟨by rw [hw], h.frm⟩
     ·
      refine WL.v (v_assign rfl rfl) rfl <| WL.nt <| WC.cond_f rfl <| WC.region <| ?_
      refine WL.test (v_eql rfl rfl rfl) (.none rfl) rfl rfl (fun h32 => ?_) (fun h32 => ?_)
      ·
       refine WL.v (v_assign rfl rfl) rfl <| WL.nt <| WC.cond_t rfl <| WC.seq <| WC.region <| WL.v (v_fieldAddr0 rfl rfl fld_26_4) rfl <| WL.v (v_load1 rfl rfl one_24 (cellAt rfl)) rfl <| ?_
       rw [if_neg (by omega), if_neg (by omega), if_pos (by omega)] at hw
       refine WL.call rfl rfl ck_164 (.none rfl) rfl rfl ?_
       intro w hS
       refine Calls.then (weighAll_c N ih t hN w pred hk hI (hA.st (fun _ h => h) hS)) hS ?_
       refine WL.v (v_move rfl rfl) rfl <| WL.v (v_extract rfl rfl rfl) rfl <| WL.v (v_extract rfl rfl rfl) rfl <| WL.v (v_assign rfl rfl) rfl <| WL.v (v_assign rfl rfl) rfl <| WL.nt <| WC.seq <| WC.region <| WL.v (v_move rfl rfl) rfl <| WL.v (v_assign rfl rfl) rfl <| WL.v (v_assign rfl rfl) rfl <| WL.nt <| WC.ret <| WE.block_ret <| ?_
       refine WE.then_ret <| WE.ret2 (P := Tryz.prog) (.inl rfl) Tryz.results87 rfl rfl <| ?_
       exact fun w' h => ⟨by rw [hw], h.frm⟩
      ·
       refine WL.v (v_assign rfl rfl) rfl <| WL.nt <| WC.cond_f rfl <| WC.seq <| WC.region <| ?_
       refine WL.test (v_eql rfl rfl rfl) (.none rfl) rfl rfl (fun h41 => ?_) (fun h41 => ?_)
       ·
        refine WL.v (v_assign rfl rfl) rfl <| WL.nt <| WC.cond_t rfl <| WC.seq <| WC.region <| WL.v (v_assign rfl rfl) rfl <| WL.v (v_assign rfl rfl) rfl <| WL.nt <| WC.ret <| WE.block_ret <| WE.then_ret <| WE.ret2 (P := Tryz.prog) (.inl rfl) Tryz.results87 rfl rfl <| ?_
        rw [if_neg (by omega), if_neg (by omega), if_neg (by omega), if_pos h41] at hw
        exact fun w' h => ⟨by rw [hw], h.frm⟩
       ·
        refine WL.v (v_assign rfl rfl) rfl <| WL.nt <| WC.cond_f rfl <| WC.seq <| WC.region <| ?_
        refine WL.test (v_eql rfl rfl rfl) (.none rfl) rfl rfl (fun h43 => ?_) (fun h43 => ?_)
        ·
         refine WL.v (v_assign rfl rfl) rfl <| WL.nt <| WC.cond_t rfl <| WC.seq <| WC.region <| WL.v (v_fieldAddr0 rfl rfl fld_26_4) rfl <| WL.v (v_load1 rfl rfl one_24 (cellAt rfl)) rfl <| ?_
         rw [if_neg (by omega), if_neg (by omega), if_neg (by omega), if_neg (by omega), if_pos h43] at hw
         refine WL.call rfl rfl ck_164 (.none rfl) rfl rfl ?_
         intro w hS
         refine Calls.then (weighAll_c N ih t hN w pred hk hI (hA.st (fun _ h => h) hS)) hS ?_
         refine WL.v (v_extract rfl rfl rfl) rfl <| WL.v (v_extract rfl rfl rfl) rfl <| WL.v (v_assign rfl rfl) rfl <| WL.v (v_assign rfl rfl) rfl <| WL.nt <| WC.ret <| WE.block_ret <| WE.then_ret <| WE.ret2 (P := Tryz.prog) (.inl rfl) Tryz.results87 rfl rfl <| ?_
         exact fun w' h => ⟨by rw [hw], h.frm⟩
        ·
         refine WL.v (v_assign rfl rfl) rfl <| WL.nt <| WC.cond_f rfl <| WC.seq <| WC.region <| ?_
         refine WL.test (v_eql rfl rfl rfl) (.none rfl) rfl rfl (fun h50 => ?_) (fun h50 => ?_)
         ·
          refine WL.v (v_assign rfl rfl) rfl <| WL.nt <| WC.cond_t rfl <| WC.seq <| WC.region <| WL.v (v_fieldAddr0 rfl rfl fld_26_4) rfl <| WL.v (v_load1 rfl rfl one_24 (cellAt rfl)) rfl <| ?_
          rw [if_neg (by omega), if_neg (by omega), if_neg (by omega), if_neg (by omega), if_neg (by omega), if_pos h50] at hw
          refine WL.call rfl rfl ck_165 (.none rfl) rfl rfl ?_
          intro w hS
          refine Calls.then (weighRow_c N ih t hN w pred hk hI (hA.st (fun _ h => h) hS)) hS ?_
          refine WL.v (v_extract rfl rfl rfl) rfl <| WL.v (v_extract rfl rfl rfl) rfl <| WL.v (v_assign rfl rfl) rfl <| WL.v (v_assign rfl rfl) rfl <| WL.nt <| WC.ret <| WE.block_ret <| WE.then_ret <| WE.ret2 (P := Tryz.prog) (.inl rfl) Tryz.results87 rfl rfl <| ?_
          exact fun w' h => ⟨by rw [hw], h.frm⟩
         ·
          refine WL.v (v_assign rfl rfl) rfl <| WL.nt <| WC.cond_f rfl <| WC.seq <| WC.region <| ?_
          refine WL.test (v_eql rfl rfl rfl) (.none rfl) rfl rfl (fun h57 => ?_) (fun h57 => ?_)
          ·
           refine WL.v (v_assign rfl rfl) rfl <| WL.nt <| WC.cond_t rfl <| WC.seq <| WC.region <| WL.v (v_fieldAddr0 rfl rfl fld_26_4) rfl <| WL.v (v_load1 rfl rfl one_24 (cellAt rfl)) rfl <| ?_
           obtain ⟨u0, b, o, hu0, ea, hr0⟩ := kid 0 (by rw [show t.kind = 17 from h57]; decide)
           obtain ⟨u1, b1, o1, hu1, ea1, hr1⟩ := kid 1 (by rw [show t.kind = 17 from h57]; decide)
           obtain ⟨u2, b2, o2, hu2, ea2, hr2⟩ := kid 2 (by rw [show t.kind = 17 from h57]; decide)
           have hl2 := (List.getElem?_eq_some_iff.1 hu2).1
           rw [if_neg (by omega), if_neg (by omega), if_neg (by omega), if_neg (by omega), if_neg (by omega), if_neg (by omega), if_pos h57, wNth_get hu0, wNth_get hu1, wNth_get hu2] at hw
           have w0 := (weighT_ok u0).r
           have w1 := (weighT_ok u1).r
           have w2 := (weighT_ok u2).r
           refine WL.v (v_indexAddr (b := b) (off := o) (lo := 0) rfl (by show some (Value.slice t.ad _ _) = _; rw [ea]) rfl Tryz.underlying24 sz_26 rfl (by omega)) rfl ?_
           refine WL.v (v_loadN (cs := ndL u0) rfl rfl many_26 rfl (rangeIn (fun h => h) hr0)) rfl <| WL.call rfl rfl ck_87 (.none rfl) rfl rfl <| ?_
           intro w hS
           refine Calls.then (ih u0 (Nd.kidN hN hu0) w _ (hk.kid hu0) (hI.kids.get _ _ _ hu0) ((hA.kid hu0).2.st (fun _ h => h) hS)) hS ?_
           refine WL.v (v_move rfl rfl) rfl <| WL.v (v_extract rfl rfl rfl) rfl <| WL.v (v_extract rfl rfl rfl) rfl <| WL.v (v_assign rfl rfl) rfl <| WL.v (v_assign rfl rfl) rfl <| WL.nt <| WC.seq <| WC.region <| WL.v (v_fieldAddr0 rfl rfl fld_26_4) rfl <| WL.v (v_load1 rfl rfl one_24 (cellAt rfl)) rfl <| ?_
           refine WL.v (v_indexAddr (b := b1) (off := o1) (lo := 1) rfl (by show some (Value.slice t.ad _ _) = _; rw [ea1]) rfl Tryz.underlying24 sz_26 rfl (by omega)) rfl ?_
           refine WL.v (v_loadN (cs := ndL u1) rfl rfl many_26 rfl (rangeIn (fun h => h) hr1)) rfl <| WL.call rfl rfl ck_87 (.none rfl) rfl rfl <| ?_
           intro w hS
           refine Calls.then (ih u1 (Nd.kidN hN hu1) w _ (hk.kid hu1) (hI.kids.get _ _ _ hu1) ((hA.kid hu1).2.st (fun _ h => h) hS)) hS ?_
           refine WL.v (v_move rfl rfl) rfl <| WL.v (v_extract rfl rfl rfl) rfl <| WL.v (v_extract rfl rfl rfl) rfl <| WL.v (v_assign rfl rfl) rfl <| WL.v (v_assign rfl rfl) rfl <| WL.nt <| WC.seq <| WC.region <| WL.v (v_fieldAddr0 rfl rfl fld_26_4) rfl <| WL.v (v_load1 rfl rfl one_24 (cellAt rfl)) rfl <| ?_
           refine WL.v (v_indexAddr (b := b2) (off := o2) (lo := 2) rfl (by show some (Value.slice t.ad _ _) = _; rw [ea2]) rfl Tryz.underlying24 sz_26 rfl (by omega)) rfl ?_
           refine WL.v (v_loadN (cs := ndL u2) rfl rfl many_26 rfl (rangeIn (fun h => h) hr2)) rfl <| WL.call rfl rfl ck_87 (.none rfl) rfl rfl <| ?_
           intro w hS
           refine Calls.then (ih u2 (Nd.kidN hN hu2) w _ (hk.kid hu2) (hI.kids.get _ _ _ hu2) ((hA.kid hu2).2.st (fun _ h => h) hS)) hS ?_
           refine WL.v (v_move rfl rfl) rfl <| WL.v (v_extract rfl rfl rfl) rfl <| WL.v (v_extract rfl rfl rfl) rfl <| WL.v (v_assign rfl rfl) rfl <| WL.v (v_assign rfl rfl) rfl <| WL.nt <| WC.seq <| WC.region <| WL.v (v_move rfl rfl) rfl <| WL.v (v_move rfl rfl) rfl <| WL.v (v_move rfl rfl) rfl <| WL.v (v_max rfl rfl rfl) rfl <| WL.call rfl rfl ck_166 (.none rfl) rfl rfl <| ?_
           intro w hS
           refine Calls.then (times_c w (weighT u0).1 (max (weighT u1).1 (weighT u2).1) (by omega) (by omega)) hS ?_
           refine WL.v (v_move rfl rfl) rfl <| WL.v (v_move rfl rfl) rfl <| WL.v (v_max rfl rfl rfl) rfl <| WL.v (v_assign rfl rfl) rfl <| WL.v (v_assign rfl rfl) rfl <| WL.nt <| WC.ret <| WE.block_ret <| WE.then_ret <| WE.ret2 (P := Tryz.prog) (.inl rfl) Tryz.results87 rfl rfl <| ?_
           exact fun w' h => ⟨by rw [hw], h.frm⟩
          ·
           refine WL.v (v_assign rfl rfl) rfl <| WL.nt <| WC.cond_f rfl <| WC.skip <| WE.block_n <| WE.then_n <| WC.seq <| WC.region <| WL.v (v_assign rfl rfl) rfl <| WL.v (v_assign rfl rfl) rfl <| WL.nt <| WC.ret <| WE.ret2 (P := Tryz.prog) (.inl rfl) Tryz.results87 rfl rfl <| ?_
           rw [if_neg (by omega), if_neg (by omega), if_neg (by omega), if_neg (by omega), if_neg (by omega), if_neg (by omega), if_neg (by omega)] at hw
           exact fun w' h => ⟨by rw [hw], h.frm⟩
theorem weigh_c : ∀ N, WgTo N
  | 0 => fun t hN => by cases t; simp only [Nd.mk.sizeOf_spec] at hN; omega
  | N + 1 => weigh_step N (weigh_c N)
theorem Weight_c (w : World) (t : Nd) (hI : t.In) (hA : t.At w) (hG : GW w) : Calls Tryz.prog 35 #[ndV t] w fun e w' => e = .returned (.tuple #[.int .i64 (if (walkT t 1 false 0).1 = 0 then (weighT t).1 else 0), .int .i64 (if (walkT t 1 false 0).1 = 0 then (weighT t).2 else 0), .int .i64 (walkT t 1 false 0).1]) ∧ Frm (fun _ => False) w w' := by
  refine enter Tryz.func35 rfl Tryz.ntmps35 rfl (St.start (fun _ => False) w) ?_
  refine WC.seq <| WC.region <| WL.box rfl rfl rfl (.none rfl) rfl rfl <| ?_
  intro g1 hg1
  refine WL.v (v_assign rfl rfl) rfl <| WL.v (v_assign rfl rfl) rfl <| WL.v (v_assign rfl rfl) rfl <| WL.nt <| WC.seq <| WC.seq <| WC.region <| WL.v (v_loadN rfl rfl many_26 rfl allAt) rfl <| WL.call rfl rfl ck_86 (.none rfl) rfl rfl <| ?_
  intro w hS
  refine Calls.then (Check_c w t hI (hA.st (fun _ h => h) hS) (hG.keep (fun h => h) hS)) hS ?_
  refine WL.v (v_assign rfl rfl) rfl <| WL.nt <| WC.seq <| WC.region <| WL.v (v_move rfl rfl) rfl <| ?_
  refine WL.test (v_neq rfl rfl rfl) (.none rfl) rfl rfl (fun h11 => ?_) (fun h11 => ?_)
  ·
   refine WL.nt <| WC.cond_t rfl <| WC.seq <| WC.region <| WL.v (v_move rfl rfl) rfl <| WL.v (v_assign rfl rfl) rfl <| WL.v (v_assign rfl rfl) rfl <| WL.v (v_assign rfl rfl) rfl <| WL.nt <| WC.ret <| WE.then_ret <| WE.ret3 (P := Tryz.prog) (.inl rfl) Tryz.results35 rfl rfl rfl <| ?_
   exact fun w' h => ⟨by rw [if_neg h11, if_neg h11], h.frm⟩
  ·
   refine WL.nt <| WC.cond_f rfl <| WC.skip <| WE.then_n <| WC.seq <| WC.region <| WL.v (v_loadN rfl rfl many_26 rfl allAt) rfl <| WL.call rfl rfl ck_87 (.none rfl) rfl rfl <| ?_
   intro w hS
   refine Calls.then (weigh_c _ t (Nat.le_refl _) w false (walkT_ok t 1 false 0 (Decidable.of_not_not h11)) hI (hA.st (fun _ h => h) hS)) hS ?_
   refine WL.v (v_move rfl rfl) rfl <| WL.v (v_extract rfl rfl rfl) rfl <| WL.v (v_extract rfl rfl rfl) rfl <| WL.v (v_assign rfl rfl) rfl <| WL.v (v_assign rfl rfl) rfl <| WL.nt <| WC.seq <| WC.region <| WL.v (v_move rfl rfl) rfl <| WL.v (v_move rfl rfl) rfl <| WL.v (v_assign rfl rfl) rfl <| WL.v (v_assign rfl rfl) rfl <| WL.v (v_assign rfl rfl) rfl <| WL.nt <| ?_
   refine WC.ret <| WE.ret3 (P := Tryz.prog) (.inl rfl) Tryz.results35 rfl rfl rfl <| ?_
   have h0 : (walkT t 1 false 0).1 = 0 := Decidable.of_not_not h11
   exact fun w' h => ⟨by rw [if_pos h0, if_pos h0, h0], h.frm⟩
end Go.Proofs.YtmhahajadgkolaaGreatDoor
/- join: both, all, buildTest, silent, bound. -/
namespace Go.Proofs.YtmhahajadgkolaaGreatDoor
open Go.RowKit

theorem sumC_both : SumC 95 bothA := fun w a b ac bc us vs _ _ h1 h2 => by
  refine enter Tryz.func95 rfl Tryz.ntmps95 rfl (St.start (fun _ => False) w) ?_
  refine WC.seq <| WC.region <| WL.v (v_assign rfl rfl) rfl <| WL.nt <| WC.seq <| WC.seq <| WC.region <| WL.v (v_move rfl rfl) rfl <| WL.v (v_len_slice rfl rfl Tryz.underlying221) rfl <| ?_
  refine WL.test (v_eql rfl rfl rfl) (.none rfl) rfl rfl (fun h7 => ?_) (fun h7 => ?_)
  ·
   refine WL.v (v_move rfl rfl) rfl ?_
   iterate 3 refine WL.sk rfl ?_
   refine WL.v (v_pick_t rfl rfl rfl) rfl <| WL.nt <| WC.cond_t rfl <| WC.seq <| WC.region <| WL.v (v_assign rfl rfl) rfl <| WL.nt <| WC.ret <| WE.then_ret <| WE.ret1 (P := Tryz.prog) (.inl rfl) Tryz.results95 rfl <| ?_
   have e : bothA us vs = [] := (by unfold bothA; exact if_pos (.inl (by omega)))
   exact fun w' h => ⟨none, 0, [], by rw [e]; rfl, fun w2 _ _ _ => by rw [e]; exact fun hn => absurd rfl hn, h⟩
  ·
   refine WL.v (v_move rfl rfl) rfl <| WL.val (v_move rfl rfl) (.some rfl rfl rfl) rfl rfl <| WL.val (v_len_slice rfl rfl Tryz.underlying221) (.some rfl rfl rfl) rfl rfl <| ?_
   refine WL.test (v_eql rfl rfl rfl) (.some rfl rfl rfl) rfl rfl (fun h11 => ?_) (fun h11 => ?_)
   ·
    refine WL.v (v_pick_f rfl rfl rfl) rfl <| WL.nt <| WC.cond_t rfl <| WC.seq <| WC.region <| WL.v (v_assign rfl rfl) rfl <| WL.nt <| WC.ret <| WE.then_ret <| WE.ret1 (P := Tryz.prog) (.inl rfl) Tryz.results95 rfl <| ?_
    have e : bothA us vs = [] := (by unfold bothA; exact if_pos (.inr (by omega)))
    exact fun w' h => ⟨none, 0, [], by rw [e]; rfl, fun w2 _ _ _ => by rw [e]; exact fun hn => absurd rfl hn, h⟩
   ·
    refine WL.v (v_pick_f rfl rfl rfl) rfl <| WL.nt <| WC.cond_f rfl <| WC.skip <| WE.then_n <| WC.seq <| WC.region <| WL.v (v_move rfl rfl) rfl <| WL.v (v_assign rfl rfl) rfl <| WL.nt <| WC.ret <| WE.ret1 (P := Tryz.prog) (.inl rfl) Tryz.results95 rfl <| ?_
    have e : bothA us vs = us := (by unfold bothA; exact if_neg (by omega))
    exact fun w' h => ⟨a, ac, [], by rw [e], fun w2 _ h2 _ => by rw [e]; exact h2, h⟩
theorem mt0_in : mt0.In := ⟨fun _ => ⟨Int.le_refl _, (by decide : (0 : Int) ≤ 18446744073709551615)⟩, fun _ => ⟨Int.le_refl _, (by decide : (0 : Int) ≤ 18446744073709551615)⟩⟩
theorem mt0_nz : mt0.Nz := fun _ _ => ⟨rfl, rfl⟩
theorem one_in {k : Nat} {v m : Int} (hv : 0 ≤ v ∧ v ≤ 18446744073709551615) (hm : 0 ≤ m ∧ m ≤ 18446744073709551615) : (Mt.one k v m).In :=
  ⟨fun i => by show 0 ≤ (if i = k then v else 0) ∧ (if i = k then v else 0) ≤ _; split; exact hv; exact ⟨Int.le_refl _, by decide⟩, fun i => by show 0 ≤ (if i = k then m else 0) ∧ (if i = k then m else 0) ≤ _; split; exact hm; exact ⟨Int.le_refl _, by decide⟩⟩
theorem one_nz {k : Nat} {v m : Int} (hk : k < 9) : (Mt.one k v m).Nz := fun i hi => ⟨if_neg (by omega), if_neg (by omega)⟩
theorem ac0_three : ac0.In ∧ ac0.Nz ∧ ac0.Ok := ⟨⟨by decide, fun _ => ⟨Int.le_refl _, (by decide : (0 : Int) ≤ 18446744073709551615)⟩⟩, fun _ _ => rfl, by decide⟩
theorem aone_three {k : Nat} (hk : k < 9) {v : Int} (h0 : 0 ≤ v) (h1 : v ≤ fullI k) : (Ac.one k v).In ∧ (Ac.one k v).Nz ∧ (Ac.one k v).Ok := by
  have hf := fullI_u64 k
  have hp : (1 : Int) ≤ 2 ^ k ∧ (2 : Int) ^ k ≤ 256 := by
    match k, hk with
    | 0, _ | 1, _ | 2, _ | 3, _ | 4, _ | 5, _ | 6, _ | 7, _ | 8, _ => decide
  refine ⟨⟨by show _ ≤ (2 : Int) ^ k ∧ (2 : Int) ^ k ≤ _; omega, fun i => ?_⟩, fun i hi => if_neg (by omega), ⟨by show 0 ≤ (2 : Int) ^ k ∧ (2 : Int) ^ k ≤ 511; omega, fun i hi => ?_⟩⟩
  · show 0 ≤ (if i = k then v else 0) ∧ (if i = k then v else 0) ≤ _
    split
    · omega
    · exact ⟨Int.le_refl _, by decide⟩
  · show (if i = k then v else 0) ≤ fullI i ∧ ((if i = k then v else 0) ≠ 0 → (2 : Int) ^ k / 2 ^ i % 2 = 1)
    by_cases e : i = k
    · subst e
      rw [if_pos rfl]
      exact ⟨h1, fun _ => by rw [Int.ediv_self (by omega)]; rfl⟩
    · rw [if_neg e]
      exact ⟨(fullI_u64 i).1, fun h => absurd rfl h⟩
theorem all_c (w : World) (ad : Option Addr) (c : Nat) (us : List Ac) (hr : Rg w ad (actsL us)) (hu : ∀ a ∈ us, a.In ∧ a.Nz ∧ a.Ok) (hn : us.length ≤ 100000) :
    Calls Tryz.prog 92 #[.slice ad us.length c] w fun e w' => RsC w w' (allD us) e := by
  refine enter Tryz.func92 rfl Tryz.ntmps92 rfl (St.start (fun _ => False) w) ?_
  refine WC.seq <| WC.region <| WL.v (v_assign rfl rfl) rfl <| WL.nt <| WC.seq <| WC.region <| WL.v (v_move rfl rfl) rfl <| WL.call rfl rfl ck_167 (.none rfl) rfl rfl <| ?_
  intro w1 hS
  refine (Norm_c w1 ad c us (hr.frm hS.frm (fun _ _ _ h => h)) (fun a ha => (hu a ha).2.1) hn).mono ?_
  rintro e w' ⟨adn, cn, En, ys, rfl, hP, hyl, hVn, hS'⟩
  have hys : normF us = ys := normF_of (fun a ha => (hu a ha).2.1) hP
  refine ⟨_, _, rfl, hS.join hS', ?_⟩
  refine WL.v (v_build rfl rfl zero_223 plc_223 rfl) rfl ?_
  refine WL.buildSlice rfl rfl Tryz.underlying54 sz_223 zero_223 rfl (by decide) (by show some (splice (List.replicate 1 _).flatten 0 (RuL.cells ⟨mt0, adn, cn, ys⟩)) = some (RuL.cells ⟨mt0, adn, cn, ys⟩); exact congrArg some (splice_all rfl)) (.none rfl) rfl rfl ?_
  intro g6 hg6
  refine WL.v (v_assign rfl rfl) rfl <| WL.nt <| WC.ret <| WE.ret1 (P := Tryz.prog) (.inl rfl) Tryz.results92 rfl <| ?_
  exact fun w' h => ⟨some ⟨g6, 0, none⟩, 1, [.row g6 (RuL.cells ⟨mt0, adn, cn, ys⟩)], En, [⟨mt0, adn, cn, ys⟩], rfl, by unfold allD; rw [hys]; rfl, Vec.row rfl rfl (Nat.le_refl _), fun r hr => (by rw [List.mem_singleton.1 hr]; exact ⟨En, hVn, fun e he => he⟩), fun d hd => (by rw [List.mem_singleton.1 hd]; exact fit_new mt0_in mt0_nz hu), (by show 1 ≤ 100000000; decide), by simpa using h⟩
theorem allN_c (w : World) : Calls Tryz.prog 92 #[.slice none 0 0] w fun e w' => RsC w w' (allD []) e :=
  all_c w none 0 [] (fun hn => absurd rfl hn) (fun a h => (by cases h)) (Nat.zero_le _)
theorem bound_c (w : World) : Calls Tryz.prog 170 #[] w fun e w' => e = .returned (.agg #[.int .i64 4194304, .int .i64 16777216]) ∧ Frm (fun _ => False) w w' := by
  refine enter Tryz.func170 rfl Tryz.ntmps170 rfl (St.start (fun _ => False) w) ?_
  refine WC.seq <| WC.region <| WL.alloc rfl zero_305 (.none rfl) rfl rfl <| ?_
  intro g0 hg0
  refine WL.nt <| WC.seq <| WC.region <| WL.v (v_build rfl rfl zero_305 plc_305 rfl) rfl <| WL.storeW rfl rfl rfl rfl many_305 rfl rfl (.none rfl) rfl <| WL.nt <| WC.ret <| WE.ret1 (P := Tryz.prog) (.inl rfl) Tryz.results170 (resRow rfl many_305 rfl) <| ?_
  exact fun w' h => ⟨rfl, h.frm⟩
theorem silent_c (w : World) (ad : Option Addr) (c : Nat) (xs : List RuL) (hx : Rg w ad (rulesL xs)) (hn : xs.length ≤ 100000000) :
    Calls Tryz.prog 172 #[.slice ad xs.length c] w fun e w' => e = .returned (.bool (decide (silentD (xs.map RuL.d)))) ∧ Frm (fun _ => False) w w' := by
  refine enter Tryz.func172 rfl Tryz.ntmps172 rfl (St.start (fun _ => False) w) ?_
  refine WC.seq <| WC.region <| WL.v (v_assign rfl rfl) rfl <| WL.nt <| WC.seq <| WC.seq <| WC.region <| WL.v (v_move rfl rfl) rfl <| WL.v (v_len_slice rfl rfl Tryz.underlying54) rfl <| WL.v (v_move rfl rfl) rfl <| WL.nt <| WC.block <| WC.loop (fun i : Nat => [(7, .int .i64 i), (6, .int .i64 xs.length), (5, .slice ad xs.length c), (2, .bool false)]) (fun _ => []) (fun i => i ≤ xs.length ∧ ∀ j r, j < i → xs[j]? = some r → ¬ 0 < r.acts.length) (fun i => xs.length - i) 0 ⟨Nat.zero_le _, fun j r h => absurd h (Nat.not_lt_zero _)⟩ (.cons rfl (.cons rfl (.cons rfl (.cons rfl .nil)))) (.refl _) <| ?_
  rintro i ⟨hi, hno⟩
  refine WC.seq <| WC.region <| ?_
  refine WL.test (v_lss rfl rfl rfl) (.none rfl) rfl rfl (fun h8 => ?_) (fun h8 => ?_)
  ·
   refine WL.nt <| WC.seq <| WC.cond_t rfl <| WC.skip <| WE.then_n <| WC.seq <| WC.block <| WC.seq <| WC.region <| ?_
   obtain ⟨r, hr⟩ : ∃ x, xs[i]? = some x := ⟨xs[i]'(by omega), List.getElem?_eq_getElem _⟩
   obtain ⟨b1, o1, ea1, r1⟩ := hx (by intro hh; have := rulesL_len xs; rw [hh] at this; simp at this; omega)
   refine WL.v ((v_indexAddr (b := b1) (off := o1) (lo := i) rfl (by show some (Value.slice ad _ _) = _; rw [ea1]) rfl Tryz.underlying54 sz_223 rfl (by omega))) rfl ?_
   refine WL.v (v_loadN (cs := r.cells) rfl rfl many_223 (RuL.len r) (rgIn (fun h => h) (Rg.seg RuL.len r1 hr))) rfl <| WL.alloc rfl zero_223 (.none rfl) rfl rfl <| ?_
   intro g4 hg4
   refine WL.storeW rfl rfl rfl rfl many_223 rfl rfl (.none rfl) rfl <| WL.as (L' := [.row g4 r.cells]) rfl <| WL.nt <| WC.seq <| WC.region <| WL.v (v_fieldAddr0 rfl rfl fld_223_1) rfl <| WL.v (v_load1 rfl rfl one_221 (cellAt (v := .slice r.ad r.acts.length r.c) (ruC_acts r))) rfl <| WL.v (v_len_slice rfl rfl Tryz.underlying221) rfl <| ?_
   refine WL.test (v_gtr rfl rfl rfl) (.none rfl) rfl rfl (fun h14 => ?_) (fun h14 => ?_)
   ·
    refine WL.nt <| WC.cond_t rfl <| WC.seq <| WC.region <| WL.v (v_assign rfl rfl) rfl <| WL.nt <| WC.ret <| WE.block_ret <| WE.then_ret <| WE.then_ret <| WE.block_ret <| WE.then_ret <| WE.ret1 (P := Tryz.prog) (.inl rfl) Tryz.results172 rfl <| ?_
    exact fun w' h => ⟨by rw [decide_eq_false (fun q : silentD (xs.map RuL.d) => q r.d (List.mem_map_of_mem (List.mem_of_getElem? hr)) (by show 0 < r.acts.length; omega))], h.frm⟩
   ·
    refine WL.nt <| WC.cond_f rfl <| WC.skip <| WE.block_n <| WE.then_n <| WC.region <| ?_
    refine WL.v (v_add rfl rfl rfl (w_i64 (by omega) (by omega))) rfl ?_
    refine WL.v (v_move rfl rfl) rfl <| WL.nil <| ?_
    exact WE.next (i + 1) (by omega) ⟨by omega, fun j y hj hy => by
    by_cases e : j = i
    · subst e
      rw [hr] at hy
      cases hy
      omega
    · exact hno j y (by omega) hy⟩ (.int rfl (by omega) (.cons rfl (.cons rfl (.cons rfl .nil)))) (.cons _ (.refl _))
  ·
   refine WL.nt <| WC.seq <| WC.cond_f rfl <| WC.exit <| WE.then_exit <| WE.then_exit <| WE.block_hit <| WE.then_n <| WC.seq <| WC.region <| WL.v (v_assign rfl rfl) rfl <| WL.nt <| WC.ret <| WE.ret1 (P := Tryz.prog) (.inl rfl) Tryz.results172 rfl <| ?_
   exact fun w' h => ⟨by
   rw [decide_eq_true]
   intro d hd
   obtain ⟨r, hr, rfl⟩ := List.mem_map.1 hd
   obtain ⟨j, hj⟩ := List.mem_iff_getElem?.1 hr
   exact hno j r (by have := (List.getElem?_eq_some_iff.1 hj).1; omega) hj, h.frm⟩
theorem argE_test {t : Nd} (h : argE t = 0) (hk : t.kind = 3) : ∃ q : Nat, t.f = q ∧ q < 9 ∧ t.f.toNat = q ∧ mtOk q t.val t.mask := by
  unfold argE at h
  rw [if_pos hk] at h
  split at h
  · cases h
  · rename_i hh
    obtain ⟨q, e, hq, e2⟩ := isFld.nat (Classical.not_not.1 fun k => hh (.inl k))
    refine ⟨q, e, hq, e2, ?_, ?_⟩
    · rw [← e2]; exact Classical.not_not.1 fun k => hh (.inr (.inl k))
    · exact Classical.not_not.1 fun k => hh (.inr (.inr k))
set_option maxRecDepth 8000 in
set_option maxHeartbeats 2000000 in
theorem buildTest_c (w : World) (t : Nd) (pred : Bool) (hk : okT pred t) (h3 : t.kind = 3) (hI : t.In) (hG : GW w) :
    Calls Tryz.prog 93 #[ndV t] w fun e w' => RsC w w' (testD t.f.toNat t.val t.mask) e := by
  obtain ⟨q, hf, hq, hfn, hok⟩ := argE_test hk.parts.2.1 h3
  have hv := hI.nums.2.2.1
  have hm := hI.nums.2.2.2.1
  have hone : (Mt.one q t.val t.mask).In := one_in hv hm
  have hfit1 : ∀ us : List Ac, us = [ac0] → (⟨Mt.one q t.val t.mask, us⟩ : RuD).Fit := fun us e => ⟨⟨hone, one_nz hq, fun a ha => by rw [e] at ha; rw [List.mem_singleton.1 ha]; exact ⟨ac0_three.1, ac0_three.2.1⟩⟩, fun a ha => by rw [e] at ha; rw [List.mem_singleton.1 ha]; exact ac0_three.2.2⟩
  have hfit2 : (⟨mt0, []⟩ : RuD).Fit := ⟨⟨mt0_in, mt0_nz, fun a h => (by cases h)⟩, fun a h => (by cases h)⟩
  obtain ⟨b23, hbe⟩ : ∃ c : Bool, c = true ↔ mtL (Mt.one q t.val t.mask) = mtL mt0 := ⟨@decide _ (Classical.propDecidable _), @decide_eq_true_iff _ (Classical.propDecidable _)⟩
  rw [hfn]
  refine enter Tryz.func93 rfl Tryz.ntmps93 rfl (St.start (fun _ => False) w) ?_
  refine WC.seq <| WC.region <| WL.box rfl rfl rfl (.none rfl) rfl rfl <| ?_
  intro g1 hg1
  refine WL.v (v_assign rfl rfl) rfl <| WL.nt <| WC.seq <| WC.region <| WL.v (v_fieldAddr0 rfl rfl fld_26_1) rfl <| ?_
  refine WL.v (v_load1 rfl rfl one_22 (cellAt (v := .int .i64 (q : Int)) (by show some (Value.int .i64 t.f) = _; rw [hf]))) rfl ?_
  refine WL.v (v_fieldAddr0 rfl rfl fld_26_2) rfl <| WL.v (v_load1 rfl rfl one_23 (cellAt (v := .int .u64 t.val) rfl)) rfl <| WL.v (v_fieldAddr0 rfl rfl fld_26_3) rfl <| WL.v (v_load1 rfl rfl one_23 (cellAt (v := .int .u64 t.mask) rfl)) rfl <| WL.call rfl rfl ck_168 (.none rfl) rfl rfl <| ?_
  intro w hS
  refine Calls.then (MOn_c w q hq t.val t.mask hv hm hok (hG.keep (fun h => h) hS)) hS ?_
  refine WL.v (v_move rfl rfl) rfl <| WL.v (v_extract rfl rfl rfl) rfl <| WL.v (v_extract rfl rfl rfl) rfl <| WL.alloc rfl zero_220 (.none rfl) rfl rfl <| ?_
  intro g3 hg3
  refine WL.storeW rfl rfl rfl rfl many_220 rfl rfl (.none rfl) rfl <| WL.as (L' := [.row g3 (mtL (Mt.one q t.val t.mask)), .row g1 (ndL t)]) rfl <| WL.v (v_assign rfl rfl) rfl <| WL.nt <| WC.seq <| WC.seq <| WC.region <| WL.v (v_move rfl rfl) rfl <| ?_
  refine WL.v ((v_neq rfl rfl rfl).f (by omega)) rfl ?_
  refine WL.nt <| WC.cond_f rfl <| WC.skip <| WE.then_n <| WC.seq <| WC.region <| WL.v (v_build rfl rfl zero_225 plc_225 rfl) rfl <| ?_
  refine WL.buildSlice rfl rfl Tryz.underlying221 sz_225 zero_225 rfl (by decide) (by show some (splice (List.replicate 1 _).flatten 0 (acL ac0)) = some (acL ac0); exact congrArg some (splice_all rfl)) (.none rfl) rfl rfl ?_
  intro g20 hg20
  refine WL.v (v_assign rfl rfl) rfl <| WL.nt <| WC.seq <| WC.seq <| WC.region <| WL.v (v_loadN rfl rfl many_220 rfl allAt) rfl <| WL.v (v_build rfl rfl zero_220 plc_220 rfl) rfl <| WL.v (v_eql_aggD (b := b23) (ys := mtL mt0) rfl rfl rfl eqk_220 eqg_220 rfl rfl hbe) rfl <| ?_
  cases b23
  ·
   refine WL.nt <| WC.cond_f rfl <| WC.skip <| WE.then_n <| WC.seq <| WC.region <| WL.v (v_loadN rfl rfl many_220 rfl allAt) rfl <| WL.v (v_move rfl rfl) rfl <| WL.v (v_build rfl rfl zero_223 plc_223 rfl) rfl <| WL.v (v_build rfl rfl zero_223 plc_223 rfl) rfl <| ?_
   refine WL.buildSlice rfl rfl Tryz.underlying54 sz_223 zero_223 rfl (by decide) rfl (.none rfl) rfl rfl ?_
   intro g32 hg32
   refine WL.as (L' := [.row g32 (rulesL [⟨Mt.one q t.val t.mask, some ⟨g20, 0, none⟩, 1, [ac0]⟩, ⟨mt0, none, 0, []⟩]), .row g20 (acL ac0), .row g3 (mtL (Mt.one q t.val t.mask)), .row g1 (ndL t)]) rfl <| WL.v (v_assign rfl rfl) rfl <| WL.nt <| WC.ret <| WE.ret1 (P := Tryz.prog) (.inl rfl) Tryz.results93 rfl <| ?_
   have e : testD q t.val t.mask = [⟨Mt.one q t.val t.mask, [ac0]⟩, ⟨mt0, []⟩] := (by unfold testD; exact if_neg (fun k => by have := hbe.2 (mtL_iff.2 k); cases this))
   exact fun w' h => ⟨some ⟨g32, 0, none⟩, 2, [.row g32 (rulesL [⟨Mt.one q t.val t.mask, some ⟨g20, 0, none⟩, 1, [ac0]⟩, ⟨mt0, none, 0, []⟩])], [.row g20 (acL ac0)], [⟨Mt.one q t.val t.mask, some ⟨g20, 0, none⟩, 1, [ac0]⟩, ⟨mt0, none, 0, []⟩], rfl, e.symm, Vec.row rfl rfl (Nat.le_refl _), fun r hr => (by
     rcases List.mem_cons.1 hr with rfl | hr
     · exact ⟨[.row g20 (acL ac0)], Vec.row rfl rfl (Nat.le_refl _), fun e he => he⟩
     · rw [List.mem_singleton.1 hr]; exact ⟨[], Vec.nil 10, fun e he => (by cases he)⟩), fun d hd => (by
     rw [e] at hd
     rcases List.mem_cons.1 hd with rfl | hd
     · exact hfit1 _ rfl
     · rw [List.mem_singleton.1 hd]; exact hfit2), (by show 2 ≤ 100000000; decide), h.dropX [.row g3 (mtL (Mt.one q t.val t.mask)), .row g1 (ndL t)]⟩
  ·
   refine WL.nt <| WC.cond_t rfl <| WC.seq <| WC.region <| WL.v (v_loadN rfl rfl many_220 rfl allAt) rfl <| WL.v (v_move rfl rfl) rfl <| WL.v (v_build rfl rfl zero_223 plc_223 rfl) rfl <| ?_
   refine WL.buildSlice rfl rfl Tryz.underlying54 sz_223 zero_223 rfl (by decide) (by show some (splice (List.replicate 1 _).flatten 0 (RuL.cells ⟨Mt.one q t.val t.mask, some ⟨g20, 0, none⟩, 1, [ac0]⟩)) = some (RuL.cells ⟨Mt.one q t.val t.mask, some ⟨g20, 0, none⟩, 1, [ac0]⟩); exact congrArg some (splice_all rfl)) (.none rfl) rfl rfl ?_
   intro g27 hg27
   refine WL.v (v_assign rfl rfl) rfl <| WL.nt <| WC.ret <| WE.then_ret <| WE.ret1 (P := Tryz.prog) (.inl rfl) Tryz.results93 rfl <| ?_
   have e : testD q t.val t.mask = [⟨Mt.one q t.val t.mask, [ac0]⟩] := (by unfold testD; exact if_pos (mtL_iff.1 (hbe.1 rfl)))
   exact fun w' h => ⟨some ⟨g27, 0, none⟩, 1, [.row g27 (RuL.cells ⟨Mt.one q t.val t.mask, some ⟨g20, 0, none⟩, 1, [ac0]⟩)], [.row g20 (acL ac0)], [⟨Mt.one q t.val t.mask, some ⟨g20, 0, none⟩, 1, [ac0]⟩], rfl, e.symm, Vec.row rfl rfl (Nat.le_refl _), fun r hr => (by rw [List.mem_singleton.1 hr]; exact ⟨[.row g20 (acL ac0)], Vec.row rfl rfl (Nat.le_refl _), fun e he => he⟩), fun d hd => (by rw [e] at hd; rw [List.mem_singleton.1 hd]; exact hfit1 _ rfl), (by show 1 ≤ 100000000; decide), h.dropX [.row g3 (mtL (Mt.one q t.val t.mask)), .row g1 (ndL t)]⟩
end Go.Proofs.YtmhahajadgkolaaGreatDoor
/- join: buildAll, buildRow. -/
namespace Go.Proofs.YtmhahajadgkolaaGreatDoor
open Go.RowKit

/-- Rules that were made, beside what stays. -/
def RsS (w0 w' : World) (L : List Ent) (ds : List RuD) (e : Ending) : Prop := ∃ ad c E K, ∃ ls : List RuL, e = .returned (.slice ad ls.length c) ∧ ls.map RuL.d = ds ∧ Vec 19 ad ls.length c (rulesL ls) E ∧ (∀ r ∈ ls, RuOwn K r) ∧ (∀ d ∈ ds, d.Fit) ∧ ls.length ≤ 100000000 ∧ St (fun _ => False) w0 w' (E ++ (K ++ L))
def BdTo (N : Nat) : Prop := ∀ (t : Nd), SizeOf.sizeOf t ≤ N → ∀ (w : World) (pred : Bool), okT pred t → t.In → t.At w → GW w → (weighT t).1 ≤ 300 → (weighT t).2 ≤ 64 →
  Calls Tryz.prog 42 #[ndV t] w fun e w' => RsC w w' (buildD t) e
theorem few_of {ls : List RuL} {ds : List RuD} {n : Nat} (h : ls.map RuL.d = ds) (hf : ∀ d ∈ ds, d.acts.length ≤ n) : ∀ r ∈ ls, r.acts.length ≤ n := fun r hr => hf r.d (by rw [← h]; exact List.mem_map_of_mem hr)
theorem kid_few {N : Nat} {u : Nd} {pred : Bool} (hN : SizeOf.sizeOf u ≤ N) (hk : okT pred u) (h1 : (weighT u).1 ≤ 300) (h2 : (weighT u).2 ≤ 64) : ∀ d ∈ buildD u, d.acts.length ≤ 64 := fun d hd => by
  have := (build_len N u hN pred hk h1 h2).acts d hd
  omega
structure BaS where
  i : Nat
  ls : List RuL
  ad : Option Addr
  c : Nat
  E : List Ent
  K : List Ent
set_option maxRecDepth 8000 in
set_option maxHeartbeats 2000000 in
theorem buildAll_c {w0 w : World} {L E0 K0 : List Ent} (N : Nat) (ih : BdTo N) (t : Nd) (hN : SizeOf.sizeOf t ≤ N + 1) (pred : Bool) (hk : okT pred t) (hI : t.In) (hA : t.At w0) (hG : GW w0) (hks : ∀ u ∈ t.kids, (weighT u).1 ≤ 300 ∧ (weighT u).2 ≤ 64)
    (fn : FuncId) (ck_fn : callOk Tryz.prog fn) (sum : List Ac → List Ac → List Ac) (hsum : SumC fn sum) (hso : SumOk sum) (hsl : ∀ us vs, (sum us vs).length ≤ us.length + vs.length)
    (a0 : Option Addr) (c0 : Nat) (l0 : List RuL) (hV0 : Vec 19 a0 l0.length c0 (rulesL l0) E0) (hK0 : ∀ r ∈ l0, RuOwn K0 r) (hF0 : RsFit 64 l0) (hl0 : l0.length ≤ 100000000) (hS : St (fun _ => False) w0 w (E0 ++ (K0 ++ L))) :
    Calls Tryz.prog 94 #[.slice t.ad t.kids.length t.cap, .slice a0 l0.length c0, .func (.func fn) #[] #[]] w fun e w' => RsS w0 w' L (foldD sum (t.kids.map buildD) (l0.map RuL.d)) e := by
  have hlen := hI.nums.2.2.2.2
  have h64 : t.kids.length ≤ 64 := by
    have := (formE_le hk.parts.2.2.1).2
    have : mostK t.kind ≤ 64 := by unfold mostK; split; decide; split; decide; split <;> decide
    omega
  generalize hC : foldD sum (t.kids.map buildD) (l0.map RuL.d) = C
  refine enter Tryz.func94 rfl Tryz.ntmps94 rfl hS ?_
  refine WC.seq <| WC.region <| WL.v (v_assign rfl rfl) rfl <| WL.nt <| WC.seq <| WC.seq <| WC.region <| WL.v (v_move rfl rfl) rfl <| WL.v (v_len_slice rfl rfl Tryz.underlying24) rfl <| WL.v (v_move rfl rfl) rfl <| WL.nt <| WC.block <| ?_
  refine WC.loop (fun x : BaS => [(11, .int .i64 x.i), (10, .int .i64 t.kids.length), (9, .slice t.ad t.kids.length t.cap), (1, .slice x.ad x.ls.length x.c), (2, .func (.func fn) #[] #[])]) (fun x => x.E ++ (x.K ++ L)) (fun x => x.i ≤ t.kids.length ∧ foldD sum ((t.kids.drop x.i).map buildD) (x.ls.map RuL.d) = C ∧ Vec 19 x.ad x.ls.length x.c (rulesL x.ls) x.E ∧ (∀ r ∈ x.ls, RuOwn x.K r) ∧ RsFit ((x.i + 1) * 64) x.ls ∧ x.ls.length ≤ 100000000) (fun x => t.kids.length - x.i) ⟨0, l0, a0, c0, E0, K0⟩ ⟨Nat.zero_le _, by dsimp only; rw [List.drop_zero]; exact hC, hV0, hK0, ⟨hF0.fit, fun r hr => by have := hF0.few r hr; omega⟩, hl0⟩ (.cons rfl (.cons rfl (.cons rfl (.cons rfl (.cons rfl .nil))))) (.refl _) ?_
  rintro ⟨i, ls, ad, c, E, K⟩ ⟨hi, hc, hV, hK, hF, hl⟩
  dsimp only at hi hc hV hK hF hl
  dsimp only
  refine WC.seq <| WC.region <| ?_
  refine WL.test (v_lss rfl rfl rfl) (.none rfl) rfl rfl (fun h12 => ?_) (fun h12 => ?_)
  ·
   refine WL.nt <| WC.seq <| WC.cond_t rfl <| WC.skip <| WE.then_n <| WC.seq <| WC.block <| WC.seq <| WC.region <| ?_
   obtain ⟨u, hu⟩ : ∃ u, t.kids[i]? = some u := ⟨t.kids[i]'(by omega), List.getElem?_eq_getElem _⟩
   obtain ⟨b, o, ea, _⟩ := (hA.kid hu).1
   have hum := hks u (List.mem_of_getElem? hu)
   have hku := hk.kid hu
   have hfew := kid_few (Nd.kidN hN hu) hku hum.1 hum.2
   rw [drop_cons hu, List.map_cons, foldD] at hc
   refine WL.v (v_indexAddr (b := b) (off := o) (lo := i) rfl (by show some (Value.slice t.ad _ _) = _; rw [ea]) rfl Tryz.underlying24 sz_26 rfl (by omega)) rfl ?_
   refine WL.v (v_loadN (cs := ndL u) rfl rfl many_26 rfl (rangeIn (fun h => h) (hA.kidAt hu ea))) rfl <| WL.alloc rfl zero_26 (.none rfl) rfl rfl <| ?_
   intro g8 hg8
   refine WL.storeW rfl rfl rfl rfl many_26 rfl rfl (.none rfl) rfl <| WL.as (L' := .row g8 (ndL u) :: (E ++ (K ++ L))) rfl <| WL.nt <| WC.region <| WL.v (v_move rfl rfl) rfl <| WL.v (v_loadN rfl rfl many_26 rfl allAt) rfl <| WL.call rfl rfl ck_42 (.none rfl) rfl rfl <| ?_
   intro w1 hS
   refine (ih u (Nd.kidN hN hu) w1 _ hku (hI.kids.get _ _ _ hu) ((hA.kid hu).2.st (fun _ h => h) hS) (hG.keep (fun h => h) hS) hum.1 hum.2).mono ?_
   rintro e w' ⟨uad, uc, EU, KU, us, rfl, hud, hVU, hKU, hFU, hlU, hS'⟩
   refine ⟨_, _, rfl, hS.join hS', ?_⟩
   refine WL.v (v_move rfl rfl) rfl <| WL.call rfl rfl ck_170 (.none rfl) rfl rfl <| ?_
   intro w hS
   refine Calls.then (bound_c w) hS ?_
   refine WL.call rfl rfl ck_169 (.none rfl) rfl rfl ?_
   intro w1 hS
   have hF5 : RsFit 5000 ls := ⟨hF.fit, fun r hr => by have := hF.few r hr; omega⟩
   refine (Cross_c w1 ad uad c uc ls us fn ck_fn sum hsum hso hsl 4194304 16777216 (by decide) (by decide) (rsAt_of hV hK hS (fun e he => by simp [he]) (fun e he => by simp [he])) (rsAt_of hVU hKU hS (fun e he => by simp [he]) (fun e he => by simp [he])) hF5 ⟨fit_ls hud hFU, fun r hr => by have := few_of hud hfew r hr; omega⟩ hl hlU).mono ?_
   rintro e w' ⟨xad, xc, EX, KX, xs, rfl, hxd, hVX, hKX, hFX, hlX, hS'⟩
   rw [← hxd] at hFX
   have hxd : xs.map RuL.d = crossL sum (ls.map RuL.d) (buildD u) := (by rw [hxd, hud]; rfl)
   rw [← hxd] at hc
   have hXf : ∀ r ∈ xs, r.acts.length ≤ (i + 1 + 1) * 64 := few_of hxd (crossL_all (Q := fun l => l.length ≤ (i + 1 + 1) * 64) fun d hd s hs => by
     obtain ⟨z, hz, rfl⟩ := List.mem_map.1 hd
     have h1 := hF.few z hz
     have h2 := hfew s hs
     have h3 := normF_len (sum z.d.acts s.acts)
     have h4 := hsl z.d.acts s.acts
     have h5 : z.d.acts.length ≤ (i + 1) * 64 := h1
     omega)
   refine ⟨_, EX ++ (KX ++ L), rfl, (hS.join hS').dropX (EU ++ (KU ++ (.row g8 (ndL u) :: (E ++ K)))), ?_⟩
   refine WL.v (v_assign rfl rfl) rfl <| WL.nil <| WE.block_n <| WE.then_n <| WC.region <| ?_
   refine WL.v (v_add rfl rfl rfl (w_i64 (by omega) (by omega))) rfl ?_
   refine WL.v (v_move rfl rfl) rfl <| WL.nil <| ?_
   exact WE.next ⟨i + 1, xs, xad, xc, EX, KX⟩ (by dsimp only; omega) ⟨by dsimp only; omega, hc, hVX, hKX, ⟨fit_ls rfl hFX, hXf⟩, hlX⟩ (.int rfl (by dsimp only; omega) (.cons rfl (.cons rfl (.cons rfl (.cons rfl .nil))))) (.refl _)
  ·
   refine WL.nt <| WC.seq <| WC.cond_f rfl <| WC.exit <| WE.then_exit <| WE.then_exit <| WE.block_hit <| WE.then_n <| WC.seq <| WC.region <| WL.v (v_move rfl rfl) rfl <| WL.v (v_assign rfl rfl) rfl <| WL.nt <| WC.ret <| ?_
   refine WE.ret1 (P := Tryz.prog) (.inl rfl) Tryz.results94 rfl ?_
   obtain rfl : i = t.kids.length := (by omega)
   rw [List.drop_length] at hc
   have hc : ls.map RuL.d = C := hc
   exact fun w' h => ⟨ad, c, E, K, ls, rfl, hc, hV, hK, fun d hd => (by rw [← hc] at hd; obtain ⟨z, hz, rfl⟩ := List.mem_map.1 hd; exact hF.fit z hz), hl, h⟩
theorem behind_acts {l : List RuD} {u : Nd} {a : Nat} (hla : ∀ x ∈ l, x.acts.length ≤ a) (hb : BLen false u) : ∀ x ∈ behindL l (buildD u), x.acts.length ≤ a * (weighT u).2.toNat := by
  have hw := weighT_ok u
  have k1 := hw.r
  have k2 := hw.a
  have hbl := hb.len
  unfold behindL
  cases hc : behindD (buildD u) l pl0 with
  | none => exact fun x hx => by cases hx
  | some q => exact (behindD_len (kr := (weighT u).1.toNat) (ka := (weighT u).2.toNat) (n := a) (by omega) (by omega) (fun x hx => by have := hb.acts x hx; omega) l pl0 q hla (fun x hx => by cases hx) hc).2.1
structure BrS where
  i : Nat
  ls : List RuL
  ad : Option Addr
  c : Nat
  E : List Ent
  K : List Ent
  r : Int
  a : Nat
  m : Int
set_option maxRecDepth 8000 in
set_option maxHeartbeats 2000000 in
theorem buildRow_c (w : World) (N : Nat) (ih : BdTo N) (t : Nd) (hN : SizeOf.sizeOf t ≤ N + 1) (hk : okT false t) (h16 : t.kind = 16) (hI : t.In) (hA : t.At w) (hG : GW w) (h1 : (weighT t).1 ≤ 300) (h2 : (weighT t).2 ≤ 64) :
    Calls Tryz.prog 98 #[.slice t.ad t.kids.length t.cap] w fun e w' => RsC w w' (rowD (t.kids.map buildD) (allD [ac0])) e := by
  have hlen := hI.nums.2.2.2.2
  have hwt := weighT_eq t
  rw [if_neg (by omega), if_neg (by omega), if_neg (by omega), if_neg (by omega), if_neg (by omega), if_pos h16] at hwt
  have hk0 : t.kids.length ≠ 0 → (wRow (t.kids.map weighT) (1, 1, 0)).1 ≤ 300 ∧ (wRow (t.kids.map weighT) (1, 1, 0)).2 ≤ 64 := fun h => by
    rw [if_neg h] at hwt
    rw [← hwt]
    exact ⟨h1, h2⟩
  generalize hC : rowD (t.kids.map buildD) (allD [ac0]) = C
  generalize hW : wRow (t.kids.map weighT) (1, 1, 0) = W at hk0
  refine enter Tryz.func98 rfl Tryz.ntmps98 rfl (St.start (fun _ => False) w) ?_
  refine WC.seq <| WC.region <| WL.v (v_assign rfl rfl) rfl <| WL.nt <| WC.seq <| WC.region <| WL.v (v_build rfl rfl zero_225 plc_225 rfl) rfl <| ?_
  refine WL.buildSlice rfl rfl Tryz.underlying221 sz_225 zero_225 rfl (by decide) (by show some (splice (List.replicate 1 _).flatten 0 (acL ac0)) = some (acL ac0); exact congrArg some (splice_all rfl)) (.none rfl) rfl rfl ?_
  intro g7 hg7
  refine WL.call rfl rfl ck_92 (.none rfl) rfl rfl ?_
  intro w1 hS
  have hr0 : Rg w1 (some ⟨g7, 0, none⟩) (actsL [ac0]) := fun _ => ⟨g7, 0, rfl, fun j v hj => by rw [Nat.zero_add]; exact (show Row w1 g7 (acL ac0) from hS.holds (.row g7 (acL ac0)) (by simp)).cell (by simpa [encL] using hj)⟩
  refine (all_c w1 (some ⟨g7, 0, none⟩) 1 [ac0] hr0 (fun a h => by rw [List.mem_singleton.1 h]; exact ac0_three) (by decide)).mono ?_
  rintro e w' ⟨ad0, c0, E0, K0, l0, rfl, hd0, hV0, hK0, hF0, hl0, hS'⟩
  refine ⟨_, E0 ++ (K0 ++ []), rfl, (hS.join hS').dropX [.row g7 (acL ac0)], ?_⟩
  refine WL.v (v_assign rfl rfl) rfl <| WL.nt <| WC.seq <| WC.seq <| WC.region <| WL.v (v_move rfl rfl) rfl <| WL.v (v_len_slice rfl rfl Tryz.underlying24) rfl <| WL.v (v_move rfl rfl) rfl <| WL.nt <| WC.block <| ?_
  refine WC.loop (fun x : BrS => [(11, .int .i64 x.i), (10, .int .i64 t.kids.length), (9, .slice t.ad t.kids.length t.cap), (3, .slice x.ad x.ls.length x.c)]) (fun x => x.E ++ (x.K ++ [])) (fun x => x.i ≤ t.kids.length ∧ rowD ((t.kids.drop x.i).map buildD) (x.ls.map RuL.d) = C ∧ Vec 19 x.ad x.ls.length x.c (rulesL x.ls) x.E ∧ (∀ r ∈ x.ls, RuOwn x.K r) ∧ RsFit x.a x.ls ∧ x.a ≤ 64 ∧ x.ls.length ≤ 100000000 ∧ wRow ((t.kids.drop x.i).map weighT) (x.r, x.a, x.m) = W ∧ (1 ≤ x.r ∧ x.r ≤ 4097) ∧ (0 ≤ x.m ∧ x.m ≤ 4097)) (fun x => t.kids.length - x.i) ⟨0, l0, ad0, c0, E0, K0, 1, 1, 0⟩ ⟨Nat.zero_le _, by dsimp only; rw [List.drop_zero, hd0]; exact hC, hV0, hK0, ⟨fit_ls hd0 hF0, few_of hd0 (fun d hd => by rw [List.mem_singleton.1 hd]; show 1 ≤ 1; decide)⟩, by dsimp only; decide, hl0, by dsimp only; rw [List.drop_zero]; exact hW, by dsimp only; decide, by dsimp only; decide⟩ (.cons rfl (.cons rfl (.cons rfl (.cons rfl .nil)))) (.refl _) ?_
  rintro ⟨i, ls, ad, c, E, K, r, a, m⟩ ⟨hi, hc, hV, hK, hF, ha, hl, hw, hr, hm⟩
  dsimp only at hi hc hV hK hF ha hl hw hr hm
  dsimp only
  refine WC.seq <| WC.region <| ?_
  refine WL.test (v_lss rfl rfl rfl) (.none rfl) rfl rfl (fun h12 => ?_) (fun h12 => ?_)
  ·
   refine WL.nt <| WC.seq <| WC.cond_t rfl <| WC.skip <| WE.then_n <| WC.seq <| WC.block <| WC.seq <| WC.region <| ?_
   obtain ⟨u, hu⟩ : ∃ u, t.kids[i]? = some u := ⟨t.kids[i]'(by omega), List.getElem?_eq_getElem _⟩
   obtain ⟨b, o, ea, _⟩ := (hA.kid hu).1
   have hku := hk.kid hu
   rw [h16] at hku
   have hku : okT false u := (by rw [show predK 16 i = false by unfold predK; exact decide_eq_false (by omega)] at hku; exact hku)
   have hwu := weighT_ok u
   have k1 := hwu.r
   have k2 := hwu.a
   have k3 := pwr_in k1.1 a
   have k4 := tms_in hr.1 k3.1
   have k6 := tms_in0 (a := (a : Int)) (by omega) k2.1
   rw [drop_cons hu, List.map_cons, rowD] at hc
   rw [drop_cons hu, List.map_cons, wRow] at hw
   have hw : wRow ((t.kids.drop (i + 1)).map weighT) (tms r (pwr (weighT u).1 a), tms (a : Int) (weighT u).2, max m (tms (a : Int) (weighT u).2)) = W := (by rw [← hw, Int.toNat_natCast])
   have hle := wRow_ok ((t.kids.drop (i + 1)).map weighT) (tms r (pwr (weighT u).1 a)) (tms (a : Int) (weighT u).2) (max m (tms (a : Int) (weighT u).2)) (weighM_ok _) k4 k6 (by omega)
   rw [hw] at hle
   have hWle := hk0 (by omega)
   refine WL.v (v_indexAddr (b := b) (off := o) (lo := i) rfl (by show some (Value.slice t.ad _ _) = _; rw [ea]) rfl Tryz.underlying24 sz_26 rfl (by omega)) rfl ?_
   refine WL.v (v_loadN (cs := ndL u) rfl rfl many_26 rfl (rangeIn (fun h => h) (hA.kidAt hu ea))) rfl <| WL.alloc rfl zero_26 (.none rfl) rfl rfl <| ?_
   intro g5 hg5
   refine WL.storeW rfl rfl rfl rfl many_26 rfl rfl (.none rfl) rfl <| WL.as (L' := .row g5 (ndL u) :: (E ++ (K ++ []))) rfl <| WL.nt <| WC.seq <| WC.seq <| WC.region <| WL.v (v_move rfl rfl) rfl <| WL.call rfl rfl ck_172 (.none rfl) rfl rfl <| ?_
   intro w hS
   refine Calls.then (silent_c w ad c ls (hV.rg fun e he => hS.holds e (by simp [he])) hl) hS ?_
   generalize hb16 : decide (silentD (ls.map RuL.d)) = bb
   cases bb
   ·
    refine WL.nt <| WC.cond_f rfl <| WC.skip <| WE.then_n <| WC.region <| ?_
    have hns := of_decide_eq_false hb16
    rw [if_neg hns] at hc
    have ha1 : 1 ≤ a := Decidable.byContradiction fun hn => hns fun x hx => by
      obtain ⟨z, hz, rfl⟩ := List.mem_map.1 hx
      have h9 : z.d.acts.length ≤ a := hF.few z hz
      omega
    have k7 := pwr_ge k1.1 k1.2 a ha1
    have k8 := tms_right hr.1 (by omega) k3.2
    have k9 := tms_right (a := (a : Int)) (by omega) k2.1 k2.2
    have hu1 : (weighT u).1 ≤ 300 := (by omega)
    have hu2 : (weighT u).2 ≤ 64 := (by omega)
    have hbl := build_len N u (Nd.kidN hN hu) false hku hu1 hu2
    have e3 := tms_eq (a := (a : Int)) (b := (weighT u).2) (by omega)
    refine WL.v (v_move rfl rfl) rfl <| WL.v (v_loadN rfl rfl many_26 rfl allAt) rfl <| WL.call rfl rfl ck_42 (.none rfl) rfl rfl <| ?_
    intro w1 hS
    refine (ih u (Nd.kidN hN hu) w1 false hku (hI.kids.get _ _ _ hu) ((hA.kid hu).2.st (fun _ h => h) hS) (hG.keep (fun h => h) hS) hu1 hu2).mono ?_
    rintro e w' ⟨uad, uc, EU, KU, us, rfl, hud, hVU, hKU, hFU, hlU, hS'⟩
    refine ⟨_, _, rfl, hS.join hS', ?_⟩
    refine WL.call rfl rfl ck_170 (.none rfl) rfl rfl ?_
    intro w hS
    refine Calls.then (bound_c w) hS ?_
    refine WL.call rfl rfl ck_173 (.none rfl) rfl rfl ?_
    intro w1 hS
    refine (Behind_c w1 ad uad c uc ls us 4194304 16777216 (by decide) (by decide) (rsAt_of hV hK hS (fun e he => by simp [he]) (fun e he => by simp [he])) (rsAt_of hVU hKU hS (fun e he => by simp [he]) (fun e he => by simp [he])) ⟨hF.fit, fun r hr => Nat.le_trans (hF.few r hr) ha⟩ ⟨fit_ls hud hFU, few_of hud (kid_few (Nd.kidN hN hu) hku hu1 hu2)⟩ hl hlU).mono ?_
    rintro e w' ⟨xad, xc, EX, KX, xs, rfl, hxd, hVX, hKX, hFX, hlX, hS'⟩
    rw [← hxd] at hFX
    have hxd : xs.map RuL.d = behindL (ls.map RuL.d) (buildD u) := (by rw [hxd, hud]; rfl)
    rw [← hxd] at hc
    have e4 : ((a * (weighT u).2.toNat : Nat) : Int) = tms (a : Int) (weighT u).2 := (by rw [e3, Int.natCast_mul, Int.toNat_of_nonneg k2.1])
    have hXf : ∀ r ∈ xs, r.acts.length ≤ a * (weighT u).2.toNat := few_of hxd (behind_acts (fun x hx => by obtain ⟨z, hz, rfl⟩ := List.mem_map.1 hx; exact hF.few z hz) hbl)
    rw [← e4] at hw
    refine ⟨_, EX ++ (KX ++ []), rfl, (hS.join hS').dropX (EU ++ (KU ++ (.row g5 (ndL u) :: (E ++ K)))), ?_⟩
    refine WL.v (v_assign rfl rfl) rfl <| WL.nil <| WE.block_n <| WE.then_n <| WC.region <| ?_
    refine WL.v (v_add rfl rfl rfl (w_i64 (by omega) (by omega))) rfl ?_
    refine WL.v (v_move rfl rfl) rfl <| WL.nil <| ?_
    exact WE.next ⟨i + 1, xs, xad, xc, EX, KX, tms r (pwr (weighT u).1 a), a * (weighT u).2.toNat, max m ((a * (weighT u).2.toNat : Nat) : Int)⟩ (by dsimp only; omega) ⟨by dsimp only; omega, hc, hVX, hKX, ⟨fit_ls rfl hFX, hXf⟩, by dsimp only; omega, hlX, hw, k4, by dsimp only; omega⟩ (.int rfl (by dsimp only; omega) (.cons rfl (.cons rfl (.cons rfl .nil)))) (.refl _)
   ·
    refine WL.nt <| WC.cond_t rfl <| WC.seq <| WC.region <| WL.v (v_move rfl rfl) rfl <| WL.v (v_assign rfl rfl) rfl <| WL.nt <| WC.ret <| WE.then_ret <| WE.block_ret <| WE.then_ret <| WE.then_ret <| WE.block_ret <| WE.then_ret <| ?_
    refine WE.ret1 (P := Tryz.prog) (.inl rfl) Tryz.results98 rfl ?_
    rw [if_pos (of_decide_eq_true hb16)] at hc
    exact fun w' h => ⟨ad, c, E, K, ls, rfl, hc, hV, hK, fun d hd => (by rw [← hc] at hd; obtain ⟨z, hz, rfl⟩ := List.mem_map.1 hd; exact hF.fit z hz), hl, h.dropX [.row g5 (ndL u)]⟩
  ·
   refine WL.nt <| WC.seq <| WC.cond_f rfl <| WC.exit <| WE.then_exit <| WE.then_exit <| WE.block_hit <| WE.then_n <| WC.seq <| WC.region <| WL.v (v_move rfl rfl) rfl <| WL.v (v_assign rfl rfl) rfl <| WL.nt <| WC.ret <| ?_
   refine WE.ret1 (P := Tryz.prog) (.inl rfl) Tryz.results98 rfl ?_
   obtain rfl : i = t.kids.length := (by omega)
   rw [List.drop_length] at hc
   have hc : ls.map RuL.d = C := hc
   exact fun w' h => ⟨ad, c, E, K, ls, rfl, hc, hV, hK, fun d hd => (by rw [← hc] at hd; obtain ⟨z, hz, rfl⟩ := List.mem_map.1 hd; exact hF.fit z hz), hl, by simpa using h⟩
end Go.Proofs.YtmhahajadgkolaaGreatDoor
/- join: buildIf, build. -/
namespace Go.Proofs.YtmhahajadgkolaaGreatDoor
open Go.RowKit

theorem PList_c (w : World) (g : Nat) (p : PlL) (hR : w.rangeAt g 0 p.cells) : Calls Tryz.prog 178 #[.pointer (some ⟨g, 0, none⟩)] w fun e w' => e = .returned (.slice p.ad p.ls.length p.c) ∧ Frm (fun _ => False) w w' := by
  refine enter Tryz.func178 rfl Tryz.ntmps178 rfl (St.start (fun _ => False) w) ?_
  refine WC.seq <| WC.region <| WL.v (v_assign rfl rfl) rfl <| WL.nt <| WC.seq <| WC.region <| WL.v (v_move rfl rfl) rfl <| WL.v (v_nilCheck rfl rfl) rfl <| WL.v (v_fieldAddr0 rfl rfl fld_385_1) rfl <| WL.v (v_load1 rfl rfl one_54 (cellOld (fun h => h) (hR 2 _ rfl))) rfl <| WL.v (v_assign rfl rfl) rfl <| WL.nt <| WC.ret <| WE.ret1 (P := Tryz.prog) (.inl rfl) Tryz.results178 rfl <| ?_
  exact fun w' h => ⟨rfl, h.frm⟩
structure IfS where
  i : Nat
  p : PlL
  E : List Ent
  Em : List Ent
  H : List Ent
  K : List Ent
structure IfT where
  ls : List RuL
  ad : Option Addr
  c : Nat
  E : List Ent
  K : List Ent
set_option maxRecDepth 8000 in
set_option maxHeartbeats 4000000 in
theorem buildIf_c (w : World) (N : Nat) (ih : BdTo N) (t : Nd) (hN : SizeOf.sizeOf t ≤ N + 1) (hk : okT false t) (h17 : t.kind = 17) (hI : t.In) (hA : t.At w) (hG : GW w) (h1 : (weighT t).1 ≤ 300) (h2 : (weighT t).2 ≤ 64) :
    Calls Tryz.prog 99 #[ndV t] w fun e w' => RsC w w' (buildD t) e := by
  have hlen := hI.nums.2.2.2.2
  have bl := buildD_eq t
  have wt := weighT_eq t
  rw [if_neg (by omega), if_neg (by omega), if_neg (by omega), if_neg (by omega), if_neg (by omega), if_neg (by omega), if_neg (by omega), if_neg (by omega), if_pos h17] at bl
  rw [if_neg (by omega), if_neg (by omega), if_neg (by omega), if_neg (by omega), if_neg (by omega), if_neg (by omega), if_pos h17] at wt
  obtain ⟨u0, hu0⟩ := kid_of hk (i := 0) (by rw [h17]; decide)
  obtain ⟨u1, hu1⟩ := kid_of hk (i := 1) (by rw [h17]; decide)
  obtain ⟨u2, hu2⟩ := kid_of hk (i := 2) (by rw [h17]; decide)
  have hl2 := (List.getElem?_eq_some_iff.1 hu2).1
  have o0 := hk.kid hu0
  have o1 := hk.kid hu1
  have o2 := hk.kid hu2
  rw [h17] at o0 o1 o2
  have o0 : okT true u0 := o0
  have o1 : okT false u1 := o1
  have o2 : okT false u2 := o2
  rw [nthD_get hu0, nthD_get hu1, nthD_get hu2] at bl
  rw [wNth_get hu0, wNth_get hu1, wNth_get hu2] at wt
  rw [wt] at h1 h2
  dsimp only at h1 h2
  have w0 := weighT_ok u0
  have w1 := weighT_ok u1
  have w2 := weighT_ok u2
  have a0 := w0.r
  have a1 := w1.r
  have a2 := w2.r
  have hm : 1 ≤ max (weighT u1).1 (weighT u2).1 ∧ max (weighT u1).1 (weighT u2).1 ≤ 4097 := by omega
  have t1 := tms_left (by omega) a0.2 hm.1
  have t2 := tms_right a0.1 (by omega) hm.2
  have p0 := weigh_pred o0
  obtain ⟨b, o, ea, hr0⟩ := (hA.kid hu0).1
  have hr1 := hA.kidAt hu1 ea
  have hr2 := hA.kidAt hu2 ea
  have few0 := kid_few (Nd.kidN hN hu0) o0 (by omega) (by omega)
  have few1 := kid_few (Nd.kidN hN hu1) o1 (by omega) (by omega)
  have few2 := kid_few (Nd.kidN hN hu2) o2 (by omega) (by omega)
  rw [bl]
  generalize hD : ifD (buildD u1) (buildD u2) (buildD u0) pl0 = D
  refine enter Tryz.func99 rfl Tryz.ntmps99 rfl (St.start (fun _ => False) w) ?_
  refine WC.seq <| WC.region <| WL.box rfl rfl rfl (.none rfl) rfl rfl <| ?_
  intro g1 hg1
  refine WL.v (v_assign rfl rfl) rfl <| WL.nt <| WC.seq <| WC.held ([.row g1 (ndL t)]) mixed <| ?_
  refine WRH.first (g := 4) [0, 1, 2, 3, 5, 6, 7, 8] (by kernel_rfl) (by kernel_rfl) (fun w hS => hS.sub (by repeat (first | exact List.Sublist.refl _ | exact List.nil_sublist _ | refine List.Sublist.cons_cons _ ?_ | refine List.Sublist.cons _ ?_ | refine List.sublist_append_of_sublist_right ?_))) ?_
  refine WH.val (v_fieldAddr0 rfl rfl fld_26_4) (.none rfl) rfl rfl <| WH.val (v_load1 rfl rfl one_24 (cellAt (v := .slice t.ad t.kids.length t.cap) rfl)) (.none rfl) rfl rfl <| ?_
  refine WH.val (v_indexAddr (b := b) (off := o) (lo := 1) rfl (by show some (Value.slice t.ad _ _) = _; rw [ea]) rfl Tryz.underlying24 sz_26 rfl (by omega)) (.none rfl) rfl rfl ?_
  refine WH.val (v_loadN (cs := ndL u1) rfl rfl many_26 rfl (rangeIn (fun h => h) hr1)) (.none rfl) rfl rfl <| WH.val (v_fieldAddr0 rfl rfl fld_26_4) (.none rfl) rfl rfl <| WH.val (v_load1 rfl rfl one_24 (cellAt (v := .slice t.ad t.kids.length t.cap) rfl)) (.none rfl) rfl rfl <| ?_
  refine WH.val (v_indexAddr (b := b) (off := o) (lo := 2) rfl (by show some (Value.slice t.ad _ _) = _; rw [ea]) rfl Tryz.underlying24 sz_26 rfl (by omega)) (.none rfl) rfl rfl ?_
  refine WH.val (v_loadN (cs := ndL u2) rfl rfl many_26 rfl (rangeIn (fun h => h) hr2)) (.none rfl) rfl rfl <| WH.nil <| ?_
  refine WRH.one (g := 3) 4 (by kernel_rfl) ?_
  refine WL.call rfl rfl ck_42 (.none rfl) rfl rfl ?_
  intro w1 hS
  refine (ih u1 (Nd.kidN hN hu1) w1 false o1 (hI.kids.get _ _ _ hu1) ((hA.kid hu1).2.st (fun _ h => h) hS) (hG.keep (fun h => h) hS) (by omega) (by omega)).mono ?_
  rintro e w' ⟨ad1, c1, E1, K1, ls1, rfl, hd1, hV1, hK1, hF1, hl1, hS'⟩
  refine ⟨_, .row g1 (ndL t) :: (E1 ++ K1), rfl, (hS.join hS').permX, ?_⟩
  refine WL.nilH (fun w hS => hS.sub (by repeat (first | exact List.Sublist.refl _ | exact List.nil_sublist _ | refine List.Sublist.cons_cons _ ?_ | refine List.Sublist.cons _ ?_ | refine List.sublist_append_of_sublist_right ?_))) ?_
  refine WRH.one (g := 2) 9 (by kernel_rfl) ?_
  refine WL.call rfl rfl ck_42 (.none rfl) rfl rfl ?_
  intro w1 hS
  refine (ih u2 (Nd.kidN hN hu2) w1 false o2 (hI.kids.get _ _ _ hu2) ((hA.kid hu2).2.st (fun _ h => h) hS) (hG.keep (fun h => h) hS) (by omega) (by omega)).mono ?_
  rintro e w' ⟨ad2, c2, E2, K2, ls2, rfl, hd2, hV2, hK2, hF2, hl2', hS'⟩
  refine ⟨_, .row g1 (ndL t) :: (E1 ++ (K1 ++ (E2 ++ K2))), rfl, (hS.join hS').permX, ?_⟩
  refine WL.nilH (fun w hS => hS.sub (by repeat (first | exact List.Sublist.refl _ | exact List.nil_sublist _ | refine List.Sublist.cons_cons _ ?_ | refine List.Sublist.cons _ ?_ | refine List.sublist_append_of_sublist_right ?_))) ?_
  refine WRH.first (g := 0) [10, 11] (by kernel_rfl) (by kernel_rfl) (fun w hS => hS.sub (by repeat (first | exact List.Sublist.refl _ | exact List.nil_sublist _ | refine List.Sublist.cons_cons _ ?_ | refine List.Sublist.cons _ ?_ | refine List.sublist_append_of_sublist_right ?_))) ?_
  refine WH.val (v_assign rfl rfl) (.none rfl) rfl rfl <| WH.val (v_assign rfl rfl) (.none rfl) rfl rfl <| WH.nil <| ?_
  refine WRH.done (by kernel_rfl) ?_
  refine WE.then_n <| WC.seq <| WC.region <| WL.call rfl rfl ck_170 (.none rfl) rfl rfl <| ?_
  intro w hS
  refine Calls.then (bound_c w) hS ?_
  refine WL.call rfl rfl ck_174 (.none rfl) rfl rfl ?_
  intro w1 hS
  refine (PNew_c w1 4194304 16777216).mono ?_
  rintro e w' ⟨gp, rfl, hS'⟩
  refine ⟨_, _, rfl, hS.join hS', ?_⟩
  refine WL.v (v_assign rfl rfl) rfl <| WL.nt <| WC.seq <| WC.seq <| WC.region <| WL.v (v_fieldAddr0 rfl rfl fld_26_4) rfl <| WL.v (v_load1 rfl rfl one_24 (cellAt (v := .slice t.ad t.kids.length t.cap) rfl)) rfl <| ?_
  refine WL.v (v_indexAddr (b := b) (off := o) (lo := 0) rfl (by show some (Value.slice t.ad _ _) = _; rw [ea]) rfl Tryz.underlying24 sz_26 rfl (by omega)) rfl ?_
  refine WL.v (v_loadN (cs := ndL u0) rfl rfl many_26 rfl (rangeIn (fun h => h) hr0)) rfl <| WL.call rfl rfl ck_42 (.none rfl) rfl rfl <| ?_
  intro w1 hS
  refine (ih u0 (Nd.kidN hN hu0) w1 true o0 (hI.kids.get _ _ _ hu0) ((hA.kid hu0).2.st (fun _ h => h) hS) (hG.keep (fun h => h) hS) (by omega) (by omega)).mono ?_
  rintro e w' ⟨ad0, c0, E0, K0, ls0, rfl, hd0, hV0, hK0, hF0, hl0, hS'⟩
  generalize hB : E0 ++ (K0 ++ (E1 ++ (K1 ++ (E2 ++ (K2 ++ [Ent.row g1 (ndL t)]))))) = B
  have mE0 : ∀ e ∈ E0, e ∈ B := fun e he => by rw [← hB]; simp [he]
  have mK0 : ∀ e ∈ K0, e ∈ B := fun e he => by rw [← hB]; simp [he]
  have mE1 : ∀ e ∈ E1, e ∈ B := fun e he => by rw [← hB]; simp [he]
  have mK1 : ∀ e ∈ K1, e ∈ B := fun e he => by rw [← hB]; simp [he]
  have mE2 : ∀ e ∈ E2, e ∈ B := fun e he => by rw [← hB]; simp [he]
  have mK2 : ∀ e ∈ K2, e ∈ B := fun e he => by rw [← hB]; simp [he]
  refine ⟨_, .row gp (PlL.cells ⟨4194304, 16777216, none, 0, [], none, 0, [], none, #[], 0⟩) :: ([] ++ ([] ++ ([] ++ ([] ++ B)))), rfl, (by rw [← hB]; exact (hS.join hS').permX), ?_⟩
  refine WL.v (v_len_slice rfl rfl Tryz.underlying54) rfl <| WL.v (v_move rfl rfl) rfl <| WL.nt <| WC.block <| ?_
  refine WC.loop (fun x : IfS => [(31, .int .i64 x.i), (30, .int .i64 ls0.length), (29, .slice ad0 ls0.length c0), (3, .slice ad1 ls1.length c1), (4, .slice ad2 ls2.length c2), (5, .pointer (some ⟨gp, 0, none⟩))]) (fun x => .row gp x.p.cells :: (x.E ++ (x.Em ++ (x.H ++ (x.K ++ B))))) (fun x => x.i ≤ ls0.length ∧ ifD (buildD u1) (buildD u2) ((ls0.drop x.i).map RuL.d) x.p.d = D ∧ PlAt x.p x.E x.Em x.H x.K) (fun x => ls0.length - x.i) ⟨0, ⟨4194304, 16777216, none, 0, [], none, 0, [], none, #[], 0⟩, [], [], [], []⟩ ⟨Nat.zero_le _, by dsimp only; rw [List.drop_zero, hd0]; exact hD, PlAt.new 4194304 16777216 (by decide) (by decide)⟩ (.cons rfl (.cons rfl (.cons rfl (.cons rfl (.cons rfl (.cons rfl .nil)))))) (.refl _) ?_
  rintro ⟨i, p, E, Em, H, K⟩ ⟨hi, hc, hP⟩
  dsimp only at hi hc hP
  dsimp only
  refine WC.seq <| WC.region <| ?_
  refine WL.test (v_lss rfl rfl rfl) (.none rfl) rfl rfl (fun h32 => ?_) (fun h32 => ?_)
  ·
   refine WL.nt <| WC.seq <| WC.cond_t rfl <| WC.skip <| WE.then_n <| WC.seq <| WC.block <| WC.seq <| WC.region <| ?_
   obtain ⟨r, hr⟩ : ∃ x, ls0[i]? = some x := ⟨ls0[i]'(by omega), List.getElem?_eq_getElem _⟩
   have hrm := List.mem_of_getElem? hr
   have hrf := fit_ls hd0 hF0 r hrm
   obtain ⟨b1, o1, ea1, q1⟩ := hV0.srcM (L := .row gp p.cells :: (E ++ (Em ++ (H ++ (K ++ B))))) (fun e he => by simp [mE0 e he]) (by rw [rulesL_len]; omega)
   rw [drop_cons hr, List.map_cons, ifD] at hc
   refine WL.v ((v_indexAddr (b := b1) (off := o1) (lo := i) rfl (by show some (Value.slice ad0 _ _) = _; rw [ea1]) rfl Tryz.underlying54 sz_223 rfl (by omega))) rfl ?_
   refine WL.v (v_loadN (cs := r.cells) rfl rfl many_223 (RuL.len r) (fun w' hS' => Rg.seg RuL.len (q1 _ _ w' hS') hr)) rfl <| WL.alloc rfl zero_223 (.none rfl) rfl rfl <| ?_
   intro g7 hg7
   refine WL.storeW rfl rfl rfl rfl many_223 rfl rfl (.none rfl) rfl <| WL.as (L' := .row g7 r.cells :: .row gp p.cells :: (E ++ (Em ++ (H ++ (K ++ B))))) rfl <| WL.nt <| WC.seq <| WC.region <| WL.v (v_move rfl rfl) rfl <| WL.v (v_assign rfl rfl) rfl <| WL.nt <| ?_
   refine WC.cut (fun x : IfT => [(8, .slice x.ad x.ls.length x.c), (7, .pointer (some ⟨g7, 0, none⟩)), (31, .int .i64 i), (30, .int .i64 ls0.length), (29, .slice ad0 ls0.length c0), (3, .slice ad1 ls1.length c1), (4, .slice ad2 ls2.length c2), (5, .pointer (some ⟨gp, 0, none⟩))]) (fun _ => .row g7 r.cells :: .row gp p.cells :: (E ++ (Em ++ (H ++ (K ++ B))))) (fun x => x.ls.map RuL.d = (if 0 < r.d.acts.length then buildD u1 else buildD u2) ∧ Vec 19 x.ad x.ls.length x.c (rulesL x.ls) x.E ∧ (∀ y ∈ x.ls, RuOwn x.K y) ∧ (∀ e ∈ x.E, e ∈ B) ∧ (∀ e ∈ x.K, e ∈ B) ∧ RsFit 64 x.ls ∧ x.ls.length ≤ 100000000) ?_ ?_
   ·
    refine WC.seq <| WC.region <| WL.v (v_fieldAddr0 rfl rfl fld_223_1) rfl <| WL.v (v_load1 rfl rfl one_221 (cellAt (v := .slice r.ad r.acts.length r.c) (ruC_acts r))) rfl <| WL.v (v_len_slice rfl rfl Tryz.underlying221) rfl <| ?_
    refine WL.test (v_gtr rfl rfl rfl) (.none rfl) rfl rfl (fun h39 => ?_) (fun h39 => ?_)
    ·
     refine WL.nt <| WC.cond_t rfl <| WC.region <| WL.v (v_move rfl rfl) rfl <| WL.v (v_assign rfl rfl) rfl <| WL.nil <| ?_
     exact WE.mid ⟨ls1, ad1, c1, E1, K1⟩ ⟨by rw [if_pos (by show 0 < r.acts.length; omega)]; exact hd1, hV1, hK1, mE1, mK1, ⟨fit_ls hd1 hF1, few_of hd1 few1⟩, hl1⟩ (.cons rfl (.cons rfl (.cons rfl (.cons rfl (.cons rfl (.cons rfl (.cons rfl (.cons rfl .nil)))))))) (.refl _)
    ·
     refine WL.nt <| WC.cond_f rfl <| WC.skip <| ?_
     exact WE.mid ⟨ls2, ad2, c2, E2, K2⟩ ⟨by rw [if_neg (by show ¬ 0 < r.acts.length; omega)]; exact hd2, hV2, hK2, mE2, mK2, ⟨fit_ls hd2 hF2, few_of hd2 few2⟩, hl2'⟩ (.cons rfl (.cons rfl (.cons rfl (.cons rfl (.cons rfl (.cons rfl (.cons rfl (.cons rfl .nil)))))))) (.refl _)
   ·
    rintro ⟨ys, ya, yc, EY, KY⟩ ⟨hyd, hVY, hKY, mEY, mKY, hFY, hly⟩
    dsimp only at hyd hVY hKY mEY mKY hFY hly
    dsimp only
    rw [← hyd] at hc
    refine WC.seq <| WC.region <| WL.v (v_move rfl rfl) rfl <| WL.v (v_len_slice rfl rfl Tryz.underlying54) rfl <| WL.v (v_move rfl rfl) rfl <| WL.nt <| WC.block <| ?_
    refine WC.loop (fun x : IfS => [(43, .int .i64 x.i), (42, .int .i64 ys.length), (41, .slice ya ys.length yc), (7, .pointer (some ⟨g7, 0, none⟩)), (31, .int .i64 i), (30, .int .i64 ls0.length), (29, .slice ad0 ls0.length c0), (3, .slice ad1 ls1.length c1), (4, .slice ad2 ls2.length c2), (5, .pointer (some ⟨gp, 0, none⟩))]) (fun x => .row g7 r.cells :: .row gp x.p.cells :: (x.E ++ (x.Em ++ (x.H ++ (x.K ++ B))))) (fun x => x.i ≤ ys.length ∧ ifD (buildD u1) (buildD u2) ((ls0.drop (i + 1)).map RuL.d) (ifI r.d ((ys.drop x.i).map RuL.d) x.p.d) = D ∧ PlAt x.p x.E x.Em x.H x.K) (fun x => ys.length - x.i) ⟨0, p, E, Em, H, K⟩ ⟨Nat.zero_le _, by dsimp only; rw [List.drop_zero]; exact hc, hP⟩ (.cons rfl (.cons rfl (.cons rfl (.cons rfl (.cons rfl (.cons rfl (.cons rfl (.cons rfl (.cons rfl (.cons rfl .nil)))))))))) (.refl _) ?_
    rintro ⟨j, p2, E3, Em3, H3, K3⟩ ⟨hj, hd, hP2⟩
    dsimp only at hj hd hP2
    dsimp only
    refine WC.seq <| WC.region <| ?_
    refine WL.test (v_lss rfl rfl rfl) (.none rfl) rfl rfl (fun h44 => ?_) (fun h44 => ?_)
    ·
     refine WL.nt <| WC.seq <| WC.cond_t rfl <| WC.skip <| WE.then_n <| WC.seq <| WC.block <| WC.seq <| WC.region <| ?_
     obtain ⟨s, hs⟩ : ∃ x, ys[j]? = some x := ⟨ys[j]'(by omega), List.getElem?_eq_getElem _⟩
     have hsm := List.mem_of_getElem? hs
     have hsf := hFY.fit s hsm
     have hsn := hFY.few s hsm
     obtain ⟨b2, o2, ea2, q2⟩ := hVY.srcM (L := .row g7 r.cells :: .row gp p2.cells :: (E3 ++ (Em3 ++ (H3 ++ (K3 ++ B))))) (fun e he => by simp [mEY e he]) (by rw [rulesL_len]; omega)
     rw [drop_cons hs, List.map_cons, ifI] at hd
     refine WL.v ((v_indexAddr (b := b2) (off := o2) (lo := j) rfl (by show some (Value.slice ya _ _) = _; rw [ea2]) rfl Tryz.underlying54 sz_223 rfl (by omega))) rfl ?_
     refine WL.v (v_loadN (cs := s.cells) rfl rfl many_223 (RuL.len s) (fun w' hS' => Rg.seg RuL.len (q2 _ _ w' hS') hs)) rfl <| WL.alloc rfl zero_223 (.none rfl) rfl rfl <| ?_
     intro g10 hg10
     refine WL.storeW rfl rfl rfl rfl many_223 rfl rfl (.none rfl) rfl <| WL.as (L' := .row g10 s.cells :: .row g7 r.cells :: .row gp p2.cells :: (E3 ++ (Em3 ++ (H3 ++ (K3 ++ B))))) rfl <| WL.nt <| WC.seq <| WC.region <| WL.v (v_fieldAddr0 rfl rfl fld_223_0) rfl <| WL.v (v_loadN rfl rfl many_220 rfl (segAt (g := g7) (m := 18) (new := mtL r.m) (ru_match r))) rfl <| WL.v (v_fieldAddr0 rfl rfl fld_223_0) rfl <| WL.v (v_loadN rfl rfl many_220 rfl (segAt (g := g10) (m := 18) (new := mtL s.m) (ru_match s))) rfl <| WL.call rfl rfl ck_175 (.none rfl) rfl rfl <| ?_
     intro w hS
     refine Calls.then (MAnd_c w r.m s.m hrf.isIn.m hsf.isIn.m) hS ?_
     refine WL.v (v_move rfl rfl) rfl <| WL.v (v_extract rfl rfl rfl) rfl <| WL.v (v_extract rfl rfl rfl) rfl <| WL.alloc rfl zero_220 (.none rfl) rfl rfl <| ?_
     intro g11 hg11
     refine WL.storeW rfl rfl rfl rfl many_220 rfl rfl (.none rfl) rfl <| WL.as (L' := .row g11 (mtL ((r.m.and s.m).getD mt0)) :: .row g10 s.cells :: .row g7 r.cells :: .row gp p2.cells :: (E3 ++ (Em3 ++ (H3 ++ (K3 ++ B))))) rfl <| WL.v (v_assign rfl rfl) rfl <| WL.nt <| WC.seq <| WC.region <| WL.v (v_move rfl rfl) rfl <| ?_
     generalize hb36 : (r.m.and s.m).isSome = bb
     cases bb
     ·
      refine WL.v (v_move rfl rfl) rfl ?_
      iterate 4 refine WL.sk rfl ?_
      refine WL.v (v_pick_f rfl rfl rfl) rfl <| WL.nt <| WC.cond_f rfl <| WC.skip <| WE.block_n <| WE.then_n <| WC.region <| ?_
      refine WL.v (v_add rfl rfl rfl (w_i64 (by omega) (by omega))) rfl ?_
      refine WL.v (v_move rfl rfl) rfl <| WL.nil <| ?_
      have hno : r.d.m.and s.d.m = none := (by cases h : r.m.and s.m with | none => exact h | some x => rw [h] at hb36; cases hb36)
      rw [hno] at hd
      exact WE.next ⟨j + 1, p2, E3, Em3, H3, K3⟩ (by dsimp only; omega) ⟨by dsimp only; omega, hd, hP2⟩ (.int rfl (by dsimp only; omega) (.cons rfl (.cons rfl (.cons rfl (.cons rfl (.cons rfl (.cons rfl (.cons rfl (.cons rfl (.cons rfl .nil)))))))))) (by repeat (first | exact List.Sublist.refl _ | refine List.Sublist.cons _ ?_))
     ·
      have hmm : ∃ m, r.m.and s.m = some m := (by cases h : r.m.and s.m with | none => rw [h] at hb36; cases hb36 | some x => exact ⟨x, rfl⟩)
      obtain ⟨m, hmm⟩ := hmm
      rw [hmm]
      obtain ⟨hmeet, hmb⟩ := and_some hmm
      have hmI : m.In := (by rw [hmb]; exact Mt.both_in hrf.isIn.m hsf.isIn.m)
      have hmZ : m.Nz := (by rw [hmb]; exact Mt.both_nz hrf.isIn.nz hsf.isIn.nz)
      have hmd : r.d.m.and s.d.m = some m := hmm
      rw [hmd] at hd
      dsimp only at hd
      dsimp only [Option.getD]
      refine WL.v (v_move rfl rfl) rfl <| WL.val (v_move rfl rfl) (.some rfl rfl rfl) rfl rfl <| WL.val (v_loadN rfl rfl many_220 rfl allAt) (.some rfl rfl rfl) rfl rfl <| WL.call rfl rfl ck_176 (.some rfl rfl rfl) rfl rfl <| ?_
      intro w hS
      refine Calls.then (Covers_c w gp p2 m (hP2.r hS (by simp) (fun e he => by simp [he]) (fun e he => by simp [he])) hP2.ok hmI (by have := hP2.room; omega)) hS ?_
      generalize hb59 : decide (covD p2.ds m) = bb
      cases bb
      ·
       refine WL.val (v_not rfl rfl rfl) (.some rfl rfl rfl) rfl rfl <| WL.v (v_pick_t rfl rfl rfl) rfl <| WL.nt <| WC.cond_t rfl <| WC.region <| WL.v (v_move rfl rfl) rfl <| WL.v (v_loadN rfl rfl many_220 rfl allAt) rfl <| WL.v (v_fieldAddr0 rfl rfl fld_223_1) rfl <| WL.v (v_load1 rfl rfl one_221 (cellAt (v := .slice s.ad s.acts.length s.c) (ruC_acts s))) rfl <| WL.call rfl rfl ck_177 (.none rfl) rfl rfl <| ?_
       intro w1 hS1
       refine (Add_c (L := .row g11 (mtL m) :: .row g10 s.cells :: .row g7 r.cells :: B) gp p2 m s.ad s.c s.acts hP2 hS1.permX hmI hmZ (fun w2 hS2 => ?_) (fun a h => hsf.three h) (by omega)).mono ?_
       · obtain ⟨Eo, hVo, hEo⟩ := hKY s hsm
         exact hVo.rg fun e he => hS2.holds e (by simp [mKY e (hEo e he)])
       rintro e w' ⟨b66, p3, E4, Em4, H4, K4, rfl, hyes, hno, hP3, hS'⟩
       rw [if_neg (of_decide_eq_false hb59 : ¬ covD p2.d.out m)] at hd
       have hp3 : (p2.d.add m s.d.acts).getD p2.d = p3.d := (by
         have e : s.d.acts = s.acts := rfl
         rw [e]
         cases b66 with
         | true => rw [hyes rfl]; rfl
         | false => rw [(hno rfl).1, (hno rfl).2]; rfl)
       rw [hp3] at hd
       refine ⟨_, .row g7 r.cells :: .row gp p3.cells :: (E4 ++ (Em4 ++ (H4 ++ (K4 ++ B)))), rfl, hS'.dropX [.row g11 (mtL m), .row g10 s.cells], ?_⟩
       refine WL.nil <| WE.block_n <| WE.then_n <| WC.region <| ?_
       refine WL.v (v_add rfl rfl rfl (w_i64 (by omega) (by omega))) rfl ?_
       refine WL.v (v_move rfl rfl) rfl <| WL.nil <| ?_
       exact WE.next ⟨j + 1, p3, E4, Em4, H4, K4⟩ (by dsimp only; omega) ⟨by dsimp only; omega, hd, hP3⟩ (.int rfl (by dsimp only; omega) (.cons rfl (.cons rfl (.cons rfl (.cons rfl (.cons rfl (.cons rfl (.cons rfl (.cons rfl (.cons rfl .nil)))))))))) (.refl _)
      ·
       refine WL.val (v_not rfl rfl rfl) (.some rfl rfl rfl) rfl rfl <| WL.v (v_pick_t rfl rfl rfl) rfl <| WL.nt <| WC.cond_f rfl <| WC.skip <| WE.block_n <| WE.then_n <| WC.region <| ?_
       refine WL.v (v_add rfl rfl rfl (w_i64 (by omega) (by omega))) rfl ?_
       refine WL.v (v_move rfl rfl) rfl <| WL.nil <| ?_
       rw [if_pos (of_decide_eq_true hb59 : covD p2.d.out m)] at hd
       exact WE.next ⟨j + 1, p2, E3, Em3, H3, K3⟩ (by dsimp only; omega) ⟨by dsimp only; omega, hd, hP2⟩ (.int rfl (by dsimp only; omega) (.cons rfl (.cons rfl (.cons rfl (.cons rfl (.cons rfl (.cons rfl (.cons rfl (.cons rfl (.cons rfl .nil)))))))))) (by repeat (first | exact List.Sublist.refl _ | refine List.Sublist.cons _ ?_))
    ·
     refine WL.nt <| WC.seq <| WC.cond_f rfl <| WC.exit <| WE.then_exit <| WE.then_exit <| WE.block_hit <| WE.block_n <| WE.then_n <| WC.region <| ?_
     refine WL.v (v_add rfl rfl rfl (w_i64 (by omega) (by omega))) rfl ?_
     refine WL.v (v_move rfl rfl) rfl <| WL.nil <| ?_
     obtain rfl : j = ys.length := (by omega)
     rw [List.drop_length] at hd
     exact WE.next ⟨i + 1, p2, E3, Em3, H3, K3⟩ (by dsimp only; omega) ⟨by dsimp only; omega, hd, hP2⟩ (.int rfl (by dsimp only; omega) (.cons rfl (.cons rfl (.cons rfl (.cons rfl (.cons rfl .nil)))))) (.cons _ (.refl _))
  ·
   refine WL.nt <| WC.seq <| WC.cond_f rfl <| WC.exit <| WE.then_exit <| WE.then_exit <| WE.block_hit <| WE.then_n <| WC.seq <| WC.region <| WL.v (v_move rfl rfl) rfl <| WL.call rfl rfl ck_178 (.none rfl) rfl rfl <| ?_
   intro w hS
   refine Calls.then (PList_c w gp p (fun j v hj => by rw [Nat.zero_add]; exact (show Row w gp p.cells from hS.holds (.row gp p.cells) (by simp)).cell hj)) hS ?_
   refine WL.v (v_assign rfl rfl) rfl <| WL.nt <| WC.ret <| WE.ret1 (P := Tryz.prog) (.inl rfl) Tryz.results99 rfl <| ?_
   obtain rfl : i = ls0.length := (by omega)
   rw [List.drop_length] at hc
   have hc : p.d = D := hc
   have hrm := hP.room
   exact fun w' h => ⟨p.ad, p.c, E, K, p.ls, rfl, (by rw [← hc]; rfl), hP.out, hP.own, fun d hd => (by rw [← hc] at hd; exact hP.ok.fit d hd), by omega, h.dropX (.row gp p.cells :: (Em ++ (H ++ B)))⟩
/-! ### Not: acts turned over, in place -/
theorem encL_cell {α : Type} {enc : α → List Value} {s : Nat} (hs : ∀ x, (enc x).length = s) (R : List Value) : ∀ (ys : List α) (i t : Nat) (y : α), ys[i]? = some y → t < s → (encL enc ys ++ R)[i * s + t]? = (enc y)[t]?
  | [], _, _, _, h, _ => by simp at h
  | x :: ys, 0, t, y, h, ht => by
    simp only [List.getElem?_cons_zero, Option.some.injEq] at h
    subst h
    show ((enc x ++ encL enc ys) ++ R)[0 * s + t]? = _
    rw [Nat.zero_mul, Nat.zero_add, List.append_assoc, List.getElem?_append_left (by rw [hs]; exact ht)]
  | x :: ys, i + 1, t, y, h, ht => by
    rw [List.getElem?_cons_succ] at h
    show ((enc x ++ encL enc ys) ++ R)[(i + 1) * s + t]? = _
    rw [List.append_assoc, List.getElem?_append_right (by rw [hs, Nat.add_mul]; omega), hs, show (i + 1) * s + t - s = i * s + t by rw [Nat.add_mul]; omega]
    exact encL_cell hs R ys i t y h ht
theorem encL_setC {α : Type} {enc : α → List Value} {s : Nat} (hs : ∀ x, (enc x).length = s) (R : List Value) : ∀ (ys : List α) (i t : Nat) (y x : α) (v : Value), ys[i]? = some y → t < s → (enc y).set t v = enc x → (encL enc ys ++ R).set (i * s + t) v = encL enc (ys.set i x) ++ R
  | [], _, _, _, _, _, h, _, _ => by simp at h
  | z :: ys, 0, t, y, x, v, h, ht, he => by
    simp only [List.getElem?_cons_zero, Option.some.injEq] at h
    subst h
    show ((enc z ++ encL enc ys) ++ R).set (0 * s + t) v = (enc x ++ encL enc ys) ++ R
    rw [Nat.zero_mul, Nat.zero_add, List.append_assoc, List.set_append_left _ _ (by rw [hs]; exact ht), he, List.append_assoc]
  | z :: ys, i + 1, t, y, x, v, h, ht, he => by
    rw [List.getElem?_cons_succ] at h
    show ((enc z ++ encL enc ys) ++ R).set ((i + 1) * s + t) v = (enc z ++ encL enc (ys.set i x)) ++ R
    rw [List.append_assoc, List.set_append_right _ _ (by rw [hs, Nat.add_mul]; omega), hs, show (i + 1) * s + t - s = i * s + t by rw [Nat.add_mul]; omega, encL_setC hs R ys i t y x v h ht he, List.append_assoc]
theorem ruC_set (r : RuL) (ad : Option Addr) (c : Nat) (us : List Ac) : r.cells.set 18 (.slice ad us.length c) = RuL.cells ⟨r.m, ad, c, us⟩ := by
  show (mtL r.m ++ [_]).set 18 _ = mtL r.m ++ [_]
  rw [List.set_append_right _ _ (by rw [mtL_len]; exact Nat.le_refl _), mtL_len]
  rfl
/-- Turned over up to i. -/
def NotI (ds xs : List RuD) (i : Nat) : Prop := ∀ k, xs[k]? = if k < i then (ds[k]?).map notD else ds[k]?
theorem NotI.step {ds : List RuD} {xs : List RuL} {i : Nat} {r x : RuL} (h : NotI ds (xs.map RuL.d) i) (hr : xs[i]? = some r) (hx : x.d = notD r.d) : NotI ds ((xs.set i x).map RuL.d) (i + 1) := fun k => by
  have hlt := (List.getElem?_eq_some_iff.1 hr).1
  have h0 := h i
  rw [if_neg (by omega), List.getElem?_map, hr] at h0
  have hk := h k
  rw [List.map_set, List.getElem?_set]
  by_cases e : i = k
  · subst e
    rw [if_pos rfl, if_pos (by rw [List.length_map]; exact hlt), if_pos (by omega), ← h0, hx]
    rfl
  · rw [if_neg e, hk]
    by_cases e2 : k < i
    · rw [if_pos e2, if_pos (by omega)]
    · rw [if_neg e2, if_neg (by omega)]
theorem NotI.done {ds xs : List RuD} {n : Nat} (h : NotI ds xs n) (hn : xs.length ≤ n) (hl : ds.length = xs.length) : xs = ds.map notD := by
  apply List.ext_getElem?
  intro k
  rw [h k, List.getElem?_map]
  by_cases e : k < n
  · rw [if_pos e]
  · rw [if_neg e, List.getElem?_eq_none (by omega)]
    rfl
theorem notD_fit {r : RuD} (h : r.Fit) : (notD r).Fit := by
  unfold notD
  split
  · exact ⟨⟨h.isIn.m, h.isIn.nz, fun a h => (by cases h)⟩, fun a h => (by cases h)⟩
  · exact ⟨⟨h.isIn.m, h.isIn.nz, fun a ha => by rw [List.mem_singleton.1 ha]; exact ⟨ac0_three.1, ac0_three.2.1⟩⟩, fun a ha => by rw [List.mem_singleton.1 ha]; exact ac0_three.2.2⟩
structure NoS where
  i : Nat
  xs : List RuL
  E : List Ent
  K : List Ent
end Go.Proofs.YtmhahajadgkolaaGreatDoor
/- join: build, Compile. -/
namespace Go.Proofs.YtmhahajadgkolaaGreatDoor
open Go.RowKit

set_option maxRecDepth 8000 in
set_option maxHeartbeats 8000000 in
theorem build_step (N : Nat) (ih : BdTo N) : BdTo (N + 1) := by
  intro t hN w pred hk hI hA hG h1 h2
  have hlen := hI.nums.2.2.2.2
  have bd := buildD_eq t
  have wt := weighT_eq t
  have pf : 11 ≤ t.kind → pred = false := fun h => by
    cases pred with
    | false => rfl
    | true => have := fits_pred hk.parts.1; omega
  refine enter Tryz.func42 rfl Tryz.ntmps42 rfl (St.start (fun _ => False) w) ?_
  refine WC.seq <| WC.region <| WL.box rfl rfl rfl (.none rfl) rfl rfl <| ?_
  intro g1 hg1
  refine WL.v (v_assign rfl rfl) rfl <| WL.nt <| WC.seq <| WC.seq <| WC.region <| WL.v (v_fieldAddr0 rfl rfl fld_26_0) rfl <| WL.v (v_load1 rfl rfl one_3 (cellAt rfl)) rfl <| WL.nt <| WC.block <| WC.seq <| WC.seq <| WC.region <| ?_
  refine WL.test (v_eql rfl rfl rfl) (.none rfl) rfl rfl (fun h10 => ?_) (fun h10 => ?_)
  ·
   refine WL.v (v_assign rfl rfl) rfl <| WL.nt <| WC.cond_t rfl <| WC.skip <| WE.then_n <| WC.cond_t rfl <| WC.seq <| WC.region <| WL.call rfl rfl ck_92 (.none rfl) rfl rfl <| ?_
   intro w1 hS
   rw [if_pos (by omega)] at bd
   refine (allN_c w1).mono ?_
   rintro e w' ⟨ad, c, E, K, ls, rfl, hd, hV, hK, hF, hl, hS'⟩
   refine ⟨_, _, rfl, hS.join hS', ?_⟩
   refine WL.v (v_assign rfl rfl) rfl <| WL.nt <| WC.ret <| WE.block_ret <| WE.then_ret <| WE.ret1 (P := Tryz.prog) (.inl rfl) Tryz.results42 rfl <| ?_
   exact fun w' h => ⟨ad, c, E, K, ls, rfl, hd.trans bd.symm, hV, hK, fun d hq => hF d (by rw [← bd]; exact hq), hl, h.dropX [Ent.row g1 (ndL t)]⟩
  ·
   refine WL.v (v_assign rfl rfl) rfl <| WL.nt <| WC.cond_f rfl <| WC.region <| ?_
   refine WL.test (v_eql rfl rfl rfl) (.none rfl) rfl rfl (fun h11 => ?_) (fun h11 => ?_)
   ·
    refine WL.v (v_assign rfl rfl) rfl <| WL.nt <| WC.cond_t rfl <| WC.seq <| WC.region <| WL.call rfl rfl ck_92 (.none rfl) rfl rfl <| ?_
    intro w1 hS
    rw [if_pos (by omega)] at bd
    refine (allN_c w1).mono ?_
    rintro e w' ⟨ad, c, E, K, ls, rfl, hd, hV, hK, hF, hl, hS'⟩
    refine ⟨_, _, rfl, hS.join hS', ?_⟩
    refine WL.v (v_assign rfl rfl) rfl <| WL.nt <| WC.ret <| WE.block_ret <| WE.then_ret <| WE.ret1 (P := Tryz.prog) (.inl rfl) Tryz.results42 rfl <| ?_
    exact fun w' h => ⟨ad, c, E, K, ls, rfl, hd.trans bd.symm, hV, hK, fun d hq => hF d (by rw [← bd]; exact hq), hl, h.dropX [Ent.row g1 (ndL t)]⟩
   ·
    refine WL.v (v_assign rfl rfl) rfl <| WL.nt <| WC.cond_f rfl <| WC.seq <| WC.region <| ?_
    refine WL.test (v_eql rfl rfl rfl) (.none rfl) rfl rfl (fun h14 => ?_) (fun h14 => ?_)
    ·
     refine WL.v (v_assign rfl rfl) rfl <| WL.nt <| WC.cond_t rfl <| WC.seq <| WC.region <| WL.v (v_loadN rfl rfl many_26 rfl allAt) rfl <| WL.call rfl rfl ck_93 (.none rfl) rfl rfl <| ?_
     intro w1 hS
     rw [if_neg (by omega), if_pos (by omega)] at bd
     refine (buildTest_c w1 t pred hk h14 hI (hG.keep (fun h => h) hS)).mono ?_
     rintro e w' ⟨ad, c, E, K, ls, rfl, hd, hV, hK, hF, hl, hS'⟩
     refine ⟨_, _, rfl, hS.join hS', ?_⟩
     refine WL.v (v_assign rfl rfl) rfl <| WL.nt <| WC.ret <| WE.block_ret <| WE.then_ret <| WE.ret1 (P := Tryz.prog) (.inl rfl) Tryz.results42 rfl <| ?_
     exact fun w' h => ⟨ad, c, E, K, ls, rfl, hd.trans bd.symm, hV, hK, fun d hq => hF d (by rw [← bd]; exact hq), hl, h.dropX [Ent.row g1 (ndL t)]⟩
    ·
     refine WL.v (v_assign rfl rfl) rfl <| WL.nt <| WC.cond_f rfl <| WC.seq <| WC.region <| ?_
     refine WL.test (v_eql rfl rfl rfl) (.none rfl) rfl rfl (fun h18 => ?_) (fun h18 => ?_)
     ·
      refine WL.v (v_assign rfl rfl) rfl <| WL.nt <| WC.cond_t rfl <| WC.seq <| WC.region <| ?_
      obtain ⟨u, hu⟩ := kid_of hk (i := 0) (by rw [show t.kind = 4 from h18]; decide)
      have hlt := (List.getElem?_eq_some_iff.1 hu).1
      obtain ⟨b, o, ea, hr0⟩ := (hA.kid hu).1
      have o0 := hk.kid hu
      rw [show t.kind = 4 from h18] at o0
      have o0 : okT true u := o0
      rw [if_neg (by omega), if_neg (by omega), if_pos (by omega), nthD_get hu] at bd
      rw [if_neg (by omega), if_pos (by omega), wNth_get hu] at wt
      rw [wt] at h1
      have p0 := weigh_pred o0
      refine WL.v (v_fieldAddr0 rfl rfl fld_26_4) rfl <| WL.v (v_load1 rfl rfl one_24 (cellAt (v := .slice t.ad t.kids.length t.cap) rfl)) rfl <| ?_
      refine WL.v (v_indexAddr (b := b) (off := o) (lo := 0) rfl (by show some (Value.slice t.ad _ _) = _; rw [ea]) rfl Tryz.underlying24 sz_26 rfl (by omega)) rfl ?_
      refine WL.v (v_loadN (cs := ndL u) rfl rfl many_26 rfl (rangeIn (fun h => h) (hA.kidAt hu ea))) rfl <| WL.call rfl rfl ck_42 (.none rfl) rfl rfl <| ?_
      intro w1 hS
      refine (ih u (Nd.kidN hN hu) w1 true o0 (hI.kids.get _ _ _ hu) ((hA.kid hu).2.st (fun _ h => h) hS) (hG.keep (fun h => h) hS) h1 (by omega)).mono ?_
      rintro e w' ⟨ad, c, E0, K0, ls, rfl, hd, hV0, hK0, hF, hl, hS'⟩
      refine ⟨_, E0 ++ (K0 ++ [Ent.row g1 (ndL t)]), rfl, (hS.join hS').permX, ?_⟩
      refine WL.v (v_assign rfl rfl) rfl <| WL.nt <| WC.seq <| WC.seq <| WC.region <| WL.v (v_move rfl rfl) rfl <| WL.v (v_len_slice rfl rfl Tryz.underlying54) rfl <| WL.v (v_move rfl rfl) rfl <| WL.nt <| WC.block <| WC.loop (fun x : NoS => [(26, .int .i64 x.i), (25, .int .i64 ls.length), (3, .slice ad ls.length c)]) (fun x => x.E ++ (x.K ++ [Ent.row g1 (ndL t)])) (fun x => x.i ≤ ls.length ∧ x.xs.length = ls.length ∧ NotI (ls.map RuL.d) (x.xs.map RuL.d) x.i ∧ Vec 19 ad ls.length c (rulesL x.xs) x.E ∧ ∀ r ∈ x.xs, RuOwn x.K r) (fun x => ls.length - x.i) ⟨0, ls, E0, K0⟩ ⟨Nat.zero_le _, rfl, fun k => (if_neg (Nat.not_lt_zero _)).symm, hV0, hK0⟩ (.cons rfl (.cons rfl (.cons rfl .nil))) (.refl _) <| ?_
      rintro ⟨i, xs, E, K⟩ ⟨hi, hxl, hn, hV, hK⟩
      dsimp only at hi hxl hn hV hK
      dsimp only
      refine WC.seq <| WC.region <| ?_
      refine WL.test (v_lss rfl rfl rfl) (.none rfl) rfl rfl (fun h27 => ?_) (fun h27 => ?_)
      ·
       refine WL.nt <| WC.seq <| WC.cond_t rfl <| WC.skip <| WE.then_n <| WC.seq <| WC.block <| WC.seq <| WC.region <| WL.v (v_move rfl rfl) rfl <| WL.v (v_assign rfl rfl) rfl <| WL.nt <| WC.seq <| WC.region <| ?_
       obtain ⟨r, hr⟩ : ∃ x, xs[i]? = some x := ⟨xs[i]'(by omega), List.getElem?_eq_getElem _⟩
       obtain ⟨gE, R, ead, eE, hlR, hlc⟩ := Vec.split (by rw [hxl]; exact hV : Vec 19 ad xs.length c (encL RuL.cells xs) E) (fun e => by rw [e] at hr; simp at hr)
       rw [eE]
       refine WL.as (L' := .row gE (encL RuL.cells xs ++ R) :: (K ++ [Ent.row g1 (ndL t)])) rfl ?_
       have hrc : (encL RuL.cells xs ++ R)[0 + i * 19 + 18]? = some (.slice r.ad r.acts.length r.c) := (by rw [show 0 + i * 19 + 18 = i * 19 + 18 by omega, encL_cell RuL.len R xs i 18 r hr (by omega)]; exact ruC_acts r)
       have hli : 0 + i * 19 + 18 < (encL RuL.cells xs ++ R).length := (by rw [List.length_append, encL_len RuL.len]; omega)
       refine WL.v (v_move rfl rfl) rfl <| WL.v (v_move rfl rfl) rfl <| ?_
       refine WL.v (v_indexAddr (b := gE) (off := 0) (lo := i) rfl (by show some (Value.slice ad _ _) = _; rw [ead]) rfl Tryz.underlying54 sz_223 rfl (by omega)) rfl ?_
       refine WL.v (v_fieldAddr rfl rfl fld_223_1) rfl <| WL.v (v_load1 rfl rfl one_221 (cellAt (v := .slice r.ad r.acts.length r.c) hrc)) rfl <| WL.v (v_len_slice rfl rfl Tryz.underlying221) rfl <| ?_
       refine WL.test (v_gtr rfl rfl rfl) (.none rfl) rfl rfl (fun h35 => ?_) (fun h35 => ?_)
       ·
        refine WL.nt <| WC.cond_t rfl <| WC.region <| WL.v (v_move rfl rfl) rfl <| WL.v (v_move rfl rfl) rfl <| ?_
        refine WL.v (v_indexAddr (b := gE) (off := 0) (lo := i) rfl (by show some (Value.slice ad _ _) = _; rw [ead]) rfl Tryz.underlying54 sz_223 rfl (by omega)) rfl ?_
        refine WL.v (v_fieldAddr rfl rfl fld_223_1) rfl <| WL.store1 rfl rfl rfl rfl one_221 hli (.none rfl) rfl <| WL.nil <| WE.block_n <| WE.then_n <| WC.region <| ?_
        refine WL.v (v_add rfl rfl rfl (w_i64 (by omega) (by omega))) rfl ?_
        refine WL.v (v_move rfl rfl) rfl <| WL.nil <| ?_
        have e9 : (encL RuL.cells xs ++ R).set (0 + i * 19 + 18) (.slice none 0 0) = rulesL (xs.set i ⟨r.m, none, 0, []⟩) ++ R := (by rw [show 0 + i * 19 + 18 = i * 19 + 18 by omega]; exact encL_setC RuL.len R xs i 18 r _ _ hr (by omega) (ruC_set r none 0 []))
        refine WE.as (L' := [Ent.row gE (rulesL (xs.set i ⟨r.m, none, 0, []⟩) ++ R)] ++ (K ++ [Ent.row g1 (ndL t)])) (by rw [← e9] <;> rfl) ?_
        exact WE.next ⟨i + 1, xs.set i ⟨r.m, none, 0, []⟩, [Ent.row gE (rulesL (xs.set i ⟨r.m, none, 0, []⟩) ++ R)], K⟩ (by dsimp only; omega) ⟨by dsimp only; omega, by dsimp only; rw [List.length_set]; exact hxl, hn.step hr (by show (⟨r.m, []⟩ : RuD) = ⟨r.m, if 0 < r.acts.length then [] else [ac0]⟩; rw [if_pos (by omega)]), by
            rw [ead]
            exact Vec.row (by rw [List.take_append_of_le_length (by rw [rulesL_len, List.length_set, hxl]; exact Nat.le_refl _), List.take_of_length_le (by rw [rulesL_len, List.length_set, hxl]; exact Nat.le_refl _)]) (by rw [← e9, List.length_set]; exact hlR) (by omega), fun y hy => (by
            rcases List.mem_or_eq_of_mem_set hy with hy | rfl
            · exact hK y hy
            · exact ⟨[], Vec.nil 10, fun e he => (by cases he)⟩)⟩ (.int rfl (by dsimp only; omega) (.cons rfl (.cons rfl .nil))) (.refl _)
       ·
        refine WL.nt <| WC.cond_f rfl <| WC.region <| WL.v (v_move rfl rfl) rfl <| WL.v (v_move rfl rfl) rfl <| WL.v (v_build rfl rfl zero_225 plc_225 rfl) rfl <| ?_
        refine WL.buildSlice rfl rfl Tryz.underlying221 sz_225 zero_225 rfl (by decide) (by show some (splice (List.replicate 1 _).flatten 0 (acL ac0)) = some (acL ac0); exact congrArg some (splice_all rfl)) (.none rfl) rfl rfl ?_
        intro g43 hg43
        refine WL.v (v_indexAddr (b := gE) (off := 0) (lo := i) rfl (by show some (Value.slice ad _ _) = _; rw [ead]) rfl Tryz.underlying54 sz_223 rfl (by omega)) rfl ?_
        refine WL.v (v_fieldAddr rfl rfl fld_223_1) rfl <| WL.store1 rfl rfl rfl rfl one_221 hli (.none rfl) rfl <| WL.nil <| WE.block_n <| WE.then_n <| WC.region <| ?_
        refine WL.v (v_add rfl rfl rfl (w_i64 (by omega) (by omega))) rfl ?_
        refine WL.v (v_move rfl rfl) rfl <| WL.nil <| ?_
        have e9 : (encL RuL.cells xs ++ R).set (0 + i * 19 + 18) (.slice (some ⟨g43, 0, none⟩) 1 1) = rulesL (xs.set i ⟨r.m, some ⟨g43, 0, none⟩, 1, [ac0]⟩) ++ R := (by rw [show 0 + i * 19 + 18 = i * 19 + 18 by omega]; exact encL_setC RuL.len R xs i 18 r _ _ hr (by omega) (ruC_set r (some ⟨g43, 0, none⟩) 1 [ac0]))
        refine WE.as (L' := .row g43 (acL ac0) :: ([Ent.row gE (rulesL (xs.set i ⟨r.m, some ⟨g43, 0, none⟩, 1, [ac0]⟩) ++ R)] ++ (K ++ [Ent.row g1 (ndL t)]))) (by rw [← e9] <;> rfl) ?_
        refine WE.to (L' := [Ent.row gE (rulesL (xs.set i ⟨r.m, some ⟨g43, 0, none⟩, 1, [ac0]⟩) ++ R)] ++ (([Ent.row g43 (acL ac0)] ++ K) ++ [Ent.row g1 (ndL t)])) (fun w hS => hS.permX) ?_
        exact WE.next ⟨i + 1, xs.set i ⟨r.m, some ⟨g43, 0, none⟩, 1, [ac0]⟩, [Ent.row gE (rulesL (xs.set i ⟨r.m, some ⟨g43, 0, none⟩, 1, [ac0]⟩) ++ R)], [Ent.row g43 (acL ac0)] ++ K⟩ (by dsimp only; omega) ⟨by dsimp only; omega, by dsimp only; rw [List.length_set]; exact hxl, hn.step hr (by show (⟨r.m, [ac0]⟩ : RuD) = ⟨r.m, if 0 < r.acts.length then [] else [ac0]⟩; rw [if_neg (by omega)]), by
            rw [ead]
            exact Vec.row (by rw [List.take_append_of_le_length (by rw [rulesL_len, List.length_set, hxl]; exact Nat.le_refl _), List.take_of_length_le (by rw [rulesL_len, List.length_set, hxl]; exact Nat.le_refl _)]) (by rw [← e9, List.length_set]; exact hlR) (by omega), fun y hy => (by
            rcases List.mem_or_eq_of_mem_set hy with hy | rfl
            · exact (hK y hy).more
            · exact ⟨[Ent.row g43 (acL ac0)], Vec.row rfl rfl (Nat.le_refl _), fun e he => List.mem_append_left _ he⟩)⟩ (.int rfl (by dsimp only; omega) (.cons rfl (.cons rfl .nil))) (.refl _)
      ·
       refine WL.nt <| WC.seq <| WC.cond_f rfl <| WC.exit <| WE.then_exit <| WE.then_exit <| WE.block_hit <| WE.then_n <| WC.seq <| WC.region <| WL.v (v_move rfl rfl) rfl <| WL.v (v_assign rfl rfl) rfl <| WL.nt <| WC.ret <| ?_
       refine WE.block_ret <| WE.then_ret <| WE.ret1 (P := Tryz.prog) (.inl rfl) Tryz.results42 rfl <| ?_
       obtain rfl : i = ls.length := (by omega)
       have hdone := hn.done (by rw [List.length_map, hxl]; exact Nat.le_refl _) (by rw [List.length_map, List.length_map, hxl])
       rw [hd] at hdone
       exact fun w' h => ⟨ad, c, E, K, xs, by rw [hxl], hdone.trans bd.symm, by rw [hxl]; exact hV, hK, fun d hq => (by rw [bd] at hq; obtain ⟨z, hz, rfl⟩ := List.mem_map.1 hq; exact notD_fit (hF z hz)), by omega, h.dropX [Ent.row g1 (ndL t)]⟩
     ·
      refine WL.v (v_assign rfl rfl) rfl <| WL.nt <| WC.cond_f rfl <| WC.seq <| WC.region <| ?_
      refine WL.test (v_eql rfl rfl rfl) (.none rfl) rfl rfl (fun h49 => ?_) (fun h49 => ?_)
      ·
       refine WL.v (v_assign rfl rfl) rfl <| WL.nt <| WC.cond_t rfl <| WC.seq <| WC.held ([.row g1 (ndL t)]) mixed <| ?_
       refine WRH.first (g := 4) [0, 1, 2] (by kernel_rfl) (by kernel_rfl) (fun w hS => hS.sub (by repeat (first | exact List.Sublist.refl _ | exact List.nil_sublist _ | refine List.Sublist.cons_cons _ ?_ | refine List.Sublist.cons _ ?_ | refine List.sublist_append_of_sublist_right ?_))) ?_
       have hp : ∀ u ∈ t.kids, okT true u := fun u hu => (by
         obtain ⟨j, _, hj⟩ := hk.mem hu
         rw [show t.kind = 5 from h49] at hj
         exact hj)
       have hw1 := wAll_ok (t.kids.map weighT) (1, 0) (weighM_ok _) ⟨by decide, by decide⟩
       rw [if_neg (by omega), if_neg (by omega), if_pos (by omega)] at wt
       rw [if_neg (by omega), if_neg (by omega), if_neg (by omega), if_pos (by omega)] at bd
       rw [wt] at h1
       have hks : ∀ u ∈ t.kids, (weighT u).1 ≤ 300 ∧ (weighT u).2 ≤ 64 := fun u hu => ⟨by have := (hw1.2.2.2 _ (List.mem_map_of_mem hu)).1; omega, by rw [weigh_pred (hp u hu)]; decide⟩
       refine WH.val (v_fieldAddr0 rfl rfl fld_26_4) (.none rfl) rfl rfl <| WH.val (v_load1 rfl rfl one_24 (cellAt (v := .slice t.ad t.kids.length t.cap) rfl)) (.none rfl) rfl rfl <| WH.val (v_build rfl rfl zero_225 plc_225 rfl) (.none rfl) rfl rfl <| WH.nil <| ?_
       refine WRH.one (g := 3) 3 (by kernel_rfl) ?_
       refine WL.buildSlice rfl rfl Tryz.underlying221 sz_225 zero_225 rfl (by decide) (by show some (splice (List.replicate 1 _).flatten 0 (acL ac0)) = some (acL ac0); exact congrArg some (splice_all rfl)) (.none rfl) rfl rfl ?_
       intro g53 hg53
       refine WL.to (L' := [.row g1 (ndL t), .row g53 (acL ac0)]) (fun w hS => hS.permX) ?_
       refine WL.nilH (fun w hS => hS.sub (by repeat (first | exact List.Sublist.refl _ | exact List.nil_sublist _ | refine List.Sublist.cons_cons _ ?_ | refine List.Sublist.cons _ ?_ | refine List.sublist_append_of_sublist_right ?_))) ?_
       refine WRH.one (g := 2) 4 (by kernel_rfl) ?_
       refine WL.call rfl rfl ck_92 (.none rfl) rfl rfl ?_
       intro w1 hS
       have hr0 : Rg w1 (some ⟨g53, 0, none⟩) (actsL [ac0]) := fun _ => ⟨g53, 0, rfl, fun j v hj => by rw [Nat.zero_add]; exact (show Row w1 g53 (acL ac0) from hS.holds (.row g53 (acL ac0)) (by simp)).cell (by simpa [encL] using hj)⟩
       refine (all_c w1 (some ⟨g53, 0, none⟩) 1 [ac0] hr0 (fun a h => by rw [List.mem_singleton.1 h]; exact ac0_three) (by decide)).mono ?_
       rintro e w' ⟨ad0, c0, E0, K0, l0, rfl, hd0, hV0, hK0, hF0, hl0, hS'⟩
       refine ⟨_, .row g1 (ndL t) :: (E0 ++ K0), rfl, (hS.join hS').dropX [.row g53 (acL ac0)], ?_⟩
       refine WL.nilH (fun w hS => hS.sub (by repeat (first | exact List.Sublist.refl _ | exact List.nil_sublist _ | refine List.Sublist.cons_cons _ ?_ | refine List.Sublist.cons _ ?_ | refine List.sublist_append_of_sublist_right ?_))) ?_
       refine WRH.one (g := 1) 5 (by kernel_rfl) ?_
       refine WL.call rfl rfl ck_94 (.none rfl) rfl rfl ?_
       intro w1 hS
       refine (buildAll_c (L := [.row g1 (ndL t)]) N ih t hN pred hk hI hA hG hks 95 ck_95 bothA sumC_both bothA_ok (fun us vs => by unfold bothA; split; exact Nat.zero_le _; exact Nat.le_add_right _ _) ad0 c0 l0 hV0 hK0 ⟨fit_ls hd0 hF0, few_of hd0 (fun d hd => by rw [List.mem_singleton.1 hd]; show 1 ≤ 64; decide)⟩ hl0 hS.permX).mono ?_
       rintro e w' ⟨ad, c, E, K, ls, rfl, hd, hV, hK, hF, hl, hS'⟩
       rw [hd0] at hd hF
       refine ⟨_, _, rfl, hS'.permX (L' := .row g1 (ndL t) :: (E ++ K)), ?_⟩
       refine WL.nilH (fun w hS => hS.sub (by repeat (first | exact List.Sublist.refl _ | exact List.nil_sublist _ | refine List.Sublist.cons_cons _ ?_ | refine List.Sublist.cons _ ?_ | refine List.sublist_append_of_sublist_right ?_))) ?_
       refine WRH.first (g := 0) [6] (by kernel_rfl) (by kernel_rfl) (fun w hS => hS.sub (by repeat (first | exact List.Sublist.refl _ | exact List.nil_sublist _ | refine List.Sublist.cons_cons _ ?_ | refine List.Sublist.cons _ ?_ | refine List.sublist_append_of_sublist_right ?_))) ?_
       refine WH.val (v_assign rfl rfl) (.none rfl) rfl rfl <| WH.nil <| ?_
       refine WRH.done (by kernel_rfl) ?_
       refine WE.then_n <| WC.ret <| WE.block_ret <| WE.then_ret <| WE.ret1 (P := Tryz.prog) (.inl rfl) Tryz.results42 rfl <| ?_
       exact fun w' h => ⟨ad, c, E, K, ls, rfl, hd.trans bd.symm, hV, hK, fun d hq => hF d (by rw [← bd]; exact hq), hl, h.dropX [Ent.row g1 (ndL t)]⟩
      ·
       refine WL.v (v_assign rfl rfl) rfl <| WL.nt <| WC.cond_f rfl <| WC.seq <| WC.seq <| WC.region <| ?_
       refine WL.test (v_eql rfl rfl rfl) (.none rfl) rfl rfl (fun h57 => ?_) (fun h57 => ?_)
       ·
        refine WL.v (v_assign rfl rfl) rfl <| WL.nt <| WC.cond_t rfl <| WC.skip <| WE.then_n <| WC.cond_t rfl <| WC.seq <| WC.held ([.row g1 (ndL t)]) mixed <| ?_
        refine WRH.first (g := 3) [0, 1] (by kernel_rfl) (by kernel_rfl) (fun w hS => hS.sub (by repeat (first | exact List.Sublist.refl _ | exact List.nil_sublist _ | refine List.Sublist.cons_cons _ ?_ | refine List.Sublist.cons _ ?_ | refine List.sublist_append_of_sublist_right ?_))) ?_
        have hw1 := wAll_ok (t.kids.map weighT) (1, 0) (weighM_ok _) ⟨by decide, by decide⟩
        rw [if_neg (by omega), if_neg (by omega), if_neg (by omega), if_neg (by omega), if_pos (by omega)] at bd
        have hks : ∀ u ∈ t.kids, (weighT u).1 ≤ 300 ∧ (weighT u).2 ≤ 64 := (by
          by_cases h6 : t.kind = 6
          · rw [if_neg (by omega), if_neg (by omega), if_pos (by omega)] at wt
            rw [wt] at h1
            have hp : ∀ u ∈ t.kids, okT true u := fun u hu => (by
              obtain ⟨j, _, hj⟩ := hk.mem hu
              rw [h6] at hj
              exact hj)
            exact fun u hu => ⟨by have := (hw1.2.2.2 _ (List.mem_map_of_mem hu)).1; omega, by rw [weigh_pred (hp u hu)]; decide⟩
          · rw [if_neg (by omega), if_neg (by omega), if_neg (by omega), if_neg (by omega), if_pos (by omega)] at wt
            rw [wt] at h1 h2
            exact fun u hu => ⟨by have := (hw1.2.2.2 _ (List.mem_map_of_mem hu)).1; omega, by have := (hw1.2.2.2 _ (List.mem_map_of_mem hu)).2; omega⟩)
        refine WH.val (v_fieldAddr0 rfl rfl fld_26_4) (.none rfl) rfl rfl <| WH.val (v_load1 rfl rfl one_24 (cellAt (v := .slice t.ad t.kids.length t.cap) rfl)) (.none rfl) rfl rfl <| WH.nil <| ?_
        refine WRH.one (g := 2) 2 (by kernel_rfl) ?_
        refine WL.call rfl rfl ck_92 (.none rfl) rfl rfl ?_
        intro w1 hS
        refine (allN_c w1).mono ?_
        rintro e w' ⟨ad0, c0, E0, K0, l0, rfl, hd0, hV0, hK0, hF0, hl0, hS'⟩
        refine ⟨_, .row g1 (ndL t) :: (E0 ++ K0), rfl, (hS.join hS').permX, ?_⟩
        refine WL.nilH (fun w hS => hS.sub (by repeat (first | exact List.Sublist.refl _ | exact List.nil_sublist _ | refine List.Sublist.cons_cons _ ?_ | refine List.Sublist.cons _ ?_ | refine List.sublist_append_of_sublist_right ?_))) ?_
        refine WRH.one (g := 1) 3 (by kernel_rfl) ?_
        refine WL.call rfl rfl ck_94 (.none rfl) rfl rfl ?_
        intro w1 hS
        refine (buildAll_c (L := [.row g1 (ndL t)]) N ih t hN pred hk hI hA hG hks 96 ck_96 appA sumC_app appA_ok (fun us vs => by unfold appA; rw [List.length_append]; exact Nat.le_refl _) ad0 c0 l0 hV0 hK0 ⟨fit_ls hd0 hF0, few_of hd0 (fun d hd => by rw [List.mem_singleton.1 hd]; show 0 ≤ 64; decide)⟩ hl0 hS.permX).mono ?_
        rintro e w' ⟨ad, c, E, K, ls, rfl, hd, hV, hK, hF, hl, hS'⟩
        rw [hd0] at hd hF
        refine ⟨_, _, rfl, hS'.permX (L' := .row g1 (ndL t) :: (E ++ K)), ?_⟩
        refine WL.nilH (fun w hS => hS.sub (by repeat (first | exact List.Sublist.refl _ | exact List.nil_sublist _ | refine List.Sublist.cons_cons _ ?_ | refine List.Sublist.cons _ ?_ | refine List.sublist_append_of_sublist_right ?_))) ?_
        refine WRH.first (g := 0) [4] (by kernel_rfl) (by kernel_rfl) (fun w hS => hS.sub (by repeat (first | exact List.Sublist.refl _ | exact List.nil_sublist _ | refine List.Sublist.cons_cons _ ?_ | refine List.Sublist.cons _ ?_ | refine List.sublist_append_of_sublist_right ?_))) ?_
        refine WH.val (v_assign rfl rfl) (.none rfl) rfl rfl <| WH.nil <| ?_
        refine WRH.done (by kernel_rfl) ?_
        refine WE.then_n <| WC.ret <| WE.block_ret <| WE.then_ret <| WE.ret1 (P := Tryz.prog) (.inl rfl) Tryz.results42 rfl <| ?_
        exact fun w' h => ⟨ad, c, E, K, ls, rfl, hd.trans bd.symm, hV, hK, fun d hq => hF d (by rw [← bd]; exact hq), hl, h.dropX [Ent.row g1 (ndL t)]⟩
       ·
        refine WL.v (v_assign rfl rfl) rfl <| WL.nt <| WC.cond_f rfl <| WC.region <| ?_
        refine WL.test (v_eql rfl rfl rfl) (.none rfl) rfl rfl (fun h58 => ?_) (fun h58 => ?_)
        ·
         refine WL.v (v_assign rfl rfl) rfl <| WL.nt <| WC.cond_t rfl <| WC.seq <| WC.held ([.row g1 (ndL t)]) mixed <| ?_
         refine WRH.first (g := 3) [0, 1] (by kernel_rfl) (by kernel_rfl) (fun w hS => hS.sub (by repeat (first | exact List.Sublist.refl _ | exact List.nil_sublist _ | refine List.Sublist.cons_cons _ ?_ | refine List.Sublist.cons _ ?_ | refine List.sublist_append_of_sublist_right ?_))) ?_
         have hw1 := wAll_ok (t.kids.map weighT) (1, 0) (weighM_ok _) ⟨by decide, by decide⟩
         rw [if_neg (by omega), if_neg (by omega), if_neg (by omega), if_neg (by omega), if_pos (by omega)] at bd
         have hks : ∀ u ∈ t.kids, (weighT u).1 ≤ 300 ∧ (weighT u).2 ≤ 64 := (by
           by_cases h6 : t.kind = 6
           · rw [if_neg (by omega), if_neg (by omega), if_pos (by omega)] at wt
             rw [wt] at h1
             have hp : ∀ u ∈ t.kids, okT true u := fun u hu => (by
               obtain ⟨j, _, hj⟩ := hk.mem hu
               rw [h6] at hj
               exact hj)
             exact fun u hu => ⟨by have := (hw1.2.2.2 _ (List.mem_map_of_mem hu)).1; omega, by rw [weigh_pred (hp u hu)]; decide⟩
           · rw [if_neg (by omega), if_neg (by omega), if_neg (by omega), if_neg (by omega), if_pos (by omega)] at wt
             rw [wt] at h1 h2
             exact fun u hu => ⟨by have := (hw1.2.2.2 _ (List.mem_map_of_mem hu)).1; omega, by have := (hw1.2.2.2 _ (List.mem_map_of_mem hu)).2; omega⟩)
         refine WH.val (v_fieldAddr0 rfl rfl fld_26_4) (.none rfl) rfl rfl <| WH.val (v_load1 rfl rfl one_24 (cellAt (v := .slice t.ad t.kids.length t.cap) rfl)) (.none rfl) rfl rfl <| WH.nil <| ?_
         refine WRH.one (g := 2) 2 (by kernel_rfl) ?_
         refine WL.call rfl rfl ck_92 (.none rfl) rfl rfl ?_
         intro w1 hS
         refine (allN_c w1).mono ?_
         rintro e w' ⟨ad0, c0, E0, K0, l0, rfl, hd0, hV0, hK0, hF0, hl0, hS'⟩
         refine ⟨_, .row g1 (ndL t) :: (E0 ++ K0), rfl, (hS.join hS').permX, ?_⟩
         refine WL.nilH (fun w hS => hS.sub (by repeat (first | exact List.Sublist.refl _ | exact List.nil_sublist _ | refine List.Sublist.cons_cons _ ?_ | refine List.Sublist.cons _ ?_ | refine List.sublist_append_of_sublist_right ?_))) ?_
         refine WRH.one (g := 1) 3 (by kernel_rfl) ?_
         refine WL.call rfl rfl ck_94 (.none rfl) rfl rfl ?_
         intro w1 hS
         refine (buildAll_c (L := [.row g1 (ndL t)]) N ih t hN pred hk hI hA hG hks 96 ck_96 appA sumC_app appA_ok (fun us vs => by unfold appA; rw [List.length_append]; exact Nat.le_refl _) ad0 c0 l0 hV0 hK0 ⟨fit_ls hd0 hF0, few_of hd0 (fun d hd => by rw [List.mem_singleton.1 hd]; show 0 ≤ 64; decide)⟩ hl0 hS.permX).mono ?_
         rintro e w' ⟨ad, c, E, K, ls, rfl, hd, hV, hK, hF, hl, hS'⟩
         rw [hd0] at hd hF
         refine ⟨_, _, rfl, hS'.permX (L' := .row g1 (ndL t) :: (E ++ K)), ?_⟩
         refine WL.nilH (fun w hS => hS.sub (by repeat (first | exact List.Sublist.refl _ | exact List.nil_sublist _ | refine List.Sublist.cons_cons _ ?_ | refine List.Sublist.cons _ ?_ | refine List.sublist_append_of_sublist_right ?_))) ?_
         refine WRH.first (g := 0) [4] (by kernel_rfl) (by kernel_rfl) (fun w hS => hS.sub (by repeat (first | exact List.Sublist.refl _ | exact List.nil_sublist _ | refine List.Sublist.cons_cons _ ?_ | refine List.Sublist.cons _ ?_ | refine List.sublist_append_of_sublist_right ?_))) ?_
         refine WH.val (v_assign rfl rfl) (.none rfl) rfl rfl <| WH.nil <| ?_
         refine WRH.done (by kernel_rfl) ?_
         refine WE.then_n <| WC.ret <| WE.block_ret <| WE.then_ret <| WE.ret1 (P := Tryz.prog) (.inl rfl) Tryz.results42 rfl <| ?_
         exact fun w' h => ⟨ad, c, E, K, ls, rfl, hd.trans bd.symm, hV, hK, fun d hq => hF d (by rw [← bd]; exact hq), hl, h.dropX [Ent.row g1 (ndL t)]⟩
        ·
         refine WL.v (v_assign rfl rfl) rfl <| WL.nt <| WC.cond_f rfl <| WC.seq <| WC.region <| ?_
         refine WL.test (v_eql rfl rfl rfl) (.none rfl) rfl rfl (fun h64 => ?_) (fun h64 => ?_)
         ·
          refine WL.v (v_assign rfl rfl) rfl <| WL.nt <| WC.cond_t rfl <| WC.seq <| WC.region <| ?_
          obtain ⟨u, hu⟩ := kid_of hk (i := 0) (by rw [show t.kind = 13 from h64]; decide)
          have hlt := (List.getElem?_eq_some_iff.1 hu).1
          obtain ⟨b, o, ea, hr0⟩ := (hA.kid hu).1
          have o0 := hk.kid hu
          rw [show t.kind = 13 from h64] at o0
          have o0 : okT true u := o0
          rw [if_neg (by omega), if_neg (by omega), if_neg (by omega), if_neg (by omega), if_neg (by omega), if_pos (by omega), nthD_get hu] at bd
          rw [if_neg (by omega), if_pos (by omega), wNth_get hu] at wt
          rw [wt] at h1
          have p0 := weigh_pred o0
          refine WL.v (v_fieldAddr0 rfl rfl fld_26_4) rfl <| WL.v (v_load1 rfl rfl one_24 (cellAt (v := .slice t.ad t.kids.length t.cap) rfl)) rfl <| ?_
          refine WL.v (v_indexAddr (b := b) (off := o) (lo := 0) rfl (by show some (Value.slice t.ad _ _) = _; rw [ea]) rfl Tryz.underlying24 sz_26 rfl (by omega)) rfl ?_
          refine WL.v (v_loadN (cs := ndL u) rfl rfl many_26 rfl (rangeIn (fun h => h) (hA.kidAt hu ea))) rfl <| WL.call rfl rfl ck_42 (.none rfl) rfl rfl <| ?_
          intro w1 hS
          refine (ih u (Nd.kidN hN hu) w1 true o0 (hI.kids.get _ _ _ hu) ((hA.kid hu).2.st (fun _ h => h) hS) (hG.keep (fun h => h) hS) h1 (by omega)).mono ?_
          rintro e w' ⟨ad, c, E, K, ls, rfl, hd, hV, hK, hF, hl, hS'⟩
          refine ⟨_, _, rfl, hS.join hS', ?_⟩
          refine WL.v (v_assign rfl rfl) rfl <| WL.nt <| WC.ret <| WE.block_ret <| WE.then_ret <| WE.ret1 (P := Tryz.prog) (.inl rfl) Tryz.results42 rfl <| ?_
          exact fun w' h => ⟨ad, c, E, K, ls, rfl, hd.trans bd.symm, hV, hK, fun d hq => hF d (by rw [← bd]; exact hq), hl, h.dropX [Ent.row g1 (ndL t)]⟩
         ·
          refine WL.v (v_assign rfl rfl) rfl <| WL.nt <| WC.cond_f rfl <| WC.seq <| WC.region <| ?_
          refine WL.test (v_eql rfl rfl rfl) (.none rfl) rfl rfl (fun h71 => ?_) (fun h71 => ?_)
          ·
           refine WL.v (v_assign rfl rfl) rfl <| WL.nt <| WC.cond_t rfl <| WC.seq <| WC.region <| ?_
           obtain ⟨q, hf, hq, hfn, hv⟩ := argE_set hk.parts.2.1 h71
           have h0v := hI.nums.2.2.1
           rw [if_neg (by omega), if_neg (by omega), if_neg (by omega), if_neg (by omega), if_neg (by omega), if_neg (by omega), if_pos (by omega), hfn] at bd
           refine WL.v (v_fieldAddr0 rfl rfl fld_26_1) rfl ?_
           refine WL.v (v_load1 rfl rfl one_22 (cellAt (v := .int .i64 (q : Int)) (by show some (Value.int .i64 t.f) = _; rw [hf]))) rfl ?_
           refine WL.v (v_fieldAddr0 rfl rfl fld_26_2) rfl <| WL.v (v_load1 rfl rfl one_23 (cellAt (v := .int .u64 t.val) rfl)) rfl <| WL.call rfl rfl ck_97 (.none rfl) rfl rfl <| ?_
           intro w hS
           refine Calls.then (AOn_c w q hq t.val h0v.1 hv (hG.keep (fun h => h) hS)) hS ?_
           refine WL.v (v_move rfl rfl) rfl <| WL.v (v_extract rfl rfl rfl) rfl <| WL.v (v_extract rfl rfl rfl) rfl <| WL.alloc rfl zero_225 (.none rfl) rfl rfl <| ?_
           intro g5 hg5
           refine WL.storeW rfl rfl rfl rfl many_225 rfl rfl (.none rfl) rfl <| WL.as (L' := [.row g5 (acL (Ac.one q t.val)), .row g1 (ndL t)]) rfl <| WL.v (v_assign rfl rfl) rfl <| WL.nt <| WC.seq <| WC.seq <| WC.region <| WL.v (v_move rfl rfl) rfl <| ?_
           refine WL.v ((v_neq rfl rfl rfl).f (by omega)) rfl ?_
           refine WL.nt <| WC.cond_f rfl <| WC.skip <| WE.then_n <| WC.seq <| WC.region <| WL.v (v_loadN rfl rfl many_225 rfl allAt) rfl <| ?_
           refine WL.buildSlice rfl rfl Tryz.underlying221 sz_225 zero_225 rfl (by decide) (by show some (splice (List.replicate 1 _).flatten 0 (acL (Ac.one q t.val))) = some (acL (Ac.one q t.val)); exact congrArg some (splice_all rfl)) (.none rfl) rfl rfl ?_
           intro g84 hg84
           refine WL.call rfl rfl ck_92 (.none rfl) rfl rfl ?_
           intro w1 hS
           have hr0 : Rg w1 (some ⟨g84, 0, none⟩) (actsL [Ac.one q t.val]) := fun _ => ⟨g84, 0, rfl, fun j v hj => by rw [Nat.zero_add]; exact (show Row w1 g84 (acL (Ac.one q t.val)) from hS.holds (.row g84 (acL (Ac.one q t.val))) (by simp)).cell (by simpa [encL] using hj)⟩
           refine (all_c w1 (some ⟨g84, 0, none⟩) 1 [Ac.one q t.val] hr0 (fun a h => by rw [List.mem_singleton.1 h]; exact aone_three hq h0v.1 hv) (by show 1 ≤ 100000; decide)).mono ?_
           rintro e w' ⟨ad, c, E, K, ls, rfl, hd, hV, hK, hF, hl, hS'⟩
           refine ⟨_, .row g1 (ndL t) :: (E ++ K), rfl, (hS.join hS').dropX [.row g84 (acL (Ac.one q t.val)), .row g5 (acL (Ac.one q t.val))], ?_⟩
           refine WL.v (v_assign rfl rfl) rfl <| WL.nt <| WC.ret <| WE.block_ret <| WE.then_ret <| WE.ret1 (P := Tryz.prog) (.inl rfl) Tryz.results42 rfl <| ?_
           exact fun w' h => ⟨ad, c, E, K, ls, rfl, hd.trans bd.symm, hV, hK, fun d hq => hF d (by rw [← bd]; exact hq), hl, h.dropX [Ent.row g1 (ndL t)]⟩
          ·
           refine WL.v (v_assign rfl rfl) rfl <| WL.nt <| WC.cond_f rfl <| WC.seq <| WC.region <| ?_
           refine WL.test (v_eql rfl rfl rfl) (.none rfl) rfl rfl (fun h87 => ?_) (fun h87 => ?_)
           ·
            refine WL.v (v_assign rfl rfl) rfl <| WL.nt <| WC.cond_t rfl <| WC.seq <| WC.region <| ?_
            have hpf := pf (by omega)
            subst hpf
            rw [if_neg (by omega), if_neg (by omega), if_neg (by omega), if_neg (by omega), if_neg (by omega), if_neg (by omega), if_neg (by omega), if_pos (by omega)] at bd
            refine WL.v (v_fieldAddr0 rfl rfl fld_26_4) rfl <| WL.v (v_load1 rfl rfl one_24 (cellAt (v := .slice t.ad t.kids.length t.cap) rfl)) rfl <| WL.call rfl rfl ck_98 (.none rfl) rfl rfl <| ?_
            intro w1 hS
            refine (buildRow_c w1 N ih t hN hk h87 hI (hA.st (fun _ h => h) hS) (hG.keep (fun h => h) hS) h1 h2).mono ?_
            rintro e w' ⟨ad, c, E, K, ls, rfl, hd, hV, hK, hF, hl, hS'⟩
            refine ⟨_, _, rfl, hS.join hS', ?_⟩
            refine WL.v (v_assign rfl rfl) rfl <| WL.nt <| WC.ret <| WE.block_ret <| WE.then_ret <| WE.ret1 (P := Tryz.prog) (.inl rfl) Tryz.results42 rfl <| ?_
            exact fun w' h => ⟨ad, c, E, K, ls, rfl, hd.trans bd.symm, hV, hK, fun d hq => hF d (by rw [← bd]; exact hq), hl, h.dropX [Ent.row g1 (ndL t)]⟩
           ·
            refine WL.v (v_assign rfl rfl) rfl <| WL.nt <| WC.cond_f rfl <| WC.seq <| WC.region <| ?_
            refine WL.test (v_eql rfl rfl rfl) (.none rfl) rfl rfl (fun h92 => ?_) (fun h92 => ?_)
            ·
             refine WL.v (v_assign rfl rfl) rfl <| WL.nt <| WC.cond_t rfl <| WC.seq <| WC.region <| ?_
             have hpf := pf (by omega)
             subst hpf
             refine WL.v (v_loadN rfl rfl many_26 rfl allAt) rfl <| WL.call rfl rfl ck_99 (.none rfl) rfl rfl <| ?_
             intro w1 hS
             refine (buildIf_c w1 N ih t hN hk h92 hI (hA.st (fun _ h => h) hS) (hG.keep (fun h => h) hS) h1 h2).mono ?_
             rintro e w' ⟨ad, c, E, K, ls, rfl, hd, hV, hK, hF, hl, hS'⟩
             have bd : buildD t = buildD t := rfl
             refine ⟨_, _, rfl, hS.join hS', ?_⟩
             refine WL.v (v_assign rfl rfl) rfl <| WL.nt <| WC.ret <| WE.block_ret <| WE.then_ret <| WE.ret1 (P := Tryz.prog) (.inl rfl) Tryz.results42 rfl <| ?_
             exact fun w' h => ⟨ad, c, E, K, ls, rfl, hd.trans bd.symm, hV, hK, fun d hq => hF d (by rw [← bd]; exact hq), hl, h.dropX [Ent.row g1 (ndL t)]⟩
            ·
             refine WL.v (v_assign rfl rfl) rfl <| WL.nt <| WC.cond_f rfl <| WC.skip <| WE.block_n <| WE.then_n <| WC.seq <| WC.region <| ?_
             rw [if_neg (by omega), if_neg (by omega), if_neg (by omega), if_neg (by omega), if_neg (by omega), if_neg (by omega), if_neg (by omega), if_neg (by omega), if_neg (by omega)] at bd
             refine WL.v (v_build rfl rfl zero_225 plc_225 rfl) rfl ?_
             refine WL.buildSlice rfl rfl Tryz.underlying221 sz_225 zero_225 rfl (by decide) (by show some (splice (List.replicate 1 _).flatten 0 (acL ac0)) = some (acL ac0); exact congrArg some (splice_all rfl)) (.none rfl) rfl rfl ?_
             intro g96 hg96
             refine WL.call rfl rfl ck_92 (.none rfl) rfl rfl ?_
             intro w1 hS
             have hr0 : Rg w1 (some ⟨g96, 0, none⟩) (actsL [ac0]) := fun _ => ⟨g96, 0, rfl, fun j v hj => by rw [Nat.zero_add]; exact (show Row w1 g96 (acL ac0) from hS.holds (.row g96 (acL ac0)) (by simp)).cell (by simpa [encL] using hj)⟩
             refine (all_c w1 (some ⟨g96, 0, none⟩) 1 [ac0] hr0 (fun a h => by rw [List.mem_singleton.1 h]; exact ac0_three) (by decide)).mono ?_
             rintro e w' ⟨ad, c, E, K, ls, rfl, hd, hV, hK, hF, hl, hS'⟩
             refine ⟨_, .row g1 (ndL t) :: (E ++ K), rfl, (hS.join hS').dropX [.row g96 (acL ac0)], ?_⟩
             refine WL.v (v_assign rfl rfl) rfl <| WL.nt <| WC.ret <| WE.ret1 (P := Tryz.prog) (.inl rfl) Tryz.results42 rfl <| ?_
             exact fun w' h => ⟨ad, c, E, K, ls, rfl, hd.trans bd.symm, hV, hK, fun d hq => hF d (by rw [← bd]; exact hq), hl, h.dropX [Ent.row g1 (ndL t)]⟩
theorem build_c : ∀ N, BdTo N
  | 0 => fun t hN => by cases t; simp only [Nd.mk.sizeOf_spec] at hN; omega
  | N + 1 => build_step N (build_c N)
end Go.Proofs.YtmhahajadgkolaaGreatDoor
/- join: Compile. -/
namespace Go.Proofs.YtmhahajadgkolaaGreatDoor
open Go.RowKit

def codeC (t : Nd) : Int := if (walkT t 1 false 0).1 ≠ 0 then (walkT t 1 false 0).1 else if (weighT t).2 > 64 then 34 else if (weighT t).1 > 4096 then 3 else 0
def CompC (w w' : World) (t : Nd) (e : Ending) : Prop := ∃ ad c E K, ∃ ls : List RuL, e = .returned (.tuple #[.slice ad ls.length c, .int .i64 (codeC t)]) ∧ ls.map RuL.d = (if codeC t = 0 then buildD t else []) ∧ Vec 19 ad ls.length c (rulesL ls) E ∧ (∀ r ∈ ls, RuOwn K r) ∧ (∀ d ∈ ls.map RuL.d, d.Fit) ∧ ls.length ≤ 100000000 ∧ St (fun _ => False) w w' (E ++ K)
theorem CompC.none_ {w w' : World} {t : Nd} (h : St (fun _ => False) w w' []) (hc : codeC t ≠ 0) : CompC w w' t (.returned (.tuple #[.slice none 0 0, .int .i64 (codeC t)])) :=
  ⟨none, 0, [], [], [], rfl, (by rw [if_neg hc]; rfl), Vec.nil 19, fun r h => (by cases h), fun r h => (by cases h), Nat.zero_le _, h⟩
theorem Compile_c (w : World) (t : Nd) (hI : t.In) (hA : t.At w) (hG : GW w) (hW : (walkT t 1 false 0).1 = 0 → (weighT t).2 ≤ 64 → (weighT t).1 ≤ 4096 → (weighT t).1 ≤ 300) :
    Calls Tryz.prog 11 #[ndV t] w fun e w' => CompC w w' t e := by
  refine enter Tryz.func11 rfl Tryz.ntmps11 rfl (St.start (fun _ => False) w) ?_
  refine WC.seq <| WC.region <| WL.box rfl rfl rfl (.none rfl) rfl rfl <| ?_
  intro g1 hg1
  refine WL.v (v_assign rfl rfl) rfl <| WL.v (v_assign rfl rfl) rfl <| WL.nt <| WC.seq <| WC.region <| WL.v (v_loadN rfl rfl many_26 rfl allAt) rfl <| WL.call rfl rfl ck_35 (.none rfl) rfl rfl <| ?_
  intro w hS
  refine Calls.then (Weight_c w t hI (hA.st (fun _ h => h) hS) (hG.keep (fun h => h) hS)) hS ?_
  refine WL.v (v_move rfl rfl) rfl <| WL.v (v_extract rfl rfl rfl) rfl <| WL.v (v_extract rfl rfl rfl) rfl <| WL.v (v_extract rfl rfl rfl) rfl <| WL.v (v_assign rfl rfl) rfl <| WL.v (v_assign rfl rfl) rfl <| WL.v (v_assign rfl rfl) rfl <| WL.nt <| WC.seq <| WC.seq <| WC.region <| WL.v (v_move rfl rfl) rfl <| ?_
  refine WL.test (v_neq rfl rfl rfl) (.none rfl) rfl rfl (fun h14 => ?_) (fun h14 => ?_)
  ·
   refine WL.nt <| WC.cond_t rfl <| WC.seq <| WC.region <| WL.v (v_move rfl rfl) rfl <| WL.v (v_assign rfl rfl) rfl <| WL.v (v_assign rfl rfl) rfl <| WL.nt <| WC.ret <| WE.then_ret <| WE.ret2 (P := Tryz.prog) (.inl rfl) Tryz.results11 rfl rfl <| ?_
   have e : codeC t = (walkT t 1 false 0).1 := (by unfold codeC; exact if_pos h14)
   rw [← e]
   exact fun w' h => CompC.none_ (h.sub (List.nil_sublist _)) (by rw [e]; exact h14)
  ·
   refine WL.nt <| WC.cond_f rfl <| WC.skip <| WE.then_n <| WC.seq <| WC.seq <| WC.region <| ?_
   have h0 : (walkT t 1 false 0).1 = 0 := Decidable.of_not_not h14
   rw [if_pos h0, if_pos h0]
   refine WL.v (v_move rfl rfl) rfl ?_
   refine WL.test (v_gtr rfl rfl rfl) (.none rfl) rfl rfl (fun h17 => ?_) (fun h17 => ?_)
   ·
    refine WL.nt <| WC.cond_t rfl <| WC.seq <| WC.region <| WL.v (v_assign rfl rfl) rfl <| WL.v (v_assign rfl rfl) rfl <| WL.nt <| WC.ret <| WE.then_ret <| WE.ret2 (P := Tryz.prog) (.inl rfl) Tryz.results11 rfl rfl <| ?_
    have e : codeC t = 34 := (by unfold codeC; rw [if_neg (fun k => k h0), if_pos h17])
    rw [← e]
    exact fun w' h => CompC.none_ (h.sub (List.nil_sublist _)) (by rw [e]; decide)
   ·
    refine WL.nt <| WC.cond_f rfl <| WC.skip <| WE.then_n <| WC.seq <| WC.seq <| WC.region <| WL.v (v_move rfl rfl) rfl <| ?_
    refine WL.test (v_gtr rfl rfl rfl) (.none rfl) rfl rfl (fun h19 => ?_) (fun h19 => ?_)
    ·
     refine WL.nt <| WC.cond_t rfl <| WC.seq <| WC.region <| WL.v (v_assign rfl rfl) rfl <| WL.v (v_assign rfl rfl) rfl <| WL.nt <| WC.ret <| WE.then_ret <| WE.ret2 (P := Tryz.prog) (.inl rfl) Tryz.results11 rfl rfl <| ?_
     have e : codeC t = 3 := (by unfold codeC; rw [if_neg (fun k => k h0), if_neg h17, if_pos h19])
     rw [← e]
     exact fun w' h => CompC.none_ (h.sub (List.nil_sublist _)) (by rw [e]; decide)
    ·
     refine WL.nt <| WC.cond_f rfl <| WC.skip <| WE.then_n <| WC.seq <| WC.region <| WL.v (v_loadN rfl rfl many_26 rfl allAt) rfl <| WL.call rfl rfl ck_42 (.none rfl) rfl rfl <| ?_
     intro w1 hS
     refine (build_c _ t (Nat.le_refl _) w1 false (walkT_ok t 1 false 0 h0) hI (hA.st (fun _ h => h) hS) (hG.keep (fun h => h) hS) (hW h0 (by omega) (by omega)) (by omega)).mono ?_
     rintro e w' ⟨ad, c, E, K, ls, rfl, hd, hV, hK, hF, hl, hS'⟩
     refine ⟨_, _, rfl, hS.join hS', ?_⟩
     refine WL.v (v_assign rfl rfl) rfl <| WL.v (v_assign rfl rfl) rfl <| WL.nt <| WC.ret <| WE.ret2 (P := Tryz.prog) (.inl rfl) Tryz.results11 rfl rfl <| ?_
     have e : codeC t = 0 := (by unfold codeC; rw [if_neg (fun k => k h0), if_neg h17, if_neg h19])
     exact fun w' h => ⟨ad, c, E, K, ls, by rw [e], by rw [if_pos e]; exact hd, hV, hK, by rw [hd]; exact hF, hl, h.dropX [.row g1 (ndL t)]⟩
end Go.Proofs.YtmhahajadgkolaaGreatDoor
/- JoinWeighs: the law's own weight and count; the document's example. -/
namespace Go.Proofs.YtmhahajadgkolaaGreatDoor
open Go.RowKit

end Go.Proofs.YtmhahajadgkolaaGreatDoor
/- JoinWeighs: the document's example; the weight of any policy, and whether it has rules. -/
namespace Go.Proofs.YtmhahajadgkolaaGreatDoor
open Go.RowKit

end Go.Proofs.YtmhahajadgkolaaGreatDoor
/- policy: count; what is said of the pieces of the laws of brackets. -/
namespace Go.Proofs.YtmhahajadgkolaaGreatDoor
open Go.RowKit

/-! ### The pieces -/
/-- A tree that is this relation. -/
structure IsT (R : Ky → Ky → Prop) (t : Nd) (w : World) : Prop where
  isIn : t.In
  at_ : t.At w
  rel : ∀ h g, OutT t h g ↔ R h g
/-- Two trees that are the same relation. -/
structure IsQ (x : Nd × Nd) (w : World) : Prop where
  in1 : x.1.In
  in2 : x.2.In
  at1 : x.1.At w
  at2 : x.2.At w
  rel : ∀ h g, OutT x.1 h g ↔ OutT x.2 h g
section
variable {A B C : Ky → Ky → Prop}
end
end Go.Proofs.YtmhahajadgkolaaGreatDoor
/- policy: trees but for where they lie; Clone; a list of nodes as cells. -/
namespace Go.Proofs.YtmhahajadgkolaaGreatDoor
open Go.RowKit

/-- A tree, but for where it lies. -/
inductive Pn where
  | mk (kind f val mask : Int) (kids : List Pn)
mutual
def er : Nd → Pn
  | .mk k f v m _ _ kids => .mk k f v m (erKs kids)
def erKs : List Nd → List Pn
  | [] => []
  | t :: ts => er t :: erKs ts
end
mutual
/-- The same, so deep at most. -/
def erD : Nd → Nat → Pn
  | .mk k f v m _ _ kids, d => .mk k f v m (match d with | 0 => [] | d + 1 => erDs kids d)
def erDs : List Nd → Nat → List Pn
  | [], _ => []
  | t :: ts, d => erD t d :: erDs ts d
end
theorem erKs_map : ∀ ts : List Nd, erKs ts = ts.map er
  | [] => by rw [erKs]; rfl
  | t :: ts => by rw [erKs, erKs_map ts]; rfl
theorem erDs_map (d : Nat) : ∀ ts : List Nd, erDs ts d = ts.map (fun t => erD t d)
  | [] => by rw [erDs]; rfl
  | t :: ts => by rw [erDs, erDs_map d ts]; rfl
theorem er_eq (t : Nd) : er t = .mk t.kind t.f t.val t.mask (t.kids.map er) := by cases t; rw [er, erKs_map]; rfl
theorem argE_same {t u : Nd} (h1 : u.kind = t.kind) (h2 : u.f = t.f) (h3 : u.val = t.val) (h4 : u.mask = t.mask) : argE u = argE t := by unfold argE; rw [h1, h2, h3, h4]
theorem formE_same {t u : Nd} (h1 : u.kind = t.kind) (h2 : u.kids.length = t.kids.length) : formE u = formE t := by unfold formE; rw [h1, h2]
mutual
theorem walk_erD : ∀ (t u : Nd) (d : Nat) (deep : Int) (pred : Bool) (n : Int), er u = erD t d → 17 ≤ deep + d → walkT u deep pred n = walkT t deep pred n
  | .mk k f v m a c kids, u, d, deep, pred, n, he, hd => by
    rw [walkT_eq u, walkT_eq (.mk k f v m a c kids)]
    by_cases h16 : 16 < deep
    · rw [if_pos (.inl h16), if_pos (.inl h16)]
    · match d with
      | 0 => omega
      | d + 1 =>
        rw [er_eq, erD] at he
        injection he with e1 e2 e3 e4 e5
        have hl : u.kids.length = kids.length := by
          have := congrArg List.length e5
          rwa [List.length_map, erDs_map, List.length_map] at this
        rw [argE_same (t := .mk k f v m a c kids) e1 e2 e3 e4, formE_same (t := .mk k f v m a c kids) e1 hl, e1]
        have := walk_erDs k kids u.kids d (deep + 1) (n + 1) 0 (by rw [← e5, erKs_map]) (by omega)
        rw [this]
        rfl
theorem walk_erDs (k : Int) : ∀ (ts us : List Nd) (d : Nat) (deep : Int) (n : Int) (i : Nat), erKs us = erDs ts d → 17 ≤ deep + d → walkKs k i us deep n = walkKs k i ts deep n
  | [], us, d, deep, n, i, he, hd => by
    rw [erDs, erKs_map] at he
    rw [List.map_eq_nil_iff.1 he]
  | t :: ts, us, d, deep, n, i, he, hd => by
    match us with
    | [] => rw [erKs, erDs] at he; cases he
    | u :: us =>
      rw [erKs, erDs] at he
      injection he with e1 e2
      rw [walkKs, walkKs, walk_erD t u d deep _ n e1 hd]
      split
      · rfl
      · exact walk_erDs k ts us d deep _ (i + 1) e2 hd
end
mutual
theorem erD_er : ∀ (t : Nd) (d : Nat) (deep : Int) (pred : Bool) (n : Int), (walkT t deep pred n).1 = 0 → 16 ≤ deep + d → erD t d = er t
  | .mk k f v m a c kids, d, deep, pred, n, h, hd => by
    rw [walkT] at h
    split at h
    · cases h
    · split at h
      · cases h
      · split at h
        · rename_i q; exact absurd h q
        · split at h
          · rename_i q; exact absurd h q
          · match d with
            | 0 =>
              match kids with
              | [] => rw [erD, er, erKs]
              | t :: ts =>
                exfalso
                rw [walkKs] at h
                have e : walkT t (deep + 1) (predK k 0) (n + 1) = (34, n + 1 + 1) := by rw [walkT_eq, if_pos (.inl (by omega))]
                rw [e] at h
                rw [if_pos (show (34 : Int) ≠ 0 by decide)] at h
                cases h
            | d + 1 =>
              rw [erD, er, erDs_er k kids d (deep + 1) (n + 1) 0 h (by omega)]
theorem erDs_er (k : Int) : ∀ (ts : List Nd) (d : Nat) (deep : Int) (n : Int) (i : Nat), (walkKs k i ts deep n).1 = 0 → 16 ≤ deep + d → erDs ts d = erKs ts
  | [], d, deep, n, i, _, _ => by rw [erDs, erKs]
  | t :: ts, d, deep, n, i, h, hd => by
    rw [walkKs] at h
    split at h
    · rename_i q; exact absurd h q
    · rename_i q
      rw [erDs, erKs, erD_er t d deep _ n (Classical.not_not.1 q) hd, erDs_er k ts d deep _ (i + 1) h hd]
end
/-! ### How many nodes a right tree has -/
mutual
theorem walkT_size : ∀ (t : Nd) (deep : Int) (pred : Bool) (n : Int), (walkT t deep pred n).1 = 0 → (walkT t deep pred n).2 = n + sizeN t
  | .mk k f v m a c kids, deep, pred, n, h => by
    rw [walkT] at h ⊢
    split at h
    · cases h
    · split at h
      · cases h
      · split at h
        · rename_i q; exact absurd h q
        · split at h
          · rename_i q; exact absurd h q
          · rename_i h1 h2 h3 h4
            rw [if_neg h1, if_neg h2, if_neg h3, if_neg h4, walkKs_size k kids (deep + 1) (n + 1) 0 h, sizeN]
            omega
theorem walkKs_size (k : Int) : ∀ (ts : List Nd) (deep : Int) (n : Int) (i : Nat), (walkKs k i ts deep n).1 = 0 → (walkKs k i ts deep n).2 = n + sizeKs ts
  | [], deep, n, i, _ => by rw [walkKs, sizeKs]; exact (Int.add_zero n).symm
  | t :: ts, deep, n, i, h => by
    rw [walkKs] at h ⊢
    split at h
    · rename_i q; exact absurd h q
    · rename_i q
      rw [if_neg q, walkKs_size k ts deep _ (i + 1) h, walkT_size t deep _ n (Classical.not_not.1 q), sizeKs]
      omega
end
/-! ### Nodes as cells -/
def ndsL : List Nd → List Value
  | [] => []
  | t :: ts => ndL t ++ ndsL ts
theorem ndsL_len : ∀ ts : List Nd, (ndsL ts).length = ts.length * 5
  | [] => rfl
  | t :: ts => by
    show (ndL t ++ ndsL ts).length = _
    rw [List.length_append, ndsL_len ts, List.length_cons]
    show 5 + ts.length * 5 = _
    omega
theorem ndsL_snoc : ∀ (ts : List Nd) (t : Nd), ndsL ts ++ ndL t = ndsL (ts ++ [t])
  | [], t => by show [] ++ ndL t = ndL t ++ []; simp
  | u :: ts, t => by
    show (ndL u ++ ndsL ts) ++ ndL t = ndL u ++ ndsL (ts ++ [t])
    rw [List.append_assoc, ndsL_snoc ts t]
theorem ndsL_seg : ∀ (ts : List Nd) (k : Nat) (t : Nd), ts[k]? = some t → ((ndsL ts).drop (k * 5)).take 5 = ndL t
  | [], _, _, h => by simp at h
  | u :: ts, 0, t, h => by
    simp only [List.getElem?_cons_zero, Option.some.injEq] at h
    subst h
    show ((ndL u ++ ndsL ts).drop (0 * 5)).take 5 = _
    rw [Nat.zero_mul, List.drop_zero, List.take_left' (show (ndL u).length = 5 from rfl)]
  | u :: ts, k + 1, t, h => by
    rw [List.getElem?_cons_succ] at h
    show ((ndL u ++ ndsL ts).drop ((k + 1) * 5)).take 5 = _
    rw [show (k + 1) * 5 = 5 + k * 5 by omega, ← List.drop_drop, List.drop_left' (show (ndL u).length = 5 from rfl)]
    exact ndsL_seg ts k t h
theorem KidsAt.of' {w : World} {ad : Option Addr} : ∀ (ts : List Nd) (i : Nat), (∀ (j : Nat) (t : Nd), ts[j]? = some t → (∃ b o, ad = some ⟨b, o, none⟩ ∧ w.rangeAt b (o + (i + j) * 5) (ndL t)) ∧ t.At w) → KidsAt w ad i ts
  | [], _, _ => by unfold KidsAt; trivial
  | t :: ts, i, h => by
    unfold KidsAt
    have h0 := h 0 t rfl
    exact ⟨h0.1, h0.2, KidsAt.of' ts (i + 1) fun j u hu => by have := h (j + 1) u hu; rwa [show i + (j + 1) = i + 1 + j by omega] at this⟩
/-- A node whose kids lie in blocks of one's own. -/
theorem Vec.nodes {w : World} {ad : Option Addr} {c : Nat} {us : List Nd} {E : List Ent} {k f v m : Int} (hV : Vec 5 ad us.length c (ndsL us) E) (hE : ∀ e ∈ E, e.holds w) (hu : ∀ u ∈ us, u.At w) : (Nd.mk k f v m ad c us).At w := by
  unfold Nd.At
  refine KidsAt.of' us 0 fun j u hj => ⟨?_, hu u (List.mem_of_getElem? hj)⟩
  have hlt : j < us.length := (List.getElem?_eq_some_iff.1 hj).1
  rcases hV with ⟨_, h, _⟩ | ⟨g, cs, rfl, rfl, hx, hcl, hk⟩
  · omega
  · refine ⟨g, 0, rfl, fun i x hi => ?_⟩
    have hR : Row w g cs := hE (.row g cs) (by simp)
    refine hR.cell ?_
    have hs := ndsL_seg us j u hj
    rw [← hs, List.getElem?_take] at hi
    split at hi
    · rename_i h5
      rw [List.getElem?_drop, ← hx, List.getElem?_take] at hi
      split at hi
      · rw [Nat.zero_add, Nat.zero_add]; exact hi
      · cases hi
    · cases hi
end Go.Proofs.YtmhahajadgkolaaGreatDoor
/- policy: Clone. -/
namespace Go.Proofs.YtmhahajadgkolaaGreatDoor
open Go.RowKit

theorem St.pull {p : Nat → Prop} {w0 w : World} {a b : Ent} {X E R : List Ent} (h : St p w0 w (a :: (X ++ (b :: (E ++ R))))) : St p w0 w (E ++ (a :: (X ++ (b :: R)))) := h.perm (by
  have := List.perm_append_comm_assoc (a :: (X ++ [b])) E R
  simpa [List.append_assoc] using this.symm)
/-- A tree in blocks of one's own: M; its kids' block is E. -/
structure Own (u : Nd) (E M : List Ent) : Prop where
  isIn : u.In
  at_ : ∀ w, (∀ e ∈ E ++ M, e.holds w) → u.At w
  vec : Vec 5 u.ad u.kids.length u.cap (ndsL u.kids) E
theorem KidsIn.of' {ts : List Nd} (h : ∀ t ∈ ts, t.In) : KidsIn ts := by
  induction ts with
  | nil => unfold KidsIn; trivial
  | cons t ts ih => unfold KidsIn; exact ⟨h t (by simp), ih fun u hu => h u (by simp [hu])⟩
theorem map_snoc {α β : Type} {f g : α → β} {us ts : List α} {u t : α} {k : Nat} (h : us.map f = (ts.take k).map g) (ht : ts[k]? = some t) (hu : f u = g t) : (us ++ [u]).map f = (ts.take (k + 1)).map g := by
  obtain ⟨hk, e⟩ := List.getElem?_eq_some_iff.1 ht
  rw [List.map_append, h, List.take_add_one, ht]
  simp [hu]
set_option maxHeartbeats 1000000 in
theorem Clone_c : ∀ (N : Nat) (t : Nd), SizeOf.sizeOf t ≤ N → ∀ (w0 : World), t.In → t.At w0 → sizeN t ≤ 1000000 →
    Calls Tryz.prog 46 #[ndV t] w0 fun e w' => ∃ u E M, e = .returned (ndV u) ∧ er u = er t ∧ Own u E M ∧ St (fun _ => False) w0 w' (E ++ M)
  | 0 => fun t hN => by cases t; simp only [Nd.mk.sizeOf_spec] at hN; omega
  | N + 1 => by
    intro t hN w0 hI hA hsz
    have hlen := hI.nums.2.2.2.2
    have hks := sizeN_kids t
    have hnums := hI.nums
    refine enter Tryz.func46 rfl Tryz.ntmps46 rfl (St.start (fun _ => False) w0) ?_
    refine WC.seq <| WC.region <| WL.box rfl rfl rfl (.none rfl) rfl rfl <| ?_
    intro g1 hg1
    refine WL.alloc rfl zero_26 (.none rfl) rfl rfl ?_
    intro g2 hg2
    refine WL.nt <| WC.seq <| WC.region <| WL.v (v_assign rfl rfl) rfl <| WL.nt <| WC.seq <| WC.seq <| WC.region <| WL.v (v_fieldAddr0 rfl rfl fld_26_4) rfl <| WL.v (v_load1 rfl rfl one_24 (cellAt rfl)) rfl <| WL.v (v_len_slice rfl rfl Tryz.underlying24) rfl <| WL.v (v_move rfl rfl) rfl <| WL.nt <| WC.block <| ?_
    refine WC.loop (fun x : Nat × List Nd × Option Addr × Nat × List Ent × List Ent => [(9, .int .i64 x.1), (8, .int .i64 t.kids.length), (7, .slice t.ad t.kids.length t.cap), (3, .slice x.2.2.1 x.2.1.length x.2.2.2.1), (1, .pointer (some ⟨g1, 0, none⟩)), (2, .pointer (some ⟨g2, 0, none⟩))]) (fun x => x.2.2.2.2.1 ++ (x.2.2.2.2.2 ++ [.row g2 (ndL (.mk 0 0 0 0 none 0 [])), .row g1 (ndL t)])) (fun x => x.1 ≤ t.kids.length ∧ x.2.1.length = x.1 ∧ x.2.1.map er = (t.kids.take x.1).map er ∧ (∀ u ∈ x.2.1, u.In) ∧ Vec 5 x.2.2.1 x.2.1.length x.2.2.2.1 (ndsL x.2.1) x.2.2.2.2.1 ∧ ∀ w, (∀ e ∈ x.2.2.2.2.2, e.holds w) → ∀ u ∈ x.2.1, u.At w) (fun x => t.kids.length - x.1) (0, [], none, 0, [], []) ⟨Nat.zero_le _, rfl, by simp, by simp, Vec.nil 5, fun _ _ u h => by cases h⟩ (.cons rfl (.cons rfl (.cons rfl (.cons rfl (.cons rfl (.cons rfl .nil)))))) (.refl _) ?_
    rintro ⟨k, us, ad, c, E, M⟩ ⟨hk, hul, hmap, hIn, hV, hAts⟩
    dsimp only at hk hul hmap hIn hV hAts
    dsimp only
    refine WC.seq <| WC.region <| ?_
    refine WL.test (v_lss rfl rfl rfl) (.none rfl) rfl rfl (fun h10 => ?_) (fun h10 => ?_)
    ·
     refine WL.nt <| WC.seq <| WC.cond_t rfl <| WC.skip <| WE.then_n <| WC.seq <| WC.block <| WC.seq <| WC.region <| ?_
     obtain ⟨u, hu⟩ : ∃ u, t.kids[k]? = some u := ⟨t.kids[k]'(by omega), List.getElem?_eq_getElem _⟩
     obtain ⟨b, o, ea, _⟩ := (hA.kid hu).1
     have hus := sizeN_kid hu
     refine WL.v (v_indexAddr (b := b) (off := o) (lo := k) rfl (by show some (Value.slice t.ad _ _) = _; rw [ea]) rfl Tryz.underlying24 sz_26 rfl (by omega)) rfl ?_
     refine WL.v (v_loadN (cs := ndL u) rfl rfl many_26 rfl (rangeIn (fun h => h) (hA.kidAt hu ea))) rfl <| WL.alloc rfl zero_26 (.none rfl) rfl rfl <| ?_
     intro g5 hg5
     refine WL.storeW rfl rfl rfl rfl many_26 rfl rfl (.none rfl) rfl <| WL.nt <| WC.region <| WL.v (v_move rfl rfl) rfl <| WL.v (v_loadN rfl rfl many_26 rfl allAt) rfl <| WL.call rfl rfl ck_46 (.none rfl) rfl rfl <| ?_
     intro w1 hS
     refine (Clone_c N u (Nd.kidN hN hu) w1 (hI.kids.get _ _ _ hu) ((hA.kid hu).2.st (fun _ h => h) hS) (by omega)).mono ?_
     rintro e w' ⟨u', Eu, Mu, rfl, her, hO, hS'⟩
     refine ⟨_, _, rfl, hS.join hS', ?_⟩
     refine WL.buildSlice rfl rfl Tryz.underlying24 sz_26 zero_26 rfl (by decide) rfl (.none rfl) rfl rfl ?_
     intro g16 hg16
     refine WL.as (L' := .row g16 (ndL u') :: ((Eu ++ Mu) ++ (.row g5 (ndL u) :: (E ++ (M ++ [.row g2 (ndL (.mk 0 0 0 0 none 0 [])), .row g1 (ndL t)]))))) rfl <| WL.to (L' := E ++ (.row g16 (ndL u') :: ((Eu ++ Mu) ++ (.row g5 (ndL u) :: (M ++ [.row g2 (ndL (.mk 0 0 0 0 none 0 [])), .row g1 (ndL t)]))))) (fun w hS => hS.pull) <| ?_
     refine WL.appendL rfl rfl rfl Tryz.underlying24 Tryz.underlying24 sz_26 by_26 zero_26 rfl rfl hV (new := ndL u') (fun _ => ⟨g16, 0, rfl, fun w hS => allAt (g := g16) w hS⟩) rfl rfl (by omega) (.none rfl) rfl rfl ?_
     intro ad17 c17 E17 hV17 hr17
     refine WL.v (v_assign rfl rfl) rfl <| WL.nil <| WE.block_n <| WE.then_n <| WC.region <| ?_
     refine WL.v (v_add rfl rfl rfl (w_i64 (by omega) (by omega))) rfl ?_
     refine WL.v (v_move rfl rfl) rfl <| WL.nil <| ?_
     have hl9 : (us ++ [u']).length = us.length + 1 := (by rw [List.length_append]; rfl)
     exact WE.next (k + 1, us ++ [u'], ad17, c17, E17, (Eu ++ Mu) ++ M) (by dsimp only; omega) ⟨by dsimp only; omega, by dsimp only; omega, map_snoc hmap hu her, (fun x hx => by
       rcases List.mem_append.1 hx with h | h
       · exact hIn x h
       · rw [List.mem_singleton.1 h]; exact hO.isIn), by dsimp only; rw [hl9, ← ndsL_snoc]; exact hV17, fun w hw x hx => by
       rcases List.mem_append.1 hx with h | h
       · exact hAts w (fun e he => hw e (List.mem_append_right _ he)) x h
       · rw [List.mem_singleton.1 h]; exact hO.at_ w (fun e he => hw e (List.mem_append_left _ he))⟩ (.int rfl (by dsimp only; omega) (.cons rfl (.cons rfl (.eq rfl (by dsimp only; rw [hl9]) (.cons rfl (.cons rfl .nil)))))) (List.Sublist.append_left (.cons _ (by rw [List.append_assoc]; exact List.Sublist.append_left (.cons _ (.refl _)) _)) _)
    ·
     refine WL.nt <| WC.seq <| WC.cond_f rfl <| WC.exit <| WE.then_exit <| WE.then_exit <| WE.block_hit <| WE.then_n <| WC.seq <| WC.region <| WL.v (v_move rfl rfl) rfl <| WL.v (v_fieldAddr0 rfl rfl fld_26_4) rfl <| WL.store1 rfl rfl rfl rfl one_24 (Nat.le_of_ble_eq_true rfl) (.none rfl) rfl <| WL.nt <| ?_
     refine WC.seq <| WC.region <| WL.v (v_loadN rfl rfl many_26 rfl allAt) rfl <| WL.storeW rfl rfl rfl rfl many_26 rfl rfl (.none rfl) rfl <| WL.nt <| WC.ret <| WE.ret1 (P := Tryz.prog) (.inl rfl) Tryz.results46 (resRow rfl many_26 rfl) <| ?_
     obtain rfl : k = t.kids.length := (by omega)
     rw [List.take_length] at hmap
     exact fun w' h => ⟨.mk t.kind t.f t.val t.mask ad c us, E, M, rfl, by rw [er_eq, er_eq t]; show Pn.mk _ _ _ _ (us.map er) = _; rw [hmap]; rfl, ⟨Nd.In_mk hnums.1 hnums.2.1 hnums.2.2.1 hnums.2.2.2.1 (by omega) (KidsIn.of' hIn), fun w hw => hV.nodes (fun e he => hw e (List.mem_append_left _ he)) (hAts w fun e he => hw e (List.mem_append_right _ he)), hV⟩, h.sub (by rw [← List.append_assoc]; exact List.sublist_append_left _ _)⟩
end Go.Proofs.YtmhahajadgkolaaGreatDoor
/- stage: plans as they lie; the law's plan, mac, id, web; what a sender may choose. -/
namespace Go.Proofs.YtmhahajadgkolaaGreatDoor
open Go.RowKit

def macN (n : Int) : Nat → Int := fun i => if i = 0 then 4 else if i = 5 then n % 256 else 0
theorem macN_byt (n : Int) : Byt (macN n) := fun i => by
  unfold macN
  split
  · exact ⟨by decide, by decide⟩
  · split
    · omega
    · exact ⟨by decide, by decide⟩
abbrev mcL (f : Nat → Int) : List Value := bcs f 6
theorem mcL_len (f : Nat → Int) : (mcL f).length = 6 := bcs_len f 6
abbrev macsL (fs : List (Nat → Int)) : List Value := encL mcL fs
theorem macsL_len (fs : List (Nat → Int)) : (macsL fs).length = fs.length * 6 := encL_len mcL_len fs
theorem mcL_one (f : Nat → Int) : ∀ v ∈ mcL f, v.oneCell' = true := fun v hv => by
  obtain ⟨i, _, rfl⟩ := List.mem_map.1 hv
  rfl
/-! ### Plans -/
structure PlN where
  oa : Option Addr
  oc : Nat
  outs : List Nd
  ia : Option Addr
  ic : Nat
  ins : List Nd
  ma : Option Addr
  mc : Nat
  macs : List (Nat → Int)
  xa : Option Addr
  xn : Nat
  xc : Nat
  ya : Option Addr
  yn : Nat
  yc : Nat
  za : Option Addr
  zn : Nat
  zc : Nat
def PlN.cells (p : PlN) : List Value := [.slice p.oa p.outs.length p.oc, .slice p.ia p.ins.length p.ic, .slice p.ma p.macs.length p.mc, .slice p.xa p.xn p.xc, .slice p.ya p.yn p.yc, .slice p.za p.zn p.zc]
structure PlN.At (w : World) (p : PlN) : Prop where
  outs : KidsAt w p.oa 0 p.outs
  ins : KidsAt w p.ia 0 p.ins
  macs : Rg w p.ma (macsL p.macs)
structure PlN.In (p : PlN) : Prop where
  outs : KidsIn p.outs
  ins : KidsIn p.ins
  macs : ∀ f ∈ p.macs, Byt f
  few : p.outs.length ≤ 1000 ∧ p.ins.length ≤ 1000 ∧ p.macs.length ≤ 1000
theorem KidsAt.frm {w w' : World} {ad : Option Addr} {us : List Nd} (h : KidsAt w ad 0 us) (hF : Frm (fun _ => False) w w') : KidsAt w' ad 0 us := KidsAt.keep (Frm.range hF) ad 0 us h
theorem KidsAt.kidAt {w : World} {ad : Option Addr} {us : List Nd} {u : Nd} {j b o : Nat} (h : KidsAt w ad 0 us) (hu : us[j]? = some u) (e : ad = some ⟨b, o, none⟩) : w.rangeAt b (o + j * 5) (ndL u) := by
  obtain ⟨⟨b', o', e', hr⟩, _⟩ := h.get us 0 j u hu
  rw [e] at e'
  injection e' with e'
  injection e' with e1 e2
  subst e1 e2
  rwa [Nat.zero_add] at hr
theorem Vec.kidsAt {w : World} {ad : Option Addr} {c : Nat} {us : List Nd} {E : List Ent} (hV : Vec 5 ad us.length c (ndsL us) E) (hE : ∀ e ∈ E, e.holds w) (hu : ∀ u ∈ us, u.At w) : KidsAt w ad 0 us := by
  have := Vec.nodes (k := 0) (f := 0) (v := 0) (m := 0) hV hE hu
  unfold Nd.At at this
  exact this
/-- A wish: what it is as cells. -/
def wishL (x : Nd × Nd) : List Value := ndL x.1 ++ ndL x.2
structure WshAt (w : World) (ad : Option Addr) (Ps : List (Nd × Nd)) : Prop where
  rd : Rg w ad (encL wishL Ps)
  at_ : ∀ x ∈ Ps, x.1.At w ∧ x.2.At w
end Go.Proofs.YtmhahajadgkolaaGreatDoor
/- stage: compile. -/
namespace Go.Proofs.YtmhahajadgkolaaGreatDoor
open Go.RowKit

/-- A tree whose rules may be made. -/
def Lt (t : Nd) : Prop := (walkT t 1 false 0).1 = 0 → (weighT t).2 ≤ 64 → (weighT t).1 ≤ 4096 → (weighT t).1 ≤ 300
theorem code_walk {t : Nd} (h : codeC t = 0) : (walkT t 1 false 0).1 = 0 := Decidable.byContradiction fun k => by
  unfold codeC at h
  rw [if_pos k] at h
  exact k h
theorem size_of_walk {t : Nd} (h : (walkT t 1 false 0).1 = 0) : sizeN t ≤ 64 := by
  have h1 := walkT_size t 1 false 0 h
  have h2 := walkT_le t 1 false 0 (by omega) h
  omega
structure CmS where
  k : Nat
  us : List Nd
  ad : Option Addr
  c : Nat
  E : List Ent
  M : List Ent
  xa : Option Addr
  xc : Nat
  xs : List Value
  X : List Ent
set_option maxRecDepth 8000 in
set_option maxHeartbeats 4000000 in
theorem compile_c (w : World) (ta : Option Addr) (tc : Nat) (ts : List Nd) (hA : KidsAt w ta 0 ts) (hI : KidsIn ts) (hG : GW w) (hL : ∀ t ∈ ts, Lt t) (hn : ts.length ≤ 1000) :
    Calls Tryz.prog 90 #[.slice ta ts.length tc] w fun e w' => ∃ (ka : Option Addr) (kc : Nat) (us : List Nd) (xa : Option Addr) (xn xc : Nat) (M : List Ent), e = .returned (.tuple #[.slice ka us.length kc, .slice xa xn xc, .int .i64 (errs codeC ts)]) ∧ (errs codeC ts = 0 → us.map er = ts.map er) ∧ (errs codeC ts ≠ 0 → us = []) ∧ (∀ w2, (∀ e ∈ M, e.holds w2) → KidsAt w2 ka 0 us) ∧ KidsIn us ∧ St (fun _ => False) w w' M := by
  generalize hC : errs codeC ts = C
  refine enter Tryz.func90 rfl Tryz.ntmps90 rfl (St.start (fun _ => False) w) ?_
  refine WC.seq <| WC.region <| WL.v (v_assign rfl rfl) rfl <| WL.v (v_assign rfl rfl) rfl <| WL.v (v_assign rfl rfl) rfl <| WL.nt <| WC.seq <| WC.region <| WL.v (v_move rfl rfl) rfl <| WL.v (v_len_slice rfl rfl Tryz.underlying24) rfl <| ?_
  refine WL.makeN (m := 0) (c := ts.length) rfl rfl rfl (by omega) (by omega) (by omega) Tryz.underlying24 by_26 (by omega) (by omega) sz_26 zero_26 rfl (.none rfl) rfl rfl ?_
  intro g13 hg13
  generalize hZ : List.flatten _ = Z
  have hV0 : Vec 5 (some ⟨g13, 0, none⟩) 0 ts.length [] [.row g13 Z] := Vec.row (by rw [Nat.zero_mul]; rfl) (by rw [← hZ]; exact flat_len rfl _) (Nat.zero_le _)
  refine WL.v (v_assign rfl rfl) rfl <| WL.nt <| WC.seq <| WC.region <| WL.v (v_move rfl rfl) rfl <| WL.v (v_len_slice rfl rfl Tryz.underlying24) rfl <| ?_
  refine WL.makeN (m := 0) (c := ts.length) rfl rfl rfl (by omega) (by omega) (by omega) Tryz.underlying72 by_54 (by omega) (by omega) sz_54 zero_54 rfl (.none rfl) rfl rfl ?_
  intro g16 hg16
  generalize hZ2 : List.flatten _ = Z2
  have hX0 : Vec 1 (some ⟨g16, 0, none⟩) 0 ts.length [] [.row g16 Z2] := Vec.row (by rw [Nat.zero_mul]; rfl) (by rw [← hZ2]; exact flat_len rfl _) (Nat.zero_le _)
  refine WL.v (v_assign rfl rfl) rfl <| WL.nt <| WC.seq <| WC.seq <| WC.region <| WL.v (v_move rfl rfl) rfl <| WL.v (v_len_slice rfl rfl Tryz.underlying24) rfl <| WL.v (v_move rfl rfl) rfl <| WL.nt <| WC.block <| ?_
  refine WC.loop (fun x : CmS => [(19, .int .i64 x.k), (18, .int .i64 ts.length), (17, .slice ta ts.length tc), (5, .slice x.ad x.us.length x.c), (6, .slice x.xa x.k x.xc)]) (fun x => x.X ++ (x.E ++ x.M)) (fun x => x.k ≤ ts.length ∧ x.us.map er = (ts.take x.k).map er ∧ (∀ u ∈ x.us, u.In) ∧ errs codeC (ts.drop x.k) = C ∧ Vec 5 x.ad x.us.length x.c (ndsL x.us) x.E ∧ Vec 1 x.xa x.k x.xc x.xs x.X ∧ ∀ w', (∀ e ∈ x.M, e.holds w') → ∀ u ∈ x.us, u.At w') (fun x => ts.length - x.k) ⟨0, [], some ⟨g13, 0, none⟩, ts.length, [.row g13 Z], [], some ⟨g16, 0, none⟩, ts.length, [], [.row g16 Z2]⟩ ⟨Nat.zero_le _, rfl, fun u h => (by cases h), by dsimp only; rw [List.drop_zero]; exact hC, hV0, hX0, fun w' _ u h => (by cases h)⟩ (.cons rfl (.cons rfl (.cons rfl (.cons rfl (.cons rfl .nil))))) (.refl _) ?_
  rintro ⟨k, us, ad, c, E, M, xa, xc, xs, X⟩ ⟨hk, hmap, hIn, hc, hV, hX, hAt⟩
  dsimp only at hk hmap hIn hc hV hX hAt
  dsimp only
  refine WC.seq <| WC.region <| ?_
  refine WL.test (v_lss rfl rfl rfl) (.none rfl) rfl rfl (fun h20 => ?_) (fun h20 => ?_)
  ·
   refine WL.nt <| WC.seq <| WC.cond_t rfl <| WC.skip <| WE.then_n <| WC.seq <| WC.block <| WC.seq <| WC.region <| ?_
   obtain ⟨t, ht⟩ : ∃ x, ts[k]? = some x := ⟨ts[k]'(by omega), List.getElem?_eq_getElem _⟩
   obtain ⟨⟨b, o, ea, _⟩, htA⟩ := hA.get ts 0 k t ht
   have htI := hI.get ts k t ht
   rw [drop_cons ht] at hc
   have hul : us.length = k := (by have := congrArg List.length hmap; rw [List.length_map, List.length_map, List.length_take] at this; omega)
   have hc : (if codeC t ≠ 0 then codeC t else errs codeC (ts.drop (k + 1))) = C := hc
   refine WL.v (v_indexAddr (b := b) (off := o) (lo := k) rfl (by show some (Value.slice ta _ _) = _; rw [ea]) rfl Tryz.underlying24 sz_26 rfl (by omega)) rfl ?_
   refine WL.v (v_loadN (cs := ndL t) rfl rfl many_26 rfl (rangeIn (fun h => h) (hA.kidAt ht ea))) rfl <| WL.alloc rfl zero_26 (.none rfl) rfl rfl <| ?_
   intro g8 hg8
   refine WL.storeW rfl rfl rfl rfl many_26 rfl rfl (.none rfl) rfl <| WL.as (L' := .row g8 (ndL t) :: (X ++ (E ++ M))) rfl <| WL.nt <| WC.seq <| WC.region <| WL.v (v_loadN rfl rfl many_26 rfl allAt) rfl <| WL.call rfl rfl ck_11 (.none rfl) rfl rfl <| ?_
   intro w1 hS
   refine (Compile_c w1 t htI (htA.st (fun _ h => h) hS) (hG.keep (fun h => h) hS) (hL t (List.mem_of_getElem? ht))).mono ?_
   rintro e w' ⟨rad, rc, RE, RK, ls, rfl, hd, hVr, hKr, hFr, hlr, hS'⟩
   refine ⟨_, _, rfl, hS.join hS', ?_⟩
   refine WL.v (v_move rfl rfl) rfl <| WL.v (v_extract rfl rfl rfl) rfl <| WL.v (v_extract rfl rfl rfl) rfl <| WL.v (v_assign rfl rfl) rfl <| WL.v (v_assign rfl rfl) rfl <| WL.nt <| WC.seq <| WC.seq <| WC.region <| WL.v (v_move rfl rfl) rfl <| ?_
   refine WL.test (v_neq rfl rfl rfl) (.none rfl) rfl rfl (fun h29 => ?_) (fun h29 => ?_)
   ·
    refine WL.nt <| WC.cond_t rfl <| WC.seq <| WC.region <| WL.v (v_move rfl rfl) rfl <| WL.v (v_assign rfl rfl) rfl <| WL.v (v_assign rfl rfl) rfl <| WL.v (v_assign rfl rfl) rfl <| WL.nt <| WC.ret <| WE.then_ret <| WE.block_ret <| WE.then_ret <| WE.then_ret <| ?_
    refine WE.block_ret <| WE.then_ret <| WE.ret3 (P := Tryz.prog) (.inl rfl) Tryz.results90 rfl rfl rfl <| ?_
    rw [if_pos h29] at hc
    rw [hc]
    exact fun w' h => ⟨none, 0, [], none, 0, 0, [], rfl, fun k => absurd (hc.trans k) h29, fun _ => rfl, (fun _ _ => by unfold KidsAt; trivial), KidsIn.nil, h.sub (List.nil_sublist _)⟩
   ·
    refine WL.nt <| WC.cond_f rfl <| WC.skip <| WE.then_n <| WC.seq <| WC.region <| ?_
    rw [if_neg h29] at hc
    have h0 := code_walk (Decidable.of_not_not h29)
    have hsz := size_of_walk h0
    refine WL.v (v_move rfl rfl) rfl <| WL.v (v_loadN rfl rfl many_26 rfl allAt) rfl <| WL.call rfl rfl ck_46 (.none rfl) rfl rfl <| ?_
    intro w1 hS
    refine (Clone_c _ t (Nat.le_refl _) w1 htI (htA.st (fun _ h => h) hS) (by omega)).mono ?_
    rintro e w' ⟨u, UE, UM, rfl, heru, hOwn, hS'⟩
    refine ⟨_, _, rfl, hS.join hS', ?_⟩
    refine WL.buildSlice rfl rfl Tryz.underlying24 sz_26 zero_26 rfl (by decide) (by show some (splice (List.replicate 1 _).flatten 0 (ndL u)) = some (ndL u); exact congrArg some (splice_all rfl)) (.none rfl) rfl rfl ?_
    intro g34 hg34
    refine WL.to (L' := E ++ (.row g34 (ndL u) :: (X ++ ((UE ++ UM) ++ M)))) (fun w hS => hS.dropX ((RE ++ RK) ++ [.row g8 (ndL t)])) ?_
    refine WL.appendL rfl rfl rfl Tryz.underlying24 Tryz.underlying24 sz_26 by_26 zero_26 rfl rfl hV (new := ndL u) (fun _ => ⟨g34, 0, rfl, fun w hS => allAt (g := g34) w hS⟩) rfl rfl (by omega) (.none rfl) rfl rfl ?_
    intro ad35 c35 E35 hV35 hr35
    refine WL.v (v_assign rfl rfl) rfl <| WL.nt <| WC.region <| WL.v (v_move rfl rfl) rfl <| WL.v (v_move rfl rfl) rfl <| ?_
    refine WL.buildSlice rfl rfl Tryz.underlying72 sz_54 zero_54 rfl (by decide) (by show some (splice (List.replicate 1 _).flatten 0 [Value.slice rad ls.length rc]) = some [Value.slice rad ls.length rc]; exact congrArg some (splice_all rfl)) (.none rfl) rfl rfl ?_
    intro g38 hg38
    refine WL.to (L' := X ++ (.row g38 [Value.slice rad ls.length rc] :: (E35 ++ ((UE ++ UM) ++ M)))) (fun w hS => hS.dropX [.row g34 (ndL u)]) ?_
    refine WL.appendL rfl rfl rfl Tryz.underlying72 Tryz.underlying72 sz_54 by_54 zero_54 rfl rfl hX (new := [Value.slice rad ls.length rc]) (fun _ => ⟨g38, 0, rfl, fun w hS => allAt (g := g38) w hS⟩) rfl rfl (by omega) (.none rfl) rfl rfl ?_
    intro ad39 c39 E39 hV39 hr39
    refine WL.v (v_assign rfl rfl) rfl <| WL.nil <| WE.block_n <| WE.then_n <| WC.region <| ?_
    refine WL.v (v_add rfl rfl rfl (w_i64 (by omega) (by omega))) rfl ?_
    refine WL.v (v_move rfl rfl) rfl <| WL.nil <| WE.to (L' := E39 ++ (E35 ++ ((UE ++ UM) ++ M))) (fun w hS => hS.dropX [.row g38 [Value.slice rad ls.length rc]]) <| ?_
    refine WE.next ⟨k + 1, us ++ [u], ad35, c35, E35, (UE ++ UM) ++ M, ad39, c39, xs ++ [Value.slice rad ls.length rc], E39⟩ (by dsimp only; omega) ⟨by dsimp only; omega, map_snoc hmap ht heru, fun x hx => ?_, hc, by dsimp only; rw [← ndsL_snoc, List.length_append]; exact hV35, hV39, fun w' hw x hx => ?_⟩ (.int rfl (by dsimp only; omega) (.cons rfl (.cons rfl (.eq rfl (by dsimp only; rw [List.length_append]; rfl) (.cons rfl .nil))))) (.refl _)
    · rcases List.mem_append.1 hx with hx | hx
      · exact hIn x hx
      · rw [List.mem_singleton.1 hx]; exact hOwn.isIn
    · rcases List.mem_append.1 hx with hx | hx
      · exact hAt w' (fun e he => hw e (List.mem_append_right _ he)) x hx
      · rw [List.mem_singleton.1 hx]; exact hOwn.at_ w' (fun e he => hw e (List.mem_append_left _ he))
  ·
   refine WL.nt <| WC.seq <| WC.cond_f rfl <| WC.exit <| WE.then_exit <| WE.then_exit <| WE.block_hit <| WE.then_n <| WC.seq <| WC.region <| WL.v (v_move rfl rfl) rfl <| WL.v (v_move rfl rfl) rfl <| WL.v (v_assign rfl rfl) rfl <| WL.v (v_assign rfl rfl) rfl <| ?_
   refine WL.v (v_assign rfl rfl) rfl <| WL.nt <| WC.ret <| WE.ret3 (P := Tryz.prog) (.inl rfl) Tryz.results90 rfl rfl rfl <| ?_
   obtain rfl : k = ts.length := (by omega)
   rw [List.drop_length] at hc
   have hc : (0 : Int) = C := hc
   rw [List.take_length] at hmap
   rw [← hc]
   exact fun w' h => ⟨ad, c, us, xa, ts.length, xc, X ++ (E ++ M), rfl, fun _ => hmap, fun k => absurd rfl k, fun w2 hw => Vec.kidsAt hV (fun e he => hw e (by simp [he])) (hAt w2 fun e he => hw e (by simp [he])), KidsIn.of' hIn, h⟩
end Go.Proofs.YtmhahajadgkolaaGreatDoor
