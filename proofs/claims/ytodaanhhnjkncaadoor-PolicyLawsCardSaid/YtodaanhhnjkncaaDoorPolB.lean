/- policy: Run; Fwd; the law's own par, seq, filter. -/
import Derived.Test.YtodaanhhnjkncaaDoorSrtB
namespace Go.Proofs.YtodaanhhnjkncaaDoor
open Go.RowKit

/-- What Run hands back. -/
def RunIs (t : Nd) (H : Hd) (Rs : List Hd) (er : Int) : Prop :=
  if (walkT t 1 false 0).1 ≠ 0 then er = (walkT t 1 false 0).1 ∧ Rs = []
  else if H.okB = false then er = 1 ∧ Rs = []
  else match runT t H with
    | none => er = 34 ∧ Rs = []
    | some Qs => er = 0 ∧ Rs.Perm Qs ∧ Asc Rs
def RunPost (p : Nat → Prop) (w0 : World) (L : List Ent) (t : Nd) (H : Hd) (e : Ending) (w' : World) : Prop :=
  ∃ Rs ad c E er, e = .returned (.tuple #[.slice ad (List.length Rs) c, .int .i64 er]) ∧ Vec 19 ad (List.length Rs) c (hdsL Rs) E ∧ St p w0 w' (E ++ L) ∧ RunIs t H Rs er
set_option maxHeartbeats 1000000 in
theorem Run_c (p : Nat → Prop) (hp : ∀ b, ¬ p b) (w0 : World) (hG : GW w0) (L : List Ent) (w1 : World) (t : Nd) (H : Hd) (hI : t.In) (hAt : ∀ w, St p w0 w L → t.At w) (hH : H.In) (hS0 : St p w0 w1 L) :
    Calls Tryd.prog 21 #[ndV t, .agg (hdCells H)] w1 (RunPost p w0 L t H) := by
  refine enter Tryd.func21 rfl Tryd.ntmps21 rfl hS0 ?_
  refine WC.seq ?_
  refine WC.region ?_
  refine WL.box rfl rfl rfl (.none rfl) rfl rfl ?_
  intro g2 hg2
  refine WL.box rfl rfl rfl (.none rfl) rfl rfl ?_
  intro g3 hg3
  refine WL.val (v_assign rfl rfl) (.none rfl) rfl rfl ?_
  refine WL.val (v_assign rfl rfl) (.none rfl) rfl rfl ?_
  refine WL.nil ?_
  refine WE.then_n ?_
  refine WC.seq ?_
  refine WC.seq ?_
  refine WC.region ?_
  refine WL.val (v_loadN rfl rfl many_45 rfl allAt) (.none rfl) rfl rfl ?_
  refine WL.call rfl rfl ck_33 (.none rfl) rfl rfl ?_
  intro w hS
  refine Calls.then (Check_c w t hI (hAt w hS.tail.tail) (hG.keep (hp _) hS)) hS ?_
  refine WL.val (v_assign rfl rfl) (.none rfl) rfl rfl ?_
  refine WL.nil ?_
  refine WE.then_n ?_
  refine WC.seq ?_
  refine WC.region ?_
  refine WL.val (v_move rfl rfl) (.none rfl) rfl rfl ?_
  refine WL.test (v_neq rfl rfl rfl) (.none rfl) rfl rfl (fun h13 => ?_) (fun h13 => ?_)
  · -- 13T
    refine WL.nil ?_
    refine WE.then_n ?_
    refine WC.cond_t rfl ?_
    refine WC.seq ?_
    refine WC.region ?_
    refine WL.val (v_move rfl rfl) (.none rfl) rfl rfl ?_
    refine WL.val (v_assign rfl rfl) (.none rfl) rfl rfl ?_
    refine WL.val (v_assign rfl rfl) (.none rfl) rfl rfl ?_
    refine WL.nil ?_
    refine WE.then_n ?_
    refine WC.ret ?_
    refine WE.then_ret ?_
    refine WE.ret2 (P := Tryd.prog) (.inl rfl) Tryd.results21 rfl rfl ?_
    exact fun w' h => ⟨[], none, 0, [], _, rfl, Vec.nil 19, h.tail.tail, by unfold RunIs; rw [if_pos h13]; exact ⟨rfl, rfl⟩⟩
  · -- 13F
    refine WL.nil ?_
    refine WE.then_n ?_
    refine WC.cond_f rfl ?_
    refine WC.skip ?_
    refine WE.then_n ?_
    refine WC.seq ?_
    refine WC.seq ?_
    refine WC.region ?_
    refine WL.val (v_loadN rfl rfl many_31 rfl allAt) (.none rfl) rfl rfl ?_
    refine WL.call rfl rfl ck_24 (.none rfl) rfl rfl ?_
    intro w hS
    refine Calls.then (HCheck_c w H hH (hG.keep (hp _) hS)) hS ?_
    generalize hok : H.okB = okb
    cases okb
    · -- 16F
      refine WL.val (v_assign rfl rfl) (.none rfl) rfl rfl ?_
      refine WL.nil ?_
      refine WE.then_n ?_
      refine WC.seq ?_
      refine WC.region ?_
      refine WL.val (v_move rfl rfl) (.none rfl) rfl rfl ?_
      refine WL.val ((v_neq rfl rfl rfl).t ((fun h => absurd h (by decide)))) (.none rfl) rfl rfl ?_
      refine WL.nil ?_
      refine WE.then_n ?_
      refine WC.cond_t rfl ?_
      refine WC.seq ?_
      refine WC.region ?_
      refine WL.val (v_move rfl rfl) (.none rfl) rfl rfl ?_
      refine WL.val (v_assign rfl rfl) (.none rfl) rfl rfl ?_
      refine WL.val (v_assign rfl rfl) (.none rfl) rfl rfl ?_
      refine WL.nil ?_
      refine WE.then_n ?_
      refine WC.ret ?_
      refine WE.then_ret ?_
      refine WE.ret2 (P := Tryd.prog) (.inl rfl) Tryd.results21 rfl rfl ?_
      exact fun w' h => ⟨[], none, 0, [], _, rfl, Vec.nil 19, h.tail.tail, by unfold RunIs; rw [if_neg h13, if_pos hok]; exact ⟨rfl, rfl⟩⟩
    · -- 16T
      refine WL.val (v_assign rfl rfl) (.none rfl) rfl rfl ?_
      refine WL.nil ?_
      refine WE.then_n ?_
      refine WC.seq ?_
      refine WC.region ?_
      refine WL.val (v_move rfl rfl) (.none rfl) rfl rfl ?_
      refine WL.val ((v_neq rfl rfl rfl).f (fun h => h rfl)) (.none rfl) rfl rfl ?_
      refine WL.nil ?_
      refine WE.then_n ?_
      refine WC.cond_f rfl ?_
      refine WC.skip ?_
      refine WE.then_n ?_
      refine WC.seq ?_
      refine WC.region ?_
      refine WL.val (v_loadN rfl rfl many_45 rfl allAt) (.none rfl) rfl rfl ?_
      refine WL.val (v_loadN rfl rfl many_31 rfl allAt) (.none rfl) rfl rfl ?_
      refine WL.call rfl rfl ck_56 (.none rfl) rfl rfl ?_
      intro w1 hS
      refine (run_c p hp w0 hG _ t (Nat.le_refl _) false (.row g3 (hdL H) :: .row g2 (ndL t) :: L) w1 H (walkT_ok _ _ _ _ (Classical.not_not.1 h13)) hI (fun w' hS' => hAt w' hS'.tail.tail) hH hS).mono ?_
      rintro e w' ⟨Rs, ad, c, E, bb, rfl, hV, hS', hc⟩
      refine ⟨_, _, rfl, hS', ?_⟩
      refine WL.val (v_move rfl rfl) (.none rfl) rfl rfl ?_
      refine WL.val (v_extract rfl rfl rfl) (.none rfl) rfl rfl ?_
      refine WL.val (v_extract rfl rfl rfl) (.none rfl) rfl rfl ?_
      skip
      cases bb
      · -- 25F
        refine WL.val (v_assign rfl rfl) (.none rfl) rfl rfl ?_
        refine WL.val (v_assign rfl rfl) (.none rfl) rfl rfl ?_
        refine WL.nil ?_
        refine WE.then_n ?_
        refine WC.seq ?_
        refine WC.seq ?_
        refine WC.region ?_
        refine WL.val (v_move rfl rfl) (.none rfl) rfl rfl ?_
        refine WL.val (v_not rfl rfl rfl) (.none rfl) rfl rfl ?_
        refine WL.nil ?_
        refine WE.then_n ?_
        refine WC.cond_t rfl ?_
        refine WC.seq ?_
        refine WC.region ?_
        refine WL.val (v_assign rfl rfl) (.none rfl) rfl rfl ?_
        refine WL.val (v_assign rfl rfl) (.none rfl) rfl rfl ?_
        refine WL.nil ?_
        refine WE.then_n ?_
        refine WC.ret ?_
        refine WE.then_ret ?_
        refine WE.ret2 (P := Tryd.prog) (.inl rfl) Tryd.results21 rfl rfl ?_
        obtain ⟨_, hc⟩ : True ∧ runT t H = none := (by rcases hc with ⟨h, _⟩ | ⟨_, h, _⟩; cases h; exact ⟨trivial, h⟩)
        exact fun w' h => ⟨[], none, 0, [], _, rfl, Vec.nil 19, h.sub (List.sublist_append_of_sublist_right (.cons _ (.cons _ (.refl _)))), by unfold RunIs; rw [if_neg h13, if_neg (by rw [hok]; decide), hc]; exact ⟨rfl, rfl⟩⟩
      · -- 25T
        refine WL.val (v_assign rfl rfl) (.none rfl) rfl rfl ?_
        refine WL.val (v_assign rfl rfl) (.none rfl) rfl rfl ?_
        refine WL.nil ?_
        refine WE.then_n ?_
        refine WC.seq ?_
        refine WC.seq ?_
        refine WC.region ?_
        refine WL.val (v_move rfl rfl) (.none rfl) rfl rfl ?_
        refine WL.val (v_not rfl rfl rfl) (.none rfl) rfl rfl ?_
        refine WL.nil ?_
        refine WE.then_n ?_
        refine WC.cond_f rfl ?_
        refine WC.skip ?_
        refine WE.then_n ?_
        refine WC.seq ?_
        refine WC.region ?_
        refine WL.val (v_move rfl rfl) (.none rfl) rfl rfl ?_
        refine WL.call rfl rfl ck_57 (.none rfl) rfl rfl ?_
        intro w1 hS
        obtain ⟨_, hc⟩ : True ∧ runT t H = some Rs := (by rcases hc with ⟨_, h⟩ | ⟨h, _⟩; exact ⟨trivial, h⟩; cases h)
        have hgood := runT_good t false H Rs (walkT_ok _ _ _ _ (Classical.not_not.1 h13)) hI hH hc
        refine (sort_c p hp w0 w1 hG (.row g3 (hdL H) :: .row g2 (ndL t) :: L) E ad c Rs hgood.all hV hS (by have := hgood.len; omega)).mono ?_
        rintro e w' ⟨rfl, Ss, E', hperm, hasc, hV', hS'⟩
        refine ⟨_, _, rfl, hS', ?_⟩
        refine WL.nil ?_
        refine WE.then_n ?_
        refine WC.seq ?_
        refine WC.region ?_
        refine WL.val (v_move rfl rfl) (.none rfl) rfl rfl ?_
        refine WL.val (v_assign rfl rfl) (.none rfl) rfl rfl ?_
        refine WL.val (v_assign rfl rfl) (.none rfl) rfl rfl ?_
        refine WL.nil ?_
        refine WE.then_n ?_
        refine WC.ret ?_
        refine WE.ret2 (P := Tryd.prog) (.inl rfl) Tryd.results21 rfl rfl ?_
        exact fun w' h => ⟨Ss, ad, c, E', _, by rw [hperm.length_eq], by rw [hperm.length_eq]; exact hV', h.sub (List.Sublist.append_left (.cons _ (.cons _ (.refl _))) _), by unfold RunIs; rw [if_neg h13, if_neg (by rw [hok]; decide), hc]; exact ⟨rfl, hperm, hasc⟩⟩
/-- The node that sends to a port. -/
def fwdN (v : Int) : Nd := .mk 14 0 v 0 none 0 []
theorem Fwd_c (w : World) (port : Int) :
    Calls Tryd.prog 32 #[.int .i64 port] w fun e w' => e = .returned (ndV (fwdN (port % 256))) ∧ Frm (fun _ => False) w w' := by
  refine enter Tryd.func32 rfl Tryd.ntmps32 rfl (St.start (fun _ => False) w) ?_
  refine WC.seq ?_
  refine WC.region ?_
  refine WL.alloc rfl zero_45 (.none rfl) rfl rfl ?_
  intro g2 hg2
  refine WL.nil ?_
  refine WE.then_n ?_
  refine WC.seq ?_
  refine WC.region ?_
  refine WL.val (v_move rfl rfl) (.none rfl) rfl rfl ?_
  refine WL.val (v_conv rfl rfl Tryd.underlying22 Tryd.underlying3 (w_u64m _)) (.none rfl) rfl rfl ?_
  refine WL.val (v_and rfl rfl rfl (mask_u64 (i := 8) (m := 256) (by decide) (by decide) (by decide) (by omega) (by omega))) (.none rfl) rfl rfl ?_
  refine WL.val (v_build rfl rfl zero_45 plc_45 rfl) (.none rfl) rfl rfl ?_
  refine WL.storeW rfl rfl rfl rfl many_45 rfl rfl (.none rfl) rfl ?_
  refine WL.nil ?_
  refine WE.then_n ?_
  refine WC.ret ?_
  refine WE.ret1 (P := Tryd.prog) (.inl rfl) Tryd.results32 (resRow rfl many_45 rfl) ?_
  exact fun w' h => ⟨by rw [show port % 18446744073709551616 % 256 = port % 256 by omega]; rfl, h.frm⟩
theorem LPar_c (w : World) (ad : Option Addr) (c : Nat) (ks : List Nd) :
    Calls Tryd.prog 28 #[.slice ad ks.length c] w fun e w' => e = .returned (ndV (.mk 15 0 0 0 ad c ks)) ∧ Frm (fun _ => False) w w' := by
  refine enter Tryd.func28 rfl Tryd.ntmps28 rfl (St.start (fun _ => False) w) ?_
  refine WC.seq ?_
  refine WC.region ?_
  refine WL.alloc rfl zero_45 (.none rfl) rfl rfl ?_
  intro g2 hg2
  refine WL.nil ?_
  refine WE.then_n ?_
  refine WC.seq ?_
  refine WC.region ?_
  refine WL.val (v_move rfl rfl) (.none rfl) rfl rfl ?_
  refine WL.val (v_build rfl rfl zero_45 plc_45 rfl) (.none rfl) rfl rfl ?_
  refine WL.storeW rfl rfl rfl rfl many_45 rfl rfl (.none rfl) rfl ?_
  refine WL.nil ?_
  refine WE.then_n ?_
  refine WC.ret ?_
  refine WE.ret1 (P := Tryd.prog) (.inl rfl) Tryd.results28 (resRow rfl many_45 rfl) ?_
  exact fun w' h => ⟨rfl, h.frm⟩
theorem LSeq_c (w : World) (ad : Option Addr) (c : Nat) (ks : List Nd) :
    Calls Tryd.prog 29 #[.slice ad ks.length c] w fun e w' => e = .returned (ndV (.mk 16 0 0 0 ad c ks)) ∧ Frm (fun _ => False) w w' := by
  refine enter Tryd.func29 rfl Tryd.ntmps29 rfl (St.start (fun _ => False) w) ?_
  refine WC.seq ?_
  refine WC.region ?_
  refine WL.alloc rfl zero_45 (.none rfl) rfl rfl ?_
  intro g2 hg2
  refine WL.nil ?_
  refine WE.then_n ?_
  refine WC.seq ?_
  refine WC.region ?_
  refine WL.val (v_move rfl rfl) (.none rfl) rfl rfl ?_
  refine WL.val (v_build rfl rfl zero_45 plc_45 rfl) (.none rfl) rfl rfl ?_
  refine WL.storeW rfl rfl rfl rfl many_45 rfl rfl (.none rfl) rfl ?_
  refine WL.nil ?_
  refine WE.then_n ?_
  refine WC.ret ?_
  refine WE.ret1 (P := Tryd.prog) (.inl rfl) Tryd.results29 (resRow rfl many_45 rfl) ?_
  exact fun w' h => ⟨rfl, h.frm⟩
theorem LFil_c (p : Nat → Prop) (w0 w1 : World) (L : List Ent) (u : Nd) (hS0 : St p w0 w1 L) :
    Calls Tryd.prog 35 #[ndV u] w1 fun e w' => ∃ g, e = .returned (ndV (.mk 13 0 0 0 (some ⟨g, 0, none⟩) 1 [u])) ∧ w0.heap.size ≤ g ∧ St p w0 w' (.row g (ndL u) :: L) := by
  refine enter Tryd.func35 rfl Tryd.ntmps35 rfl hS0 ?_
  refine WC.seq ?_
  refine WC.region ?_
  refine WL.box rfl rfl rfl (.none rfl) rfl rfl ?_
  intro g1 hg1
  refine WL.alloc rfl zero_45 (.none rfl) rfl rfl ?_
  intro g2 hg2
  refine WL.nil ?_
  refine WE.then_n ?_
  refine WC.seq ?_
  refine WC.region ?_
  refine WL.val (v_loadN rfl rfl many_45 rfl allAt) (.none rfl) rfl rfl ?_
  refine WL.buildSlice rfl rfl Tryd.underlying43 sz_45 zero_45 rfl (by decide) rfl (.none rfl) rfl rfl ?_
  intro g4 hg4
  refine WL.val (v_build rfl rfl zero_45 plc_45 rfl) (.none rfl) rfl rfl ?_
  refine WL.storeW rfl rfl rfl rfl many_45 rfl rfl (.none rfl) rfl ?_
  refine WL.nil ?_
  refine WE.then_n ?_
  refine WC.ret ?_
  refine WE.ret1 (P := Tryd.prog) (.inl rfl) Tryd.results35 (resRow rfl many_45 rfl) ?_
  exact fun w' h => ⟨g4, rfl, hg4, h.sub (.cons_cons _ (.cons _ (.cons _ (.refl _))))⟩
end Go.Proofs.YtodaanhhnjkncaaDoor
