/- Texts joined: engine, contracts and laws, in the order in which they build. -/
import Derived.Test.YtmhahajadgkolaaGreatDoorBeSdxWants
/- stage.Make. -/
namespace Go.Proofs.YtmhahajadgkolaaGreatDoor
open Go.RowKit

theorem CloneMac_c (w : World) (ad : Option Addr) (c : Nat) (xs : List (Nat → Int)) (hr : Rg w ad (macsL xs)) (hn : xs.length ≤ 100000) :
    Calls Tryz.prog 89 #[.slice ad xs.length c] w fun e w' => ∃ ad' c' E, e = .returned (.slice ad' xs.length c') ∧ Vec 6 ad' xs.length c' (macsL xs) E ∧ St (fun _ => False) w w' E := by
  cases ad with
  | none =>
    obtain rfl : xs = [] := Classical.byContradiction fun h => by
      obtain ⟨b, o, e, _⟩ := hr (fun hn => h (List.length_eq_zero_iff.1 (by have := macsL_len xs; rw [hn] at this; simp at this; omega)))
      cases e
    refine enter Tryz.func89 rfl Tryz.ntmps89 rfl (St.start (fun _ => False) w) ?_
    refine WC.seq <| WC.region <| WL.v (v_assign rfl rfl) rfl <| WL.nt <| WC.seq <| WC.seq <| WC.region <| WL.v (v_move rfl rfl) rfl <| WL.v (v_eql_nil true rfl rfl Tryz.underlying49 rfl) rfl <| WL.nt <| WC.cond_t rfl <| WC.seq <| WC.region <| WL.v (v_assign rfl rfl) rfl <| ?_
    refine WL.nt <| WC.ret <| WE.then_ret <| WE.ret1 (P := Tryz.prog) (.inl rfl) Tryz.results89 rfl <| ?_
    exact fun w' h => ⟨none, 0, [], rfl, Vec.nil 6, h⟩
  | some a =>
    have hl := macsL_len xs
    refine enter Tryz.func89 rfl Tryz.ntmps89 rfl (St.start (fun _ => False) w) ?_
    refine WC.seq <| WC.region <| WL.v (v_assign rfl rfl) rfl <| WL.nt <| WC.seq <| WC.seq <| WC.region <| WL.v (v_move rfl rfl) rfl <| WL.v (v_eql_nil false rfl rfl Tryz.underlying49 rfl) rfl <| WL.nt <| WC.cond_f rfl <| WC.skip <| WE.then_n <| WC.seq <| ?_
    refine WC.region ?_
    refine WL.buildSlice rfl rfl Tryz.underlying49 sz_93 zero_93 rfl (by decide) rfl (.none rfl) rfl rfl ?_
    intro g5 hg5
    refine WL.v (v_move rfl rfl) rfl ?_
    refine WL.appendL rfl rfl rfl Tryz.underlying49 Tryz.underlying49 sz_93 by_93 zero_93 rfl rfl (E := [.row g5 []]) (Vec.row (k := 0) (s := 6) (c := 0) rfl rfl (by omega)) (new := macsL xs) (fun h => by obtain ⟨b', o', e', hr'⟩ := hr (fun hn => by rw [hn] at hl; simp at hl; omega); exact ⟨b', o', e', rgIn (fun h => h) hr'⟩) hl (encL_one mcL_one xs) (by omega) (.none rfl) rfl rfl ?_
    intro ad7 c7 E7 hV7 hr7
    refine WL.v (v_assign rfl rfl) rfl <| WL.nt <| WC.ret <| WE.ret1 (P := Tryz.prog) (.inl rfl) Tryz.results89 rfl <| ?_
    exact fun w' h => ⟨ad7, c7, E7, by rw [Nat.zero_add], by simpa using hV7, h.sub (List.sublist_append_left _ _)⟩
theorem WL.rowTo {P : Program} {ops : Array Oper} {Q : Exit → Act → World → Prop} {n : Nat} {p : Nat → Prop} {w0 : World} {rest : List Oper} {l : Kn} {L L' : List Ent} {g : Nat} {cs cs' : List Value} [ha : At L g cs] [hp : Put L g (.row g cs') L'] (e : cs = cs')
    (h : WL P ops Q n p w0 rest l L') : WL P ops Q n p w0 rest l L := fun a w hA hS => h a w hA (by
  have hm := ha.mem
  rw [e] at hm
  obtain ⟨A, B, e', h1, h2, h3⟩ := hp.ok rfl
  rw [h2]
  have hd : (A ++ Ent.row g cs' :: B).map Ent.at = L.map Ent.at := by
    rw [h1, List.map_append, List.map_append, List.map_cons, List.map_cons, h3]
    rfl
  have hin : ∀ x ∈ A ++ Ent.row g cs' :: B, x ∈ L := fun x hx => by
    rcases List.mem_append.1 hx with hx | hx
    · rw [h1]; exact List.mem_append_left _ hx
    · rcases List.mem_cons.1 hx with rfl | hx
      · exact hm
      · rw [h1]; exact List.mem_append_right _ (List.mem_cons_of_mem _ hx)
  exact ⟨hS.frm, fun x hx => hS.holds x (hin x hx), by rw [hd]; exact hS.dist, fun x hx => hS.mine x (hin x hx)⟩)
set_option maxHeartbeats 8000000 in
def makeF (p : PlN) : Prop := p.macs.length = 0 ∨ 16 < p.macs.length ∨ p.outs.length ≠ p.macs.length ∨ p.ins.length ≠ p.macs.length
instance (p : PlN) : Decidable (makeF p) := by unfold makeF; infer_instance
def makeE (p : PlN) : Int := if makeF p then 1 else if errs codeC p.outs ≠ 0 then errs codeC p.outs else errs codeC p.ins
def plZ : PlN := ⟨none, 0, [], none, 0, [], none, 0, [], none, 0, 0, none, 0, 0, none, 0, 0⟩
theorem plZ_at (w : World) : plZ.At w := ⟨by unfold KidsAt; trivial, by unfold KidsAt; trivial, fun h => absurd rfl h⟩
theorem plZ_in : plZ.In := ⟨KidsIn.nil, KidsIn.nil, fun f h => (by cases h), by decide⟩
structure MkS where
  za : Option Addr
  zc : Nat
  Z : List Ent
  ma : Option Addr
  mc : Nat
  E : List Ent
  g : Nat
set_option maxRecDepth 8000 in
set_option maxHeartbeats 4000000 in
theorem Make_c (w : World) (p : PlN) (hA : p.At w) (hI : p.In) (hG : GW w) (h1 : ∀ t ∈ p.outs, Lt t) (h2 : ∀ t ∈ p.ins, Lt t) :
    Calls Tryz.prog 38 #[.agg p.cells.toArray] w fun e w' => ∃ (q : PlN) (M : List Ent), e = .returned (.tuple #[.agg q.cells.toArray, .int .i64 (makeE p)]) ∧ (makeE p = 0 → q.outs.map er = p.outs.map er ∧ q.ins.map er = p.ins.map er ∧ q.macs = p.macs) ∧ (makeE p ≠ 0 → q.macs = []) ∧ (∀ w2, (∀ e ∈ M, e.holds w2) → q.At w2) ∧ q.In ∧ St (fun _ => False) w w' M := by
  obtain ⟨f1, f2, f3⟩ := hI.few
  refine enter Tryz.func38 rfl Tryz.ntmps38 rfl (St.start (fun _ => False) w) ?_
  refine WC.seq <| WC.region <| WL.box rfl rfl rfl (.none rfl) rfl rfl <| ?_
  intro g1 hg1
  refine WL.alloc rfl zero_74 (.none rfl) rfl rfl ?_
  intro g2 hg2
  refine WL.v (v_assign rfl rfl) rfl <| WL.nt <| WC.seq <| WC.region <| WL.v (v_fieldAddr0 rfl rfl fld_74_2) rfl <| WL.v (v_load1 rfl rfl one_49 (cellAt (v := .slice p.ma p.macs.length p.mc) rfl)) rfl <| WL.v (v_len_slice rfl rfl Tryz.underlying49) rfl <| WL.v (v_assign rfl rfl) rfl <| WL.nt <| ?_
  refine WC.cut (fun _ : Unit => [(1, .pointer (some ⟨g1, 0, none⟩)), (2, .pointer (some ⟨g2, 0, none⟩))]) (fun _ => [.row g2 plZ.cells, .row g1 p.cells]) (fun _ => ¬ makeF p) ?_ ?_
  ·
   refine WC.seq <| WC.region <| WL.v (v_move rfl rfl) rfl <| ?_
   refine WL.test (v_eql rfl rfl rfl) (.none rfl) rfl rfl (fun h11 => ?_) (fun h11 => ?_)
   ·
    refine WL.v (v_move rfl rfl) rfl ?_
    iterate 2 refine WL.sk rfl ?_
    refine WL.v (v_pick_t rfl rfl rfl) rfl <| WL.v (v_move rfl rfl) rfl <| ?_
    iterate 5 refine WL.sk rfl ?_
    refine WL.v (v_pick_t rfl rfl rfl) rfl <| WL.v (v_move rfl rfl) rfl <| ?_
    iterate 5 refine WL.sk rfl ?_
    refine WL.v (v_pick_t rfl rfl rfl) rfl <| WL.nt <| WC.cond_t rfl <| WC.seq <| WC.region <| WL.v (v_build rfl rfl zero_74 plc_74 rfl) rfl <| WL.storeW rfl rfl rfl rfl many_74 rfl rfl (.none rfl) rfl <| WL.v (v_assign rfl rfl) rfl <| WL.nt <| WC.ret <| WE.then_ret <| WE.ret2 (P := Tryz.prog) (.inl rfl) Tryz.results38 (resRow rfl many_74 rfl) rfl <| ?_
    have e : makeE p = 1 := (by unfold makeE; exact if_pos (by unfold makeF; omega))
    rw [e]
    exact fun w' h => ⟨plZ, _, rfl, fun k => (by cases k), fun _ => rfl, fun w2 _ => plZ_at w2, plZ_in, h⟩
   ·
    refine WL.v (v_move rfl rfl) rfl <| WL.val (v_move rfl rfl) (.some rfl rfl rfl) rfl rfl <| ?_
    refine WL.test (v_gtr rfl rfl rfl) (.some rfl rfl rfl) rfl rfl (fun h14 => ?_) (fun h14 => ?_)
    ·
     refine WL.v (v_pick_f rfl rfl rfl) rfl <| WL.v (v_move rfl rfl) rfl <| ?_
     iterate 5 refine WL.sk rfl ?_
     refine WL.v (v_pick_t rfl rfl rfl) rfl <| WL.v (v_move rfl rfl) rfl <| ?_
     iterate 5 refine WL.sk rfl ?_
     refine WL.v (v_pick_t rfl rfl rfl) rfl <| WL.nt <| WC.cond_t rfl <| WC.seq <| WC.region <| WL.v (v_build rfl rfl zero_74 plc_74 rfl) rfl <| WL.storeW rfl rfl rfl rfl many_74 rfl rfl (.none rfl) rfl <| WL.v (v_assign rfl rfl) rfl <| WL.nt <| WC.ret <| WE.then_ret <| WE.ret2 (P := Tryz.prog) (.inl rfl) Tryz.results38 (resRow rfl many_74 rfl) rfl <| ?_
     have e : makeE p = 1 := (by unfold makeE; exact if_pos (by unfold makeF; omega))
     rw [e]
     exact fun w' h => ⟨plZ, _, rfl, fun k => (by cases k), fun _ => rfl, fun w2 _ => plZ_at w2, plZ_in, h⟩
    ·
     refine WL.v (v_pick_f rfl rfl rfl) rfl <| WL.v (v_move rfl rfl) rfl <| WL.val (v_fieldAddr0 rfl rfl fld_74_0) (.some rfl rfl rfl) rfl rfl <| WL.val (v_load1 rfl rfl one_24 (cellAt (v := .slice p.oa p.outs.length p.oc) rfl)) (.some rfl rfl rfl) rfl rfl <| WL.val (v_len_slice rfl rfl Tryz.underlying24) (.some rfl rfl rfl) rfl rfl <| WL.val (v_move rfl rfl) (.some rfl rfl rfl) rfl rfl <| ?_
     refine WL.test (v_neq rfl rfl rfl) (.some rfl rfl rfl) rfl rfl (fun h21 => ?_) (fun h21 => ?_)
     ·
      refine WL.v (v_pick_f rfl rfl rfl) rfl <| WL.v (v_move rfl rfl) rfl <| ?_
      iterate 5 refine WL.sk rfl ?_
      refine WL.v (v_pick_t rfl rfl rfl) rfl <| WL.nt <| WC.cond_t rfl <| WC.seq <| WC.region <| WL.v (v_build rfl rfl zero_74 plc_74 rfl) rfl <| WL.storeW rfl rfl rfl rfl many_74 rfl rfl (.none rfl) rfl <| WL.v (v_assign rfl rfl) rfl <| WL.nt <| WC.ret <| WE.then_ret <| WE.ret2 (P := Tryz.prog) (.inl rfl) Tryz.results38 (resRow rfl many_74 rfl) rfl <| ?_
      have e : makeE p = 1 := (by unfold makeE; exact if_pos (by unfold makeF; omega))
      rw [e]
      exact fun w' h => ⟨plZ, _, rfl, fun k => (by cases k), fun _ => rfl, fun w2 _ => plZ_at w2, plZ_in, h⟩
     ·
      refine WL.v (v_pick_f rfl rfl rfl) rfl <| WL.v (v_move rfl rfl) rfl <| WL.val (v_fieldAddr0 rfl rfl fld_74_1) (.some rfl rfl rfl) rfl rfl <| WL.val (v_load1 rfl rfl one_24 (cellAt (v := .slice p.ia p.ins.length p.ic) rfl)) (.some rfl rfl rfl) rfl rfl <| WL.val (v_len_slice rfl rfl Tryz.underlying24) (.some rfl rfl rfl) rfl rfl <| WL.val (v_move rfl rfl) (.some rfl rfl rfl) rfl rfl <| ?_
      refine WL.test (v_neq rfl rfl rfl) (.some rfl rfl rfl) rfl rfl (fun h28 => ?_) (fun h28 => ?_)
      ·
       refine WL.v (v_pick_f rfl rfl rfl) rfl <| WL.nt <| WC.cond_t rfl <| WC.seq <| WC.region <| WL.v (v_build rfl rfl zero_74 plc_74 rfl) rfl <| WL.storeW rfl rfl rfl rfl many_74 rfl rfl (.none rfl) rfl <| WL.v (v_assign rfl rfl) rfl <| WL.nt <| WC.ret <| WE.then_ret <| WE.ret2 (P := Tryz.prog) (.inl rfl) Tryz.results38 (resRow rfl many_74 rfl) rfl <| ?_
       have e : makeE p = 1 := (by unfold makeE; exact if_pos (by unfold makeF; omega))
       rw [e]
       exact fun w' h => ⟨plZ, _, rfl, fun k => (by cases k), fun _ => rfl, fun w2 _ => plZ_at w2, plZ_in, h⟩
      ·
       refine WL.v (v_pick_f rfl rfl rfl) rfl <| WL.nt <| WC.cond_f rfl <| WC.skip <| ?_
       exact WE.mid () (by unfold makeF; omega) (.cons rfl (.cons rfl .nil)) (.refl _)
  ·
   intro _ hmf
   refine WC.cut (fun x : MkS => [(5, .pointer (some ⟨x.g, 0, none⟩)), (1, .pointer (some ⟨g1, 0, none⟩)), (2, .pointer (some ⟨g2, 0, none⟩))]) (fun x => .row x.g [.slice none 0 0, .slice none 0 0, .slice x.ma p.macs.length x.mc, .slice none 0 0, .slice none 0 0, .slice x.za p.macs.length x.zc] :: (x.E ++ (x.Z ++ [.row g2 plZ.cells, .row g1 p.cells]))) (fun x => Vec 6 x.ma p.macs.length x.mc (macsL p.macs) x.E) ?_ ?_
   ·
    refine WC.held ([.row g1 p.cells]) mixed ?_
    refine WRH.first (g := 5) [0, 1, 3, 4] (by kernel_rfl) (by kernel_rfl) (fun w hS => hS.sub (by repeat (first | exact List.Sublist.refl _ | exact List.nil_sublist _ | refine List.Sublist.cons_cons _ ?_ | refine List.Sublist.cons _ ?_ | refine List.sublist_append_of_sublist_right ?_))) ?_
    refine WH.val (v_fieldAddr0 rfl rfl fld_74_2) (.none rfl) rfl rfl <| WH.val (v_load1 rfl rfl one_49 (cellAt (v := .slice p.ma p.macs.length p.mc) rfl)) (.none rfl) rfl rfl <| WH.val (v_fieldAddr0 rfl rfl fld_74_2) (.none rfl) rfl rfl <| WH.val (v_load1 rfl rfl one_49 (cellAt (v := .slice p.ma p.macs.length p.mc) rfl)) (.none rfl) rfl rfl <| WH.nil <| ?_
    refine WRH.each (g := 4) [2, 7] (by kernel_rfl) (by decide) ?_
    refine ⟨?_, ?_⟩
    ·
     refine WL.call rfl rfl ck_89 (.none rfl) rfl rfl ?_
     intro w1 hS
     refine (CloneMac_c w1 p.ma p.mc p.macs (hA.macs.frm hS.frm (fun _ _ _ h => h)) (by omega)).mono ?_
     rintro e w' ⟨ma, mc, Em, rfl, hVm, hS'⟩
     refine ⟨_, _, rfl, hS.join hS', ?_⟩
     refine WL.nilH (fun w hS => hS.sub (by repeat (first | exact List.Sublist.refl _ | exact List.nil_sublist _ | refine List.Sublist.cons_cons _ ?_ | refine List.Sublist.cons _ ?_ | refine List.sublist_append_of_sublist_right ?_))) ?_
     refine WRH.each (g := 3) [5, 7] (by kernel_rfl) (by decide) ?_
     refine ⟨?_, ?_⟩
     ·
      refine WL.call rfl rfl ck_89 (.none rfl) rfl rfl ?_
      intro w1 hS
      refine (CloneMac_c w1 p.ma p.mc p.macs (hA.macs.frm hS.frm (fun _ _ _ h => h)) (by omega)).mono ?_
      rintro e w' ⟨za, zc, Ez, rfl, hVz, hS'⟩
      refine ⟨_, _, rfl, hS.join hS', ?_⟩
      refine WL.nilH (fun w hS => hS.sub (by repeat (first | exact List.Sublist.refl _ | exact List.nil_sublist _ | refine List.Sublist.cons_cons _ ?_ | refine List.Sublist.cons _ ?_ | refine List.sublist_append_of_sublist_right ?_))) ?_
      refine WRH.first (g := 2) [6] (by kernel_rfl) (by kernel_rfl) (fun w hS => hS.sub (by repeat (first | exact List.Sublist.refl _ | exact List.nil_sublist _ | refine List.Sublist.cons_cons _ ?_ | refine List.Sublist.cons _ ?_ | refine List.sublist_append_of_sublist_right ?_))) ?_
      refine WH.val (v_build rfl rfl zero_74 plc_74 rfl) (.none rfl) rfl rfl <| WH.nil <| ?_
      refine WRH.one (g := 1) 7 (by kernel_rfl) ?_
      refine WL.alloc rfl zero_74 (.none rfl) rfl rfl ?_
      intro g5 hg5
      refine WL.nilH (fun w hS => hS.sub (by repeat (first | exact List.Sublist.refl _ | exact List.nil_sublist _ | refine List.Sublist.cons_cons _ ?_ | refine List.Sublist.cons _ ?_ | refine List.sublist_append_of_sublist_right ?_))) ?_
      refine WRH.one (g := 0) 8 (by kernel_rfl) ?_
      refine WL.storeW rfl rfl rfl rfl many_74 rfl rfl (.none rfl) rfl <| WL.rowTo (g := g5) (cs' := [.slice none 0 0, .slice none 0 0, .slice ma p.macs.length mc, .slice none 0 0, .slice none 0 0, .slice za p.macs.length zc]) rfl <| ?_
      refine WL.nilH (fun w hS => hS.sub (by repeat (first | exact List.Sublist.refl _ | exact List.nil_sublist _ | refine List.Sublist.cons_cons _ ?_ | refine List.Sublist.cons _ ?_ | refine List.sublist_append_of_sublist_right ?_))) ?_
      refine WRH.done (by kernel_rfl) ?_
      exact WE.to (L' := .row g5 [.slice none 0 0, .slice none 0 0, .slice ma p.macs.length mc, .slice none 0 0, .slice none 0 0, .slice za p.macs.length zc] :: (Em ++ (Ez ++ [.row g2 plZ.cells, .row g1 p.cells]))) (fun w hS => hS.permX) (WE.mid ⟨za, zc, Ez, ma, mc, Em, g5⟩ hVm (.cons rfl (.cons rfl (.cons rfl .nil))) (.refl _))
     ·
      refine WL.alloc rfl zero_74 (.none rfl) rfl rfl ?_
      intro g5 hg5
      refine WL.nilH (fun w hS => hS.sub (by repeat (first | exact List.Sublist.refl _ | exact List.nil_sublist _ | refine List.Sublist.cons_cons _ ?_ | refine List.Sublist.cons _ ?_ | refine List.sublist_append_of_sublist_right ?_))) ?_
      refine WRH.one (g := 2) 5 (by kernel_rfl) ?_
      refine WL.call rfl rfl ck_89 (.none rfl) rfl rfl ?_
      intro w1 hS
      refine (CloneMac_c w1 p.ma p.mc p.macs (hA.macs.frm hS.frm (fun _ _ _ h => h)) (by omega)).mono ?_
      rintro e w' ⟨za, zc, Ez, rfl, hVz, hS'⟩
      refine ⟨_, _, rfl, hS.join hS', ?_⟩
      refine WL.nilH (fun w hS => hS.sub (by repeat (first | exact List.Sublist.refl _ | exact List.nil_sublist _ | refine List.Sublist.cons_cons _ ?_ | refine List.Sublist.cons _ ?_ | refine List.sublist_append_of_sublist_right ?_))) ?_
      refine WRH.first (g := 1) [6] (by kernel_rfl) (by kernel_rfl) (fun w hS => hS.sub (by repeat (first | exact List.Sublist.refl _ | exact List.nil_sublist _ | refine List.Sublist.cons_cons _ ?_ | refine List.Sublist.cons _ ?_ | refine List.sublist_append_of_sublist_right ?_))) ?_
      refine WH.val (v_build rfl rfl zero_74 plc_74 rfl) (.none rfl) rfl rfl <| WH.nil <| ?_
      refine WRH.one (g := 0) 8 (by kernel_rfl) ?_
      refine WL.storeW rfl rfl rfl rfl many_74 rfl rfl (.none rfl) rfl <| WL.rowTo (g := g5) (cs' := [.slice none 0 0, .slice none 0 0, .slice ma p.macs.length mc, .slice none 0 0, .slice none 0 0, .slice za p.macs.length zc]) rfl <| ?_
      refine WL.nilH (fun w hS => hS.sub (by repeat (first | exact List.Sublist.refl _ | exact List.nil_sublist _ | refine List.Sublist.cons_cons _ ?_ | refine List.Sublist.cons _ ?_ | refine List.sublist_append_of_sublist_right ?_))) ?_
      refine WRH.done (by kernel_rfl) ?_
      exact WE.to (L' := .row g5 [.slice none 0 0, .slice none 0 0, .slice ma p.macs.length mc, .slice none 0 0, .slice none 0 0, .slice za p.macs.length zc] :: (Em ++ (Ez ++ [.row g2 plZ.cells, .row g1 p.cells]))) (fun w hS => hS.permX) (WE.mid ⟨za, zc, Ez, ma, mc, Em, g5⟩ hVm (.cons rfl (.cons rfl (.cons rfl .nil))) (.refl _))
    ·
     refine WL.alloc rfl zero_74 (.none rfl) rfl rfl ?_
     intro g5 hg5
     refine WL.nilH (fun w hS => hS.sub (by repeat (first | exact List.Sublist.refl _ | exact List.nil_sublist _ | refine List.Sublist.cons_cons _ ?_ | refine List.Sublist.cons _ ?_ | refine List.sublist_append_of_sublist_right ?_))) ?_
     refine WRH.one (g := 3) 2 (by kernel_rfl) ?_
     refine WL.call rfl rfl ck_89 (.none rfl) rfl rfl ?_
     intro w1 hS
     refine (CloneMac_c w1 p.ma p.mc p.macs (hA.macs.frm hS.frm (fun _ _ _ h => h)) (by omega)).mono ?_
     rintro e w' ⟨ma, mc, Em, rfl, hVm, hS'⟩
     refine ⟨_, _, rfl, hS.join hS', ?_⟩
     refine WL.nilH (fun w hS => hS.sub (by repeat (first | exact List.Sublist.refl _ | exact List.nil_sublist _ | refine List.Sublist.cons_cons _ ?_ | refine List.Sublist.cons _ ?_ | refine List.sublist_append_of_sublist_right ?_))) ?_
     refine WRH.one (g := 2) 5 (by kernel_rfl) ?_
     refine WL.call rfl rfl ck_89 (.none rfl) rfl rfl ?_
     intro w1 hS
     refine (CloneMac_c w1 p.ma p.mc p.macs (hA.macs.frm hS.frm (fun _ _ _ h => h)) (by omega)).mono ?_
     rintro e w' ⟨za, zc, Ez, rfl, hVz, hS'⟩
     refine ⟨_, _, rfl, hS.join hS', ?_⟩
     refine WL.nilH (fun w hS => hS.sub (by repeat (first | exact List.Sublist.refl _ | exact List.nil_sublist _ | refine List.Sublist.cons_cons _ ?_ | refine List.Sublist.cons _ ?_ | refine List.sublist_append_of_sublist_right ?_))) ?_
     refine WRH.first (g := 1) [6] (by kernel_rfl) (by kernel_rfl) (fun w hS => hS.sub (by repeat (first | exact List.Sublist.refl _ | exact List.nil_sublist _ | refine List.Sublist.cons_cons _ ?_ | refine List.Sublist.cons _ ?_ | refine List.sublist_append_of_sublist_right ?_))) ?_
     refine WH.val (v_build rfl rfl zero_74 plc_74 rfl) (.none rfl) rfl rfl <| WH.nil <| ?_
     refine WRH.one (g := 0) 8 (by kernel_rfl) ?_
     refine WL.storeW rfl rfl rfl rfl many_74 rfl rfl (.none rfl) rfl <| WL.rowTo (g := g5) (cs' := [.slice none 0 0, .slice none 0 0, .slice ma p.macs.length mc, .slice none 0 0, .slice none 0 0, .slice za p.macs.length zc]) rfl <| ?_
     refine WL.nilH (fun w hS => hS.sub (by repeat (first | exact List.Sublist.refl _ | exact List.nil_sublist _ | refine List.Sublist.cons_cons _ ?_ | refine List.Sublist.cons _ ?_ | refine List.sublist_append_of_sublist_right ?_))) ?_
     refine WRH.done (by kernel_rfl) ?_
     exact WE.to (L' := .row g5 [.slice none 0 0, .slice none 0 0, .slice ma p.macs.length mc, .slice none 0 0, .slice none 0 0, .slice za p.macs.length zc] :: (Em ++ (Ez ++ [.row g2 plZ.cells, .row g1 p.cells]))) (fun w hS => hS.permX) (WE.mid ⟨za, zc, Ez, ma, mc, Em, g5⟩ hVm (.cons rfl (.cons rfl (.cons rfl .nil))) (.refl _))
   ·
    rintro ⟨za, zc, Z, ma, mc, E, g5⟩ hVm
    dsimp only at hVm
    dsimp only
    refine WC.seq <| WC.region <| WL.v (v_assign rfl rfl) rfl <| WL.nt <| WC.seq <| WC.seq <| WC.region <| WL.v (v_fieldAddr0 rfl rfl fld_74_0) rfl <| WL.v (v_load1 rfl rfl one_24 (cellAt (v := .slice p.oa p.outs.length p.oc) rfl)) rfl <| WL.call rfl rfl ck_90 (.none rfl) rfl rfl <| ?_
    intro w1 hS
    refine (compile_c w1 p.oa p.oc p.outs (hA.outs.frm hS.frm) hI.outs (hG.keep (fun h => h) hS) h1 f1).mono ?_
    rintro e w' ⟨oa, oc, us, xa, xn, xc, M1, rfl, hu0, hu1, huA, huI, hS'⟩
    refine ⟨_, M1 ++ (.row g5 [.slice none 0 0, .slice none 0 0, .slice ma p.macs.length mc, .slice none 0 0, .slice none 0 0, .slice za p.macs.length zc] :: (E ++ (Z ++ [.row g2 plZ.cells, .row g1 p.cells]))), rfl, hS.join hS', ?_⟩
    refine WL.v (v_move rfl rfl) rfl <| WL.v (v_extract rfl rfl rfl) rfl <| WL.v (v_extract rfl rfl rfl) rfl <| WL.v (v_extract rfl rfl rfl) rfl <| WL.v (v_fieldAddr0 rfl rfl fld_74_0) rfl <| WL.store1 rfl rfl rfl rfl one_24 (Nat.le_of_ble_eq_true rfl) (.none rfl) rfl <| WL.v (v_fieldAddr0 rfl rfl fld_74_3) rfl <| WL.store1 rfl rfl rfl rfl one_72 (Nat.le_of_ble_eq_true rfl) (.none rfl) rfl <| WL.v (v_assign rfl rfl) rfl <| WL.nt <| WC.seq <| WC.region <| WL.v (v_move rfl rfl) rfl <| ?_
    refine WL.test (v_neq rfl rfl rfl) (.none rfl) rfl rfl (fun h48 => ?_) (fun h48 => ?_)
    ·
     refine WL.nt <| WC.cond_t rfl <| WC.seq <| WC.region <| WL.v (v_build rfl rfl zero_74 plc_74 rfl) rfl <| WL.v (v_move rfl rfl) rfl <| WL.storeW rfl rfl rfl rfl many_74 rfl rfl (.none rfl) rfl <| WL.v (v_assign rfl rfl) rfl <| WL.nt <| WC.ret <| WE.then_ret <| WE.ret2 (P := Tryz.prog) (.inl rfl) Tryz.results38 (resRow rfl many_74 rfl) rfl <| ?_
     have e : makeE p = errs codeC p.outs := (by unfold makeE; rw [if_neg hmf, if_pos h48])
     rw [e]
     exact fun w' h => ⟨plZ, _, rfl, fun k => absurd k h48, fun _ => rfl, fun w2 _ => plZ_at w2, plZ_in, h⟩
    ·
     refine WL.nt <| WC.cond_f rfl <| WC.skip <| WE.then_n <| WC.seq <| WC.seq <| WC.region <| WL.v (v_fieldAddr0 rfl rfl fld_74_1) rfl <| WL.v (v_load1 rfl rfl one_24 (cellAt (v := .slice p.ia p.ins.length p.ic) rfl)) rfl <| WL.call rfl rfl ck_90 (.none rfl) rfl rfl <| ?_
     intro w1 hS
     refine (compile_c w1 p.ia p.ic p.ins (hA.ins.frm hS.frm) hI.ins (hG.keep (fun h => h) hS) h2 f2).mono ?_
     rintro e w' ⟨ia, ic, vs, ya, yn, yc, M2, rfl, hv0, hv1, hvA, hvI, hS'⟩
     refine ⟨_, M2 ++ (M1 ++ (.row g5 [.slice oa us.length oc, .slice none 0 0, .slice ma p.macs.length mc, .slice xa xn xc, .slice none 0 0, .slice za p.macs.length zc] :: (E ++ (Z ++ [.row g2 plZ.cells, .row g1 p.cells])))), rfl, hS.join hS', ?_⟩
     refine WL.v (v_move rfl rfl) rfl <| WL.v (v_extract rfl rfl rfl) rfl <| WL.v (v_extract rfl rfl rfl) rfl <| WL.v (v_extract rfl rfl rfl) rfl <| WL.v (v_fieldAddr0 rfl rfl fld_74_1) rfl <| WL.store1 rfl rfl rfl rfl one_24 (Nat.le_of_ble_eq_true rfl) (.none rfl) rfl <| WL.v (v_fieldAddr0 rfl rfl fld_74_4) rfl <| WL.store1 rfl rfl rfl rfl one_72 (Nat.le_of_ble_eq_true rfl) (.none rfl) rfl <| WL.v (v_assign rfl rfl) rfl <| WL.nt <| WC.seq <| WC.region <| WL.v (v_move rfl rfl) rfl <| ?_
     refine WL.test (v_neq rfl rfl rfl) (.none rfl) rfl rfl (fun h61 => ?_) (fun h61 => ?_)
     ·
      refine WL.nt <| WC.cond_t rfl <| WC.seq <| WC.region <| WL.v (v_build rfl rfl zero_74 plc_74 rfl) rfl <| WL.v (v_move rfl rfl) rfl <| WL.storeW rfl rfl rfl rfl many_74 rfl rfl (.none rfl) rfl <| WL.v (v_assign rfl rfl) rfl <| WL.nt <| WC.ret <| WE.then_ret <| WE.ret2 (P := Tryz.prog) (.inl rfl) Tryz.results38 (resRow rfl many_74 rfl) rfl <| ?_
      have e : makeE p = errs codeC p.ins := (by unfold makeE; rw [if_neg hmf, if_neg h48])
      rw [e]
      exact fun w' h => ⟨plZ, _, rfl, fun k => absurd k h61, fun _ => rfl, fun w2 _ => plZ_at w2, plZ_in, h⟩
     ·
      refine WL.nt <| WC.cond_f rfl <| WC.skip <| WE.then_n <| WC.seq <| WC.region <| ?_
      have e1 : errs codeC p.outs = 0 := Decidable.of_not_not h48
      have e2 : errs codeC p.ins = 0 := Decidable.of_not_not h61
      have hul : us.length = p.outs.length := (by have := congrArg List.length (hu0 e1); rwa [List.length_map, List.length_map] at this)
      have hvl : vs.length = p.ins.length := (by have := congrArg List.length (hv0 e2); rwa [List.length_map, List.length_map] at this)
      have e : makeE p = 0 := (by unfold makeE; rw [if_neg hmf, if_neg h48]; exact e2)
      rw [e]
      refine WL.v (v_loadN rfl rfl many_74 rfl (segAt (m := 6) rfl)) rfl <| WL.storeW rfl rfl rfl rfl many_74 rfl rfl (.none rfl) rfl <| WL.v (v_assign rfl rfl) rfl <| WL.nt <| WC.ret <| WE.ret2 (P := Tryz.prog) (.inl rfl) Tryz.results38 (resRow rfl many_74 rfl) rfl <| ?_
      exact fun w' h => ⟨⟨oa, oc, us, ia, ic, vs, ma, mc, p.macs, xa, xn, xc, ya, yn, yc, za, p.macs.length, zc⟩, M2 ++ (M1 ++ E), rfl, fun _ => ⟨hu0 e1, hv0 e2, rfl⟩, fun k => absurd rfl k, fun w2 hw => ⟨huA w2 fun e he => hw e (by simp [he]), hvA w2 fun e he => hw e (by simp [he]), hVm.rg fun e he => hw e (by simp [he])⟩, ⟨huI, hvI, hI.macs, by dsimp only; omega⟩, St.dropX (L := M2 ++ (M1 ++ (.row g5 [.slice oa us.length oc, .slice ia vs.length ic, .slice ma p.macs.length mc, .slice xa xn xc, .slice ya yn yc, .slice za p.macs.length zc] :: (E ++ (Z ++ [.row g2 [.slice oa us.length oc, .slice ia vs.length ic, .slice ma p.macs.length mc, .slice xa xn xc, .slice ya yn yc, .slice za p.macs.length zc], .row g1 p.cells]))))) (.row g5 [.slice oa us.length oc, .slice ia vs.length ic, .slice ma p.macs.length mc, .slice xa xn xc, .slice ya yn yc, .slice za p.macs.length zc] :: (Z ++ [.row g2 [.slice oa us.length oc, .slice ia vs.length ic, .slice ma p.macs.length mc, .slice xa xn xc, .slice ya yn yc, .slice za p.macs.length zc], .row g1 p.cells])) h⟩
end Go.Proofs.YtmhahajadgkolaaGreatDoor
/- sdx: all is laid anew while there is nothing. -/
namespace Go.Proofs.YtmhahajadgkolaaGreatDoor
open Go.RowKit

theorem tnewE_c (w : World) (n : Int) : Calls Tryz.prog 88 #[.int .i64 n] w fun e w' => ∃ v M, e = .returned (.tuple #[v, .int .i64 (if 0 ≤ n ∧ n ≤ 4096 then 0 else 1)]) ∧ (¬ (0 ≤ n ∧ n ≤ 4096) → v = .pointer none) ∧ (0 ≤ n ∧ n ≤ 4096 → ∃ g, v = .pointer (some ⟨g, 0, none⟩) ∧ M = [.row g [.int .i64 n, .slice none 0 0]]) ∧ St (fun _ => False) w w' M := by
  refine enter Tryz.func88 rfl Tryz.ntmps88 rfl (St.start (fun _ => False) w) ?_
  refine WC.seq <| WC.region <| WL.v (v_assign rfl rfl) rfl <| WL.v (v_assign rfl rfl) rfl <| WL.nt <| WC.seq <| WC.seq <| WC.region <| WL.v (v_move rfl rfl) rfl <| ?_
  refine WL.test (v_lss rfl rfl rfl) (.none rfl) rfl rfl (fun h5 => ?_) (fun h5 => ?_)
  ·
   refine WL.v (v_move rfl rfl) rfl ?_
   iterate 2 refine WL.sk rfl ?_
   refine WL.v (v_pick_t rfl rfl rfl) rfl <| WL.nt <| WC.cond_t rfl <| WC.seq <| WC.region <| WL.v (v_assign rfl rfl) rfl <| WL.v (v_assign rfl rfl) rfl <| WL.nt <| WC.ret <| WE.then_ret <| WE.ret2 (P := Tryz.prog) (.inl rfl) Tryz.results88 rfl rfl <| ?_
   rw [if_neg (by omega)]
   exact fun w' h => ⟨_, [], rfl, fun _ => rfl, fun k => absurd k (by omega), h⟩
  ·
   refine WL.v (v_move rfl rfl) rfl <| WL.val (v_move rfl rfl) (.some rfl rfl rfl) rfl rfl <| ?_
   refine WL.test (v_gtr rfl rfl rfl) (.some rfl rfl rfl) rfl rfl (fun h8 => ?_) (fun h8 => ?_)
   ·
    refine WL.v (v_pick_f rfl rfl rfl) rfl <| WL.nt <| WC.cond_t rfl <| WC.seq <| WC.region <| WL.v (v_assign rfl rfl) rfl <| WL.v (v_assign rfl rfl) rfl <| WL.nt <| WC.ret <| WE.then_ret <| WE.ret2 (P := Tryz.prog) (.inl rfl) Tryz.results88 rfl rfl <| ?_
    rw [if_neg (by omega)]
    exact fun w' h => ⟨_, [], rfl, fun _ => rfl, fun k => absurd k (by omega), h⟩
   ·
    refine WL.v (v_pick_f rfl rfl rfl) rfl <| WL.nt <| WC.cond_f rfl <| WC.skip <| WE.then_n <| WC.seq <| WC.region <| WL.v (v_move rfl rfl) rfl <| WL.v (v_build rfl rfl zero_279 plc_279 rfl) rfl <| WL.box rfl rfl rfl (.none rfl) rfl rfl <| ?_
    intro g12 hg12
    refine WL.v (v_assign rfl rfl) rfl <| WL.v (v_assign rfl rfl) rfl <| WL.nt <| WC.ret <| WE.ret2 (P := Tryz.prog) (.inl rfl) Tryz.results88 rfl rfl <| ?_
    rw [if_pos (by omega)]
    exact fun w' h => ⟨_, _, rfl, fun k => absurd (by omega) k, fun _ => ⟨_, rfl, rfl⟩, h⟩
theorem fnewE_c (w : World) (ports n : Int) (hp : 1 ≤ ports ∧ ports ≤ 16) : Calls Tryz.prog 36 #[.int .i64 ports, .int .i64 n] w fun e w' => ∃ v M, e = .returned (.tuple #[v, .int .i64 (if 0 ≤ n ∧ n ≤ 4096 then 0 else 1)]) ∧ (¬ (0 ≤ n ∧ n ≤ 4096) → v = .pointer none) ∧ (0 ≤ n ∧ n ≤ 4096 → ∃ gW gT, v = .pointer (some ⟨gW, 0, none⟩) ∧ M = [.row gW [.pointer (some ⟨gT, 0, none⟩), .int .i64 0, .int .i64 0, .int .i64 0, .int .i64 0, .int .i64 ports], .row gT [.int .i64 n, .slice none 0 0]]) ∧ St (fun _ => False) w w' M := by
  by_cases hn : 0 ≤ n ∧ n ≤ 4096
  · refine enter Tryz.func36 rfl Tryz.ntmps36 rfl (St.start (fun _ => False) w) ?_
    refine WC.seq <| WC.region <| WL.v (v_assign rfl rfl) rfl <| WL.v (v_assign rfl rfl) rfl <| WL.nt <| WC.seq <| WC.seq <| WC.region <| WL.v (v_move rfl rfl) rfl <| ?_
    refine WL.v ((v_lss rfl rfl rfl).f (by omega)) rfl ?_
    refine WL.v (v_move rfl rfl) rfl <| WL.val (v_move rfl rfl) (.some rfl rfl rfl) rfl rfl <| ?_
    refine WL.val ((v_gtr rfl rfl rfl).f (by omega)) (.some rfl rfl rfl) rfl rfl ?_
    refine WL.v (v_pick_f rfl rfl rfl) rfl <| WL.nt <| WC.cond_f rfl <| WC.skip <| WE.then_n <| WC.seq <| WC.region <| WL.v (v_move rfl rfl) rfl <| WL.call rfl rfl ck_88 (.none rfl) rfl rfl <| ?_
    intro w1 hS
    refine (tnewE_c w1 n).mono ?_
    rw [if_pos hn]
    rintro e w' ⟨v, M, rfl, _, h2, hS'⟩
    obtain ⟨gT, rfl, rfl⟩ := h2 hn
    refine ⟨_, _, rfl, hS.join hS', ?_⟩
    refine WL.v (v_move rfl rfl) rfl <| WL.v (v_extract rfl rfl rfl) rfl <| WL.v (v_extract rfl rfl rfl) rfl <| WL.v (v_assign rfl rfl) rfl <| WL.v (v_assign rfl rfl) rfl <| WL.nt <| WC.seq <| WC.seq <| WC.region <| WL.v (v_move rfl rfl) rfl <| ?_
    refine WL.v ((v_neq rfl rfl rfl).f (by omega)) rfl ?_
    refine WL.nt <| WC.cond_f rfl <| WC.skip <| WE.then_n <| WC.seq <| WC.region <| WL.v (v_move rfl rfl) rfl <| WL.v (v_move rfl rfl) rfl <| WL.v (v_build rfl rfl zero_187 plc_187 rfl) rfl <| WL.box rfl rfl rfl (.none rfl) rfl rfl <| ?_
    intro g25 hg25
    refine WL.v (v_assign rfl rfl) rfl <| WL.v (v_assign rfl rfl) rfl <| WL.nt <| WC.ret <| WE.ret2 (P := Tryz.prog) (.inl rfl) Tryz.results36 rfl rfl <| ?_
    exact fun w' h => ⟨_, _, rfl, fun k => absurd hn k, fun _ => ⟨_, gT, rfl, rfl⟩, h⟩
  · refine enter Tryz.func36 rfl Tryz.ntmps36 rfl (St.start (fun _ => False) w) ?_
    refine WC.seq <| WC.region <| WL.v (v_assign rfl rfl) rfl <| WL.v (v_assign rfl rfl) rfl <| WL.nt <| WC.seq <| WC.seq <| WC.region <| WL.v (v_move rfl rfl) rfl <| ?_
    refine WL.v ((v_lss rfl rfl rfl).f (by omega)) rfl ?_
    refine WL.v (v_move rfl rfl) rfl <| WL.val (v_move rfl rfl) (.some rfl rfl rfl) rfl rfl <| ?_
    refine WL.val ((v_gtr rfl rfl rfl).f (by omega)) (.some rfl rfl rfl) rfl rfl ?_
    refine WL.v (v_pick_f rfl rfl rfl) rfl <| WL.nt <| WC.cond_f rfl <| WC.skip <| WE.then_n <| WC.seq <| WC.region <| WL.v (v_move rfl rfl) rfl <| WL.call rfl rfl ck_88 (.none rfl) rfl rfl <| ?_
    intro w1 hS
    refine (tnewE_c w1 n).mono ?_
    rw [if_neg hn]
    rintro e w' ⟨v, M, rfl, h2, _, hS'⟩
    refine ⟨_, _, rfl, hS.join hS', ?_⟩
    refine WL.v (v_move rfl rfl) rfl <| WL.v (v_extract rfl rfl rfl) rfl <| WL.v (v_extract rfl rfl rfl) rfl <| WL.v (v_assign rfl rfl) rfl <| WL.v (v_assign rfl rfl) rfl <| WL.nt <| WC.seq <| WC.seq <| WC.region <| WL.v (v_move rfl rfl) rfl <| ?_
    refine WL.v ((v_neq rfl rfl rfl).t ((by decide))) rfl ?_
    refine WL.nt <| WC.cond_t rfl <| WC.seq <| WC.region <| WL.v (v_move rfl rfl) rfl <| WL.v (v_assign rfl rfl) rfl <| WL.v (v_assign rfl rfl) rfl <| WL.nt <| WC.ret <| WE.then_ret <| WE.ret2 (P := Tryz.prog) (.inl rfl) Tryz.results36 rfl rfl <| ?_
    exact fun w' h => ⟨_, [], rfl, fun _ => rfl, fun k => absurd k hn, h.sub (List.nil_sublist _)⟩
theorem tgnew_c (w : World) (n : Int) : Calls Tryz.prog 37 #[.int .i64 n] w fun e w' => ∃ v M, e = .returned (.tuple #[v, .int .i64 (if 0 ≤ n ∧ n ≤ 256 then 0 else 1)]) ∧ (¬ (0 ≤ n ∧ n ≤ 256) → v = .pointer none) ∧ (0 ≤ n ∧ n ≤ 256 → ∃ g gt gh, v = .pointer (some ⟨g, 0, none⟩) ∧ M = [.row g [.int .i64 n, .map (some gt), .map (some gh)], .obj gh (.map #[] 0), .obj gt (.map #[] 0)]) ∧ St (fun _ => False) w w' M := by
  refine enter Tryz.func37 rfl Tryz.ntmps37 rfl (St.start (fun _ => False) w) ?_
  refine WC.seq <| WC.region <| WL.v (v_assign rfl rfl) rfl <| WL.v (v_assign rfl rfl) rfl <| WL.nt <| WC.seq <| WC.seq <| WC.region <| WL.v (v_move rfl rfl) rfl <| ?_
  refine WL.test (v_lss rfl rfl rfl) (.none rfl) rfl rfl (fun h5 => ?_) (fun h5 => ?_)
  ·
   refine WL.v (v_move rfl rfl) rfl ?_
   iterate 2 refine WL.sk rfl ?_
   refine WL.v (v_pick_t rfl rfl rfl) rfl <| WL.nt <| WC.cond_t rfl <| WC.seq <| WC.region <| WL.v (v_assign rfl rfl) rfl <| WL.v (v_assign rfl rfl) rfl <| WL.nt <| WC.ret <| WE.then_ret <| WE.ret2 (P := Tryz.prog) (.inl rfl) Tryz.results37 rfl rfl <| ?_
   rw [if_neg (by omega)]
   exact fun w' h => ⟨_, [], rfl, fun _ => rfl, fun k => absurd k (by omega), h⟩
  ·
   refine WL.v (v_move rfl rfl) rfl <| WL.val (v_move rfl rfl) (.some rfl rfl rfl) rfl rfl <| ?_
   refine WL.test (v_gtr rfl rfl rfl) (.some rfl rfl rfl) rfl rfl (fun h8 => ?_) (fun h8 => ?_)
   ·
    refine WL.v (v_pick_f rfl rfl rfl) rfl <| WL.nt <| WC.cond_t rfl <| WC.seq <| WC.region <| WL.v (v_assign rfl rfl) rfl <| WL.v (v_assign rfl rfl) rfl <| WL.nt <| WC.ret <| WE.then_ret <| WE.ret2 (P := Tryz.prog) (.inl rfl) Tryz.results37 rfl rfl <| ?_
    rw [if_neg (by omega)]
    exact fun w' h => ⟨_, [], rfl, fun _ => rfl, fun k => absurd k (by omega), h⟩
   ·
    refine WL.v (v_pick_f rfl rfl rfl) rfl <| WL.nt <| WC.cond_f rfl <| WC.skip <| WE.then_n <| WC.seq <| WC.region <| WL.v (v_move rfl rfl) rfl <| WL.makeMap rfl (.none rfl) rfl rfl <| ?_
    intro g11 hg11
    refine WL.makeMap rfl (.none rfl) rfl rfl ?_
    intro g12 hg12
    refine WL.v (v_build rfl rfl zero_209 plc_209 rfl) rfl <| WL.box rfl rfl rfl (.none rfl) rfl rfl <| ?_
    intro g14 hg14
    refine WL.v (v_assign rfl rfl) rfl <| WL.v (v_assign rfl rfl) rfl <| WL.nt <| WC.ret <| WE.ret2 (P := Tryz.prog) (.inl rfl) Tryz.results37 rfl rfl <| ?_
    rw [if_pos (by omega)]
    exact fun w' h => ⟨_, _, rfl, fun k => absurd (by omega) k, fun _ => ⟨_, _, _, rfl, rfl⟩, h⟩
theorem arnew_c (w : World) (fn : Fn) (fi ca : Array Value) : Calls Tryz.prog 39 #[.func fn fi ca] w fun e w' => ∃ g, e = .returned (.pointer (some ⟨g, 0, none⟩)) ∧ St (fun _ => False) w w' [.row g [.func fn fi ca, .map none]] := by
  refine enter Tryz.func39 rfl Tryz.ntmps39 rfl (St.start (fun _ => False) w) ?_
  refine WC.seq <| WC.region <| WL.v (v_assign rfl rfl) rfl <| WL.nt <| WC.seq <| WC.region <| WL.v (v_move rfl rfl) rfl <| WL.v (v_build rfl rfl zero_215 plc_215 rfl) rfl <| WL.box rfl rfl rfl (.none rfl) rfl rfl <| ?_
  intro g5 hg5
  refine WL.v (v_assign rfl rfl) rfl <| WL.nt <| WC.ret <| WE.ret1 (P := Tryz.prog) (.inl rfl) Tryz.results39 rfl <| ?_
  exact fun w' h => ⟨_, rfl, h⟩
/-! ### A change of an empty table by nothing -/
theorem without0_c (w : World) (gT c : Nat) (ad : Option Addr) (h : w.cell? ⟨gT, 1, none⟩ = some (.slice ad 0 c)) : Calls Tryz.prog 186 #[.pointer (some ⟨gT, 0, none⟩), .slice none 0 0] w fun e w' => (∃ a c', e = .returned (.slice a 0 c')) ∧ Frm (fun _ => False) w w' := by
  refine enter Tryz.func186 rfl Tryz.ntmps186 rfl (St.start (fun _ => False) w) ?_
  refine WC.seq <| WC.region <| WL.v (v_assign rfl rfl) rfl <| WL.nt <| WC.seq <| WC.region <| WL.v (v_move rfl rfl) rfl <| WL.v (v_len_slice rfl rfl Tryz.underlying34) rfl <| WL.makeMapN rfl rfl Tryz.underlying396 (.none rfl) rfl rfl <| ?_
  intro g15 hg15
  refine WL.v (v_assign rfl rfl) rfl <| WL.nt <| WC.seq <| WC.seq <| WC.region <| WL.v (v_move rfl rfl) rfl <| WL.v (v_len_slice rfl rfl Tryz.underlying34) rfl <| WL.v (v_move rfl rfl) rfl <| WL.nt <| WC.block <| WC.loop (fun _ : Unit => [(18, .int .i64 0), (17, .int .i64 0), (5, .map (some g15)), (0, .pointer (some ⟨gT, 0, none⟩))]) (fun _ => []) (fun _ => True) (fun _ => 0) () trivial (.cons rfl (.cons rfl (.cons rfl (.cons rfl .nil)))) (.cons _ (.refl _)) <| ?_
  intro _ _
  refine WC.seq <| WC.region <| ?_
  refine WL.v ((v_lss rfl rfl rfl).f (by omega)) rfl ?_
  refine WL.nt <| WC.seq <| WC.cond_f rfl <| WC.exit <| WE.then_exit <| WE.then_exit <| WE.block_hit <| WE.then_n <| WC.seq <| WC.region <| WL.v (v_move rfl rfl) rfl <| WL.v (v_nilCheck rfl rfl) rfl <| WL.v (v_fieldAddr0 rfl rfl fld_279_1) rfl <| WL.v (v_load1 rfl rfl one_231 (cellOld (fun h => h) h)) rfl <| ?_
  refine WL.v (v_len_slice rfl rfl Tryz.underlying231) rfl ?_
  refine WL.makeN (m := 0) (c := 0) rfl rfl rfl (by omega) (by omega) (by omega) Tryz.underlying231 by_326 (by omega) (by omega) sz_326 zero_326 rfl (.none rfl) rfl rfl ?_
  intro g31 hg31
  refine WL.v (v_assign rfl rfl) rfl <| WL.nt <| WC.seq <| WC.seq <| WC.region <| WL.v (v_move rfl rfl) rfl <| WL.v (v_nilCheck rfl rfl) rfl <| WL.v (v_fieldAddr0 rfl rfl fld_279_1) rfl <| WL.v (v_load1 rfl rfl one_231 (cellOld (fun h => h) h)) rfl <| WL.v (v_len_slice rfl rfl Tryz.underlying231) rfl <| WL.v (v_move rfl rfl) rfl <| WL.nt <| WC.block <| WC.loop (fun _ : Unit => [(37, .int .i64 0), (36, .int .i64 0), (8, .slice (some ⟨g31, 0, none⟩) 0 0)]) (fun _ => []) (fun _ => True) (fun _ => 0) () trivial (.cons rfl (.cons rfl (.cons rfl .nil))) (.cons _ (.refl _)) <| ?_
  intro _ _
  refine WC.seq <| WC.region <| ?_
  refine WL.v ((v_lss rfl rfl rfl).f (by omega)) rfl ?_
  refine WL.nt <| WC.seq <| WC.cond_f rfl <| WC.exit <| WE.then_exit <| WE.then_exit <| WE.block_hit <| WE.then_n <| WC.seq <| WC.region <| WL.v (v_move rfl rfl) rfl <| WL.v (v_assign rfl rfl) rfl <| WL.nt <| WC.ret <| ?_
  refine WE.ret1 (P := Tryz.prog) (.inl rfl) Tryz.results186 rfl ?_
  exact fun w' h => ⟨⟨_, _, rfl⟩, h.frm⟩
theorem ins0_c (w : World) (ad : Option Addr) (c : Nat) (f : Value) : Calls Tryz.prog 327 #[.slice ad 0 c, .int .i64 0, .int .i64 0, f] w fun e w' => e = .returned (.tuple #[]) ∧ Frm (fun _ => False) w w' := by
  refine enter Tryz.func327 rfl Tryz.ntmps327 rfl (St.start (fun _ => False) w) ?_
  refine WC.seq <| WC.region <| WL.v (v_move rfl rfl) rfl <| ?_
  refine WL.v (v_add rfl rfl rfl (w_i64 (by omega) (by omega))) rfl ?_
  refine WL.v (v_assign rfl rfl) rfl <| WL.nt <| WC.block <| WC.loop (fun _ : Unit => [(8, .int .i64 1), (2, .int .i64 0)]) (fun _ => []) (fun _ => True) (fun _ => 0) () trivial (.cons rfl (.cons rfl .nil)) (.refl _) <| ?_
  intro _ _
  refine WC.seq <| WC.seq <| WC.region <| WL.v (v_move rfl rfl) rfl <| WL.v (v_move rfl rfl) rfl <| ?_
  refine WL.v ((v_lss rfl rfl rfl).f (by omega)) rfl ?_
  refine WL.nt <| WC.cond_f rfl <| WC.exit <| WE.then_exit <| WE.then_exit <| WE.block_hit <| WE.ret0 (P := Tryz.prog) (.inr rfl) Tryz.results327  <| ?_
  exact fun w' h => ⟨rfl, h.frm⟩
theorem stable0_c (w : World) (ad : Option Addr) (c : Nat) (f : Value) : Calls Tryz.prog 263 #[.slice ad 0 c, .int .i64 0, f] w fun e w' => e = .returned (.tuple #[]) ∧ Frm (fun _ => False) w w' := by
  refine enter Tryz.func263 rfl Tryz.ntmps263 rfl (St.start (fun _ => False) w) ?_
  refine WC.seq <| WC.region <| WL.v (v_assign rfl rfl) rfl <| WL.nt <| WC.seq <| WC.region <| WL.v (v_move rfl rfl) rfl <| WL.v (v_assign rfl rfl) rfl <| WL.v (v_assign rfl rfl) rfl <| WL.nt <| WC.seq <| WC.block <| WC.loop (fun _ : Unit => [(8, .int .i64 20), (7, .int .i64 0), (6, .int .i64 20), (0, .slice ad 0 c), (1, .int .i64 0), (2, f)]) (fun _ => []) (fun _ => True) (fun _ => 0) () trivial (.cons rfl (.cons rfl (.cons rfl (.cons rfl (.cons rfl (.cons rfl .nil)))))) (.refl _) <| ?_
  intro _ _
  refine WC.seq <| WC.seq <| WC.region <| WL.v (v_move rfl rfl) rfl <| WL.v (v_move rfl rfl) rfl <| ?_
  refine WL.v ((v_leq rfl rfl rfl).f (by omega)) rfl ?_
  refine WL.nt <| WC.cond_f rfl <| WC.exit <| WE.then_exit <| WE.then_exit <| WE.block_hit <| WE.then_n <| WC.seq <| WC.region <| WL.v (v_move rfl rfl) rfl <| WL.v (v_move rfl rfl) rfl <| WL.v (v_move rfl rfl) rfl <| WL.v (v_move rfl rfl) rfl <| WL.call rfl rfl ck_327 (.none rfl) rfl rfl <| ?_
  intro w hS
  refine Calls.then (ins0_c w ad c f) hS ?_
  refine WL.nt <| WC.block <| WC.loop (fun _ : Unit => [(6, .int .i64 20), (1, .int .i64 0)]) (fun _ => []) (fun _ => True) (fun _ => 0) () trivial (.cons rfl (.cons rfl .nil)) (.refl _) <| ?_
  intro _ _
  refine WC.seq <| WC.seq <| WC.region <| WL.v (v_move rfl rfl) rfl <| WL.v (v_move rfl rfl) rfl <| ?_
  refine WL.v ((v_lss rfl rfl rfl).f (by omega)) rfl ?_
  refine WL.nt <| WC.cond_f rfl <| WC.exit <| WE.then_exit <| WE.then_exit <| WE.block_hit <| WE.ret0 (P := Tryz.prog) (.inr rfl) Tryz.results263  <| ?_
  exact fun w' h => ⟨rfl, h.frm⟩
theorem ssort0_c (w : World) (ad : Option Addr) (c : Nat) (f : Value) : Calls Tryz.prog 187 #[.slice ad 0 c, f] w fun e w' => e = .returned (.tuple #[]) ∧ Frm (fun _ => False) w w' := by
  refine enter Tryz.func187 rfl Tryz.ntmps187 rfl (St.start (fun _ => False) w) ?_
  refine WC.region <| WL.v (v_move rfl rfl) rfl <| WL.v (v_move rfl rfl) rfl <| WL.v (v_len_slice rfl rfl Tryz.underlying231) rfl <| WL.v (v_move rfl rfl) rfl <| WL.call rfl rfl ck_263 (.none rfl) rfl rfl <| ?_
  intro w hS
  refine Calls.then (stable0_c w ad c f) hS ?_
  refine WL.nil <| WE.ret0 (P := Tryz.prog) (.inr rfl) Tryz.results187  <| ?_
  exact fun w' h => ⟨rfl, h.frm⟩
theorem merge0_c (w : World) (a1 a2 : Option Addr) (c1 c2 : Nat) : Calls Tryz.prog 189 #[.slice a1 0 c1, .slice a2 0 c2] w fun e w' => (∃ a c, e = .returned (.slice a 0 c)) ∧ Frm (fun _ => False) w w' := by
  refine enter Tryz.func189 rfl Tryz.ntmps189 rfl (St.start (fun _ => False) w) ?_
  refine WC.seq <| WC.region <| WL.v (v_assign rfl rfl) rfl <| WL.nt <| WC.seq <| WC.region <| WL.v (v_move rfl rfl) rfl <| WL.v (v_len_slice rfl rfl Tryz.underlying231) rfl <| WL.v (v_move rfl rfl) rfl <| WL.v (v_len_slice rfl rfl Tryz.underlying231) rfl <| ?_
  refine WL.v (v_add rfl rfl rfl (w_i64 (by omega) (by omega))) rfl ?_
  refine WL.makeN (m := 0) (c := 0) rfl rfl rfl (by omega) (by omega) (by omega) Tryz.underlying231 by_326 (by omega) (by omega) sz_326 zero_326 rfl (.none rfl) rfl rfl ?_
  intro g11 hg11
  refine WL.v (v_assign rfl rfl) rfl <| WL.nt <| WC.seq <| WC.block <| WC.loop (fun _ : Unit => [(5, .slice (some ⟨g11, 0, none⟩) 0 0), (0, .slice a1 0 c1), (1, .slice a2 0 c2)]) (fun _ => [.row g11 []]) (fun _ => True) (fun _ => 0) () trivial (.cons rfl (.cons rfl (.cons rfl .nil))) (.refl _) <| ?_
  intro _ _
  refine WC.seq <| WC.seq <| WC.region <| WL.v (v_move rfl rfl) rfl <| WL.v (v_len_slice rfl rfl Tryz.underlying231) rfl <| ?_
  refine WL.v ((v_gtr rfl rfl rfl).f (by omega)) rfl ?_
  refine WL.v (v_move rfl rfl) rfl ?_
  iterate 3 refine WL.sk rfl ?_
  refine WL.v (v_pick_f rfl rfl rfl) rfl <| WL.nt <| WC.cond_f rfl <| WC.exit <| WE.then_exit <| WE.then_exit <| WE.block_hit <| WE.then_n <| WC.seq <| WC.region <| WL.v (v_move rfl rfl) rfl <| WL.v (v_move rfl rfl) rfl <| ?_
  refine WL.appendL rfl rfl rfl Tryz.underlying231 Tryz.underlying231 sz_326 by_326 zero_326 rfl rfl (E := [.row g11 []]) (Vec.row (k := 0) (s := 21) (c := 0) rfl rfl (by omega)) (new := []) (fun h => absurd h (by omega)) rfl rfl (by omega) (.none rfl) rfl rfl ?_
  intro ad46 c46 E46 hV46 hr46
  refine WL.v (v_assign rfl rfl) rfl <| WL.nt <| WC.seq <| WC.region <| WL.v (v_move rfl rfl) rfl <| WL.v (v_move rfl rfl) rfl <| ?_
  refine WL.appendL rfl rfl rfl Tryz.underlying231 Tryz.underlying231 sz_326 by_326 zero_326 rfl rfl hV46 (new := []) (fun h => absurd h (by omega)) rfl rfl (by omega) (.none rfl) rfl rfl ?_
  intro ad49 c49 E49 hV49 hr49
  refine WL.v (v_assign rfl rfl) rfl <| WL.nt <| WC.ret <| WE.ret1 (P := Tryz.prog) (.inl rfl) Tryz.results189 rfl <| ?_
  exact fun w' h => ⟨⟨_, _, rfl⟩, h.frm⟩
theorem change0_c (w0 w : World) (L : List Ent) (gT c : Nat) (ad : Option Addr) (most : Int) (hm : 0 ≤ most ∧ most ≤ 4096) (hS : St (fun _ => False) w0 w (.row gT [.int .i64 most, .slice ad 0 c] :: L)) : Calls Tryz.prog 102 #[.pointer (some ⟨gT, 0, none⟩), .slice none 0 0, .slice none 0 0] w fun e w' => ∃ a c', e = .returned (.int .i64 0) ∧ St (fun _ => False) w0 w' (.row gT [.int .i64 most, .slice a 0 c'] :: L) := by
  refine enter Tryz.func102 rfl Tryz.ntmps102 rfl hS ?_
  refine WC.seq <| WC.region <| WL.v (v_assign rfl rfl) rfl <| WL.nt <| WC.seq <| WC.seq <| WC.region <| WL.v (v_move rfl rfl) rfl <| WL.v (v_eql_nil false rfl rfl Tryz.underlying183 rfl) rfl <| WL.nt <| WC.cond_f rfl <| WC.skip <| WE.then_n <| WC.seq <| ?_
  refine WC.seq <| WC.region <| WL.v (v_move rfl rfl) rfl <| WL.v (v_len_slice rfl rfl Tryz.underlying231) rfl <| WL.v (v_move rfl rfl) rfl <| WL.nt <| WC.block <| WC.loop (fun _ : Unit => [(20, .int .i64 0), (19, .int .i64 0), (0, .pointer (some ⟨gT, 0, none⟩)), (1, .slice none 0 0), (2, .slice none 0 0)]) (fun _ => .row gT [.int .i64 most, .slice ad 0 c] :: L) (fun _ => True) (fun _ => 0) () trivial (.cons rfl (.cons rfl (.cons rfl (.cons rfl (.cons rfl .nil))))) (.refl _) <| ?_
  intro _ _
  refine WC.seq <| WC.region <| ?_
  refine WL.v ((v_lss rfl rfl rfl).f (by omega)) rfl ?_
  refine WL.nt <| WC.seq <| WC.cond_f rfl <| WC.exit <| WE.then_exit <| WE.then_exit <| WE.block_hit <| WE.then_n <| WC.seq <| WC.region <| WL.v (v_move rfl rfl) rfl <| WL.v (v_move rfl rfl) rfl <| WL.call rfl rfl ck_186 (.none rfl) rfl rfl <| ?_
  intro w1 hS
  refine (without0_c w1 gT c ad (hS.cell rfl)).mono ?_
  rintro e w' ⟨⟨a1, c1, rfl⟩, hF⟩
  refine ⟨_, _, rfl, hS.ext hF, ?_⟩
  refine WL.v (v_assign rfl rfl) rfl <| WL.nt <| WC.seq <| WC.seq <| WC.region <| WL.v (v_move rfl rfl) rfl <| WL.v (v_len_slice rfl rfl Tryz.underlying231) rfl <| WL.v (v_move rfl rfl) rfl <| WL.v (v_nilCheck rfl rfl) rfl <| WL.v (v_fieldAddr0 rfl rfl fld_279_0) rfl <| WL.v (v_load1 rfl rfl one_3 (cellAt rfl)) rfl <| WL.v (v_move rfl rfl) rfl <| WL.v (v_len_slice rfl rfl Tryz.underlying231) rfl <| ?_
  refine WL.v (v_sub rfl rfl rfl (w_i64 (by omega) (by omega))) rfl ?_
  refine WL.v ((v_gtr rfl rfl rfl).f (by omega)) rfl ?_
  refine WL.nt <| WC.cond_f rfl <| WC.skip <| WE.then_n <| WC.seq <| WC.region <| WL.v (v_move rfl rfl) rfl <| WL.v (v_len_slice rfl rfl Tryz.underlying231) rfl <| ?_
  refine WL.makeN (m := 0) (c := 0) rfl rfl rfl (by omega) (by omega) (by omega) Tryz.underlying231 by_326 (by omega) (by omega) sz_326 zero_326 rfl (.none rfl) rfl rfl ?_
  intro g45 hg45
  refine WL.v (v_assign rfl rfl) rfl <| WL.nt <| WC.seq <| WC.seq <| WC.region <| WL.v (v_move rfl rfl) rfl <| WL.v (v_len_slice rfl rfl Tryz.underlying231) rfl <| WL.v (v_move rfl rfl) rfl <| WL.nt <| WC.block <| WC.loop (fun _ : Unit => [(48, .int .i64 0), (47, .int .i64 0), (11, .slice (some ⟨g45, 0, none⟩) 0 0), (10, .slice a1 0 c1), (0, .pointer (some ⟨gT, 0, none⟩))]) (fun _ => .row gT [.int .i64 most, .slice ad 0 c] :: L) (fun _ => True) (fun _ => 0) () trivial (.cons rfl (.cons rfl (.cons rfl (.cons rfl (.cons rfl .nil))))) (.cons _ (.refl _)) <| ?_
  intro _ _
  refine WC.seq <| WC.region <| ?_
  refine WL.v ((v_lss rfl rfl rfl).f (by omega)) rfl ?_
  refine WL.nt <| WC.seq <| WC.cond_f rfl <| WC.exit <| WE.then_exit <| WE.then_exit <| WE.block_hit <| WE.then_n <| WC.seq <| WC.region <| WL.v (v_move rfl rfl) rfl <| WL.call rfl rfl ck_187 (.none rfl) rfl rfl <| ?_
  intro w hS
  refine Calls.then (ssort0_c w _ _ _) hS ?_
  refine WL.nt <| WC.seq <| WC.region <| WL.v (v_move rfl rfl) rfl <| WL.v (v_move rfl rfl) rfl <| WL.call rfl rfl ck_189 (.none rfl) rfl rfl <| ?_
  intro w1 hS
  refine (merge0_c w1 _ _ _ _).mono ?_
  rintro e w' ⟨⟨a2, c2, rfl⟩, hF⟩
  refine ⟨_, _, rfl, hS.ext hF, ?_⟩
  refine WL.v (v_assign rfl rfl) rfl <| WL.nt <| WC.seq <| WC.seq <| WC.region <| WL.v (v_assign rfl rfl) rfl <| WL.nt <| WC.block <| WC.loop (fun _ : Unit => [(15, .int .i64 1), (14, .slice a2 0 c2), (0, .pointer (some ⟨gT, 0, none⟩))]) (fun _ => .row gT [.int .i64 most, .slice ad 0 c] :: L) (fun _ => True) (fun _ => 0) () trivial (.cons rfl (.cons rfl (.cons rfl .nil))) (.refl _) <| ?_
  intro _ _
  refine WC.seq <| WC.seq <| WC.region <| WL.v (v_move rfl rfl) rfl <| WL.v (v_move rfl rfl) rfl <| WL.v (v_len_slice rfl rfl Tryz.underlying231) rfl <| ?_
  refine WL.v ((v_lss rfl rfl rfl).f (by omega)) rfl ?_
  refine WL.nt <| WC.cond_f rfl <| WC.exit <| WE.then_exit <| WE.then_exit <| WE.block_hit <| WE.then_n <| WC.seq <| WC.region <| WL.v (v_move rfl rfl) rfl <| WL.v (v_move rfl rfl) rfl <| WL.v (v_nilCheck rfl rfl) rfl <| WL.v (v_fieldAddr0 rfl rfl fld_279_1) rfl <| WL.store1 rfl rfl rfl rfl one_231 (Nat.le_of_ble_eq_true rfl) (.none rfl) rfl <| ?_
  refine WL.nt <| WC.seq <| WC.region <| WL.v (v_assign rfl rfl) rfl <| WL.nt <| WC.ret <| WE.ret1 (P := Tryz.prog) (.inl rfl) Tryz.results102 rfl <| ?_
  exact fun w' h => ⟨a2, c2, rfl, h⟩
end Go.Proofs.YtmhahajadgkolaaGreatDoor
/- sdx: all is laid anew while there is nothing: draw, move, layAll. -/
namespace Go.Proofs.YtmhahajadgkolaaGreatDoor
open Go.RowKit

/-- An exchange, where its parts lie. -/
structure SxN where
  gx : Nat
  gS : Nat
  gW : Nat
  gT : Nat
  gP : Nat
  gh : Nat
  gA : Nat
  gsp : Nat
  rules : Int
  most : Int
  p : PlN
  n : Nat
  bs : List Nat
  ta : Option Addr
  tc : Nat
  fresh : Int
def SxN.cells (x : SxN) : List Value := [.pointer (some ⟨x.gS, 0, none⟩), .pointer (some ⟨x.gW, 0, none⟩), .int .i64 x.rules] ++ (x.p.cells ++ [.pointer (some ⟨x.gP, 0, none⟩), .pointer (some ⟨x.gA, 0, none⟩), .slice (some ⟨x.gsp, 0, none⟩) x.n x.n, .int .i64 x.fresh])
def mapsL (bs : List Nat) : List Value := bs.map fun b => .map (some b)
theorem mapsL_app (a b : List Nat) : mapsL (a ++ b) = mapsL a ++ mapsL b := List.map_append ..
abbrev SxN.L (x : SxN) (L : List Ent) : List Ent := .row x.gx x.cells :: .row x.gsp (mapsL x.bs) :: .row x.gT [.int .i64 x.most, .slice x.ta 0 x.tc] :: L
/-- What is only read of it. -/
structure SxRd (w : World) (x : SxN) : Prop where
  sv : SvRd w x.gS x.n
  tb : w.cell? ⟨x.gW, 0, none⟩ = some (.pointer (some ⟨x.gT, 0, none⟩))
  pool : w.cell? ⟨x.gP, 2, none⟩ = some (.map (some x.gh))
  held : Emp w x.gh
  arp : Row w x.gA [.func (.func 40) #[.pointer (some ⟨x.gx, 0, none⟩)] #[], .map none]
  emp : ∀ b ∈ x.bs, Emp w b
structure SxIn (x : SxN) : Prop where
  n : 1 ≤ x.n ∧ x.n ≤ 16
  most : 0 ≤ x.most ∧ x.most ≤ 4096
  bs : x.bs.length = x.n
structure DrS where
  k : Nat
  bs : List Nat
  M : List Ent
theorem maps_set {bs : List Nat} {n k b : Nat} (h : bs.length = k) (hk : k < n) : (mapsL bs ++ List.replicate (n - k) (Value.map none)).set k (.map (some b)) = mapsL (bs ++ [b]) ++ List.replicate (n - (k + 1)) (Value.map none) := by
  obtain ⟨m, hm⟩ : ∃ m, n - k = m + 1 := ⟨n - k - 1, by omega⟩
  have h2 : n - (k + 1) = m := by omega
  have hl : (mapsL bs).length = k := by unfold mapsL; rw [List.length_map, h]
  rw [hm, h2, List.set_append, if_neg (by omega), hl, Nat.sub_self, List.replicate_succ, List.set_cons_zero, mapsL_app, List.append_assoc]
  rfl
set_option maxHeartbeats 1000000 in
theorem draw0_c (w0 w : World) (L : List Ent) (x : SxN) (hx : SxIn x) (p : PlN) (gd gsl : Nat) (hS : St (fun _ => False) w0 w (.row gd [.slice (some ⟨gsl, 0, none⟩) x.n x.n, .slice none 0 0, .slice none 0 0] :: .row gsl (List.replicate x.n (.map none)) :: x.L L)) (hR : ∀ w, (∀ e ∈ L, e.holds w) → SxRd w x) :
    Calls Tryz.prog 101 #[.pointer (some ⟨x.gx, 0, none⟩), .pointer (some ⟨gd, 0, none⟩), .agg p.cells.toArray] w fun e w' => ∃ bs M, e = .returned (.int .i64 0) ∧ bs.length = x.n ∧ (∀ b ∈ bs, Ent.obj b (.map #[] 0) ∈ M) ∧ St (fun _ => False) w0 w' (.row gd [.slice (some ⟨gsl, 0, none⟩) x.n x.n, .slice none 0 0, .slice none 0 0] :: .row gsl (mapsL bs) :: (M ++ x.L L)) := by
  have hn := hx.n
  refine enter Tryz.func101 rfl Tryz.ntmps101 rfl hS ?_
  refine WC.seq <| WC.region <| WL.box rfl rfl rfl (.none rfl) rfl rfl <| ?_
  intro g5 hg5
  refine WL.v (v_assign rfl rfl) rfl <| WL.nt <| WC.seq <| WC.region <| WL.v (v_move rfl rfl) rfl <| WL.v (v_nilCheck rfl rfl) rfl <| WL.v (v_fieldAddr0 rfl rfl fld_79_0) rfl <| WL.v (v_load1 rfl rfl one_63 (cellAt (v := .pointer (some ⟨x.gS, 0, none⟩)) rfl)) rfl <| WL.call rfl rfl ck_20 (.none rfl) rfl rfl <| ?_
  intro w1 hS
  refine (Nets_c w1 x.gS x.n (hR w1 fun e he => hS.holds e (by simp [he])).sv (by omega)).mono ?_
  rintro e w' ⟨rfl, hF⟩
  refine ⟨_, _, rfl, hS.ext hF, ?_⟩
  refine WL.v (v_assign rfl rfl) rfl <| WL.nt <| WC.seq <| WC.seq <| WC.region <| WL.v (v_move rfl rfl) rfl <| WL.v (v_nilCheck rfl rfl) rfl <| WL.v (v_fieldAddr0 rfl rfl fld_79_6) rfl <| WL.v (v_load1 rfl rfl one_77 (cellAt (v := .slice (some ⟨x.gsp, 0, none⟩) x.n x.n) rfl)) rfl <| WL.v (v_len_slice rfl rfl Tryz.underlying77) rfl <| WL.v (v_move rfl rfl) rfl <| WL.nt <| WC.block <| ?_
  refine WC.loop (fun s : DrS => [(29, .int .i64 s.k), (28, .int .i64 x.n), (7, .slice none 0 0), (1, .pointer (some ⟨gd, 0, none⟩))]) (fun s => .row gd [.slice (some ⟨gsl, 0, none⟩) x.n x.n, .slice none 0 0, .slice none 0 0] :: .row gsl (mapsL s.bs ++ List.replicate (x.n - s.k) (Value.map none)) :: (s.M ++ x.L L)) (fun s => s.k ≤ x.n ∧ s.bs.length = s.k ∧ ∀ b ∈ s.bs, Ent.obj b (.map #[] 0) ∈ s.M) (fun s => x.n - s.k) ⟨0, [], []⟩ ⟨Nat.zero_le _, rfl, fun _ h => (by cases h)⟩ (.cons rfl (.cons rfl (.cons rfl (.cons rfl .nil)))) (.cons _ (.refl _)) ?_
  rintro ⟨k, bs, M⟩ ⟨hk, hb, hM⟩
  dsimp only at hk hb hM
  dsimp only
  refine WC.seq <| WC.region <| ?_
  refine WL.test (v_lss rfl rfl rfl) (.none rfl) rfl rfl (fun h30 => ?_) (fun h30 => ?_)
  ·
   refine WL.nt <| WC.seq <| WC.cond_t rfl <| WC.skip <| WE.then_n <| WC.seq <| WC.block <| WC.seq <| WC.region <| WL.v (v_move rfl rfl) rfl <| WL.v (v_assign rfl rfl) rfl <| WL.nt <| WC.seq <| WC.region <| ?_
   refine WL.v (v_move rfl rfl) rfl <| WL.v (v_nilCheck rfl rfl) rfl <| WL.v (v_fieldAddr0 rfl rfl fld_233_0) rfl <| WL.v (v_load1 rfl rfl one_77 (cellAt rfl)) rfl <| WL.v (v_move rfl rfl) rfl <| WL.makeMap rfl (.none rfl) rfl rfl <| ?_
   intro g37 hg37
   refine WL.v (v_indexAddr (lo := k) rfl rfl rfl Tryz.underlying77 sz_133 (by omega) (by omega)) rfl ?_
   refine WL.store1 rfl rfl rfl rfl one_133 (by unfold mapsL; rw [List.length_append, List.length_map, List.length_replicate]; omega) (.none rfl) rfl ?_
   refine WL.rowTo (g := gsl) (cs' := mapsL (bs ++ [g37]) ++ List.replicate (x.n - (k + 1)) (Value.map none)) (by rw [Nat.zero_add, Nat.mul_one]; exact maps_set hb (by omega)) ?_
   refine WL.nt <| WC.seq <| WC.region <| WL.v (v_move rfl rfl) rfl <| WL.v (v_len_slice rfl rfl Tryz.underlying32) rfl <| WL.v (v_move rfl rfl) rfl <| WL.nt <| WC.block <| WC.loop (fun _ : Unit => [(41, .int .i64 0), (40, .int .i64 0), (29, .int .i64 k), (28, .int .i64 x.n), (7, .slice none 0 0), (1, .pointer (some ⟨gd, 0, none⟩))]) (fun _ => .obj g37 (.map #[] 0) :: .row gd [.slice (some ⟨gsl, 0, none⟩) x.n x.n, .slice none 0 0, .slice none 0 0] :: .row gsl (mapsL (bs ++ [g37]) ++ List.replicate (x.n - (k + 1)) (Value.map none)) :: (M ++ x.L L)) (fun _ => True) (fun _ => 0) () trivial (.cons rfl (.cons rfl (.cons rfl (.cons rfl (.cons rfl (.cons rfl .nil)))))) (.refl _) <| ?_
   intro _ _
   refine WC.seq <| WC.region <| ?_
   refine WL.v ((v_lss rfl rfl rfl).f (by omega)) rfl ?_
   refine WL.nt <| WC.seq <| WC.cond_f rfl <| WC.exit <| WE.then_exit <| WE.then_exit <| WE.block_hit <| WE.block_n <| WE.then_n <| WC.region <| ?_
   refine WL.v (v_add rfl rfl rfl ((show _ = ((k + 1 : Nat) : Int) from (w_i64 (by omega) (by omega)).trans (by omega)))) rfl ?_
   refine WL.v (v_move rfl rfl) rfl <| WL.nil <| WE.to (L' := .row gd [.slice (some ⟨gsl, 0, none⟩) x.n x.n, .slice none 0 0, .slice none 0 0] :: .row gsl (mapsL (bs ++ [g37]) ++ List.replicate (x.n - (k + 1)) (Value.map none)) :: (.obj g37 (.map #[] 0) :: M) ++ x.L L) (fun w hS => hS.permX) <| ?_
   exact WE.next ⟨k + 1, bs ++ [g37], .obj g37 (.map #[] 0) :: M⟩ (by dsimp only; omega) ⟨by dsimp only; omega, by dsimp only; rw [List.length_append, hb]; rfl, fun b h => by
     rcases List.mem_append.1 h with h | h
     · exact List.mem_cons_of_mem _ (hM b h)
     · rw [List.mem_singleton.1 h]; exact List.mem_cons_self ..⟩ (.cons rfl (.cons rfl (.cons rfl (.cons rfl .nil)))) (.refl _)
  ·
   refine WL.nt <| WC.seq <| WC.cond_f rfl <| WC.exit <| WE.then_exit <| WE.then_exit <| WE.block_hit <| WE.then_n <| WC.seq <| WC.region <| WL.v (v_assign rfl rfl) rfl <| WL.nt <| WC.ret <| WE.ret1 (P := Tryz.prog) (.inl rfl) Tryz.results101 rfl <| ?_
   obtain rfl : k = x.n := (by omega)
   rw [Nat.sub_self, List.replicate_zero, List.append_nil]
   exact fun w' h => ⟨bs, M, rfl, hb, hM, h⟩
theorem maps_set2 {new old : List Nat} {k b : Nat} (h : new[k]? = some b) (hl : old.length = new.length) : (mapsL (new.take k ++ old.drop k)).set k (.map (some b)) = mapsL (new.take (k + 1) ++ old.drop (k + 1)) := by
  have hk := (List.getElem?_eq_some_iff.1 h).1
  have e1 : (new.take k).length = k := by rw [List.length_take]; omega
  unfold mapsL
  rw [← List.map_set, List.set_append, if_neg (by omega), e1, Nat.sub_self, List.take_add_one, h, List.drop_eq_getElem_cons (by omega : k < old.length), List.set_cons_zero, List.append_assoc]
  rfl
theorem SxN.sp {w : World} (x : SxN) {bs : List Nat} (hb : bs.length = x.n) (he : ∀ b ∈ bs, Emp w b) (h1 : Row w x.gx x.cells) (h2 : Row w x.gsp (mapsL bs)) : SpRd w x.gx x.gsp x.n x.n bs :=
  ⟨h1.cell rfl, hb, fun j v hj => by rw [Nat.zero_add]; exact h2.cell hj, he⟩
set_option maxHeartbeats 1000000 in
theorem move0_c (w0 w : World) (L : List Ent) (x : SxN) (hx : SxIn x) (gsl : Nat) (new : List Nat) (hl : new.length = x.n) (hN : ∀ b ∈ new, Ent.obj b (.map #[] 0) ∈ L) (hS : St (fun _ => False) w0 w (.row gsl (mapsL new) :: x.L L)) (hR : ∀ w, (∀ e ∈ L, e.holds w) → SxRd w x) :
    Calls Tryz.prog 105 #[.pointer (some ⟨x.gx, 0, none⟩), .slice (some ⟨gsl, 0, none⟩) x.n x.n] w fun e w' => e = .returned (.tuple #[]) ∧ St (fun _ => False) w0 w' (.row gsl (mapsL new) :: { x with bs := new }.L L) := by
  have hn := hx.n
  have hol := hx.bs
  have hem : ∀ k w, (∀ e ∈ L, e.holds w) → ∀ b ∈ new.take k ++ x.bs.drop k, Emp w b := fun k w h b hb => by
    rcases List.mem_append.1 hb with hb | hb
    · exact (h _ (hN b (List.mem_of_mem_take hb))).1
    · exact (hR w h).emp b (List.mem_of_mem_drop hb)
  have hlen : ∀ k, k ≤ x.n → (new.take k ++ x.bs.drop k).length = x.n := fun k hk => by rw [List.length_append, List.length_take, List.length_drop]; omega
  refine enter Tryz.func105 rfl Tryz.ntmps105 rfl hS ?_
  refine WC.seq <| WC.region <| WL.v (v_move rfl rfl) rfl <| WL.v (v_nilCheck rfl rfl) rfl <| WL.v (v_fieldAddr0 rfl rfl fld_79_6) rfl <| WL.v (v_load1 rfl rfl one_77 (cellAt (v := .slice (some ⟨x.gsp, 0, none⟩) x.n x.n) rfl)) rfl <| WL.v (v_len_slice rfl rfl Tryz.underlying77) rfl <| WL.v (v_move rfl rfl) rfl <| WL.nt <| WC.block <| WC.loop (fun k : Nat => [(16, .int .i64 k), (15, .int .i64 x.n), (0, .pointer (some ⟨x.gx, 0, none⟩)), (1, .slice (some ⟨gsl, 0, none⟩) x.n x.n)]) (fun k => .row gsl (mapsL new) :: .row x.gx x.cells :: .row x.gsp (mapsL (new.take k ++ x.bs.drop k)) :: .row x.gT [.int .i64 x.most, .slice x.ta 0 x.tc] :: L) (fun k => k ≤ x.n) (fun k => x.n - k) 0 (Nat.zero_le _) (.cons rfl (.cons rfl (.cons rfl (.cons rfl .nil)))) (.refl _) <| ?_
  intro k hk
  refine WC.seq <| WC.region <| ?_
  refine WL.test (v_lss rfl rfl rfl) (.none rfl) rfl rfl (fun h17 => ?_) (fun h17 => ?_)
  ·
   refine WL.nt <| WC.seq <| WC.cond_t rfl <| WC.skip <| WE.then_n <| WC.seq <| WC.block <| WC.seq <| WC.region <| WL.v (v_move rfl rfl) rfl <| WL.v (v_assign rfl rfl) rfl <| WL.nt <| WC.seq <| WC.region <| ?_
   refine WL.v (v_move rfl rfl) rfl <| WL.v (v_move rfl rfl) rfl <| WL.call rfl rfl ck_59 (.none rfl) rfl rfl <| ?_
   intro w1 hS
   have hL : ∀ e ∈ L, e.holds w1 := fun e he => hS.holds e (by simp [he])
   refine (xnets0_c w1 x.gx x.gsp x.n x.n k _ (x.sp (hlen k hk) (hem k w1 hL) (hS.row (g := x.gx)) (hS.row (g := x.gsp))) (by omega)).mono ?_
   rintro e w' ⟨rfl, hF⟩
   refine ⟨_, _, rfl, hS.ext hF, ?_⟩
   refine WL.v (v_assign rfl rfl) rfl <| WL.nt <| WC.seq <| WC.seq <| WC.region <| WL.v (v_move rfl rfl) rfl <| WL.v (v_len_slice rfl rfl Tryz.underlying32) rfl <| WL.v (v_move rfl rfl) rfl <| WL.nt <| WC.block <| WC.loop (fun _ : Unit => [(24, .int .i64 0), (23, .int .i64 0), (4, .int .i64 k), (16, .int .i64 k), (15, .int .i64 x.n), (0, .pointer (some ⟨x.gx, 0, none⟩)), (1, .slice (some ⟨gsl, 0, none⟩) x.n x.n)]) (fun _ => .row gsl (mapsL new) :: .row x.gx x.cells :: .row x.gsp (mapsL (new.take k ++ x.bs.drop k)) :: .row x.gT [.int .i64 x.most, .slice x.ta 0 x.tc] :: L) (fun _ => True) (fun _ => 0) () trivial (.cons rfl (.cons rfl (.cons rfl (.cons rfl (.cons rfl (.cons rfl (.cons rfl .nil))))))) (.refl _) <| ?_
   intro _ _
   refine WC.seq <| WC.region <| ?_
   refine WL.v ((v_lss rfl rfl rfl).f (by omega)) rfl ?_
   refine WL.nt <| WC.seq <| WC.cond_f rfl <| WC.exit <| WE.then_exit <| WE.then_exit <| WE.block_hit <| WE.then_n <| WC.seq <| WC.seq <| WC.region <| WL.v (v_move rfl rfl) rfl <| WL.v (v_move rfl rfl) rfl <| ?_
   obtain ⟨b, hb⟩ : ∃ b, new[k]? = some b := ⟨new[k]'(by omega), List.getElem?_eq_getElem _⟩
   have hbv : (mapsL new)[k]? = some (.map (some b)) := (by unfold mapsL; rw [List.getElem?_map, hb]; rfl)
   have hbm : ∀ w, (∀ e ∈ L, e.holds w) → Emp w b := fun w h => (h _ (hN b (List.mem_of_getElem? hb))).1
   refine WL.v (v_indexAddr (lo := k) rfl rfl rfl Tryz.underlying77 sz_133 (by omega) (by omega)) rfl ?_
   refine WL.v (v_load1 rfl rfl one_133 (cellAt (by rw [Nat.zero_add, Nat.mul_one]; exact hbv))) rfl ?_
   refine WL.rangeE rfl rfl Tryz.underlying133 (fun w hS => hbm w fun e he => hS.holds e (by simp [he])) (.none rfl) rfl rfl ?_
   intro g73 hg73
   refine WL.nt <| WC.block <| WC.loop (fun _ : Unit => [(73, .pointer (some ⟨g73, 0, none⟩)), (4, .int .i64 k), (16, .int .i64 k), (15, .int .i64 x.n), (0, .pointer (some ⟨x.gx, 0, none⟩)), (1, .slice (some ⟨gsl, 0, none⟩) x.n x.n)]) (fun _ => .obj g73 (.mapIter (some b) 0 #[] 0) :: .row gsl (mapsL new) :: .row x.gx x.cells :: .row x.gsp (mapsL (new.take k ++ x.bs.drop k)) :: .row x.gT [.int .i64 x.most, .slice x.ta 0 x.tc] :: L) (fun _ => True) (fun _ => 0) () trivial (.cons rfl (.cons rfl (.cons rfl (.cons rfl (.cons rfl (.cons rfl .nil)))))) (.refl _) <| ?_
   intro _ _
   refine WC.seq <| WC.region <| ?_
   refine WL.nextE rfl rfl (fun w hS => hbm w fun e he => hS.holds e (by simp [he])) (.none rfl) rfl rfl ?_
   refine WL.v (v_extract rfl rfl rfl) rfl <| WL.nt <| WC.seq <| WC.cond_f rfl <| WC.exit <| WE.then_exit <| WE.then_exit <| WE.block_hit <| WE.then_n <| WC.orders mixed <| ?_
   refine WR.first (g := 4) [0, 1, 2, 4, 5, 6, 7] (by kernel_rfl) (by kernel_rfl) ?_
   refine WP.val (v_move rfl rfl) (.none rfl) rfl rfl <| WP.val (v_nilCheck rfl rfl) (.none rfl) rfl rfl <| WP.val (v_fieldAddr0 rfl rfl fld_79_6) (.none rfl) rfl rfl <| WP.val (v_move rfl rfl) (.none rfl) rfl rfl <| WP.val (v_move rfl rfl) (.none rfl) rfl rfl <| WP.val (v_move rfl rfl) (.none rfl) rfl rfl <| ?_
   refine WP.val (v_indexAddr (lo := k) rfl rfl rfl Tryz.underlying77 sz_133 (by omega) (by omega)) (.none rfl) rfl rfl ?_
   refine WP.nil ?_
   refine WR.read (g := 1) [3, 8, 9] (by kernel_rfl) (by kernel_rfl) (by kernel_rfl) (by kernel_rfl) rfl ?_
   refine WQ.val (v_load1 rfl rfl one_77 (cellAt (v := .slice (some ⟨x.gsp, 0, none⟩) x.n x.n) rfl)) (.none rfl) rfl rfl ?_
   refine WQ.val (v_load1 rfl rfl one_133 (cellAt (by rw [Nat.zero_add, Nat.mul_one]; exact hbv))) (.none rfl) rfl rfl ?_
   refine WQ.val (v_indexAddr (lo := k) rfl rfl rfl Tryz.underlying77 sz_133 (by omega) (by omega)) (.none rfl) rfl rfl ?_
   refine WQ.nilR ?_
   refine WR.ones (g := 0) [10] (by kernel_rfl) ?_
   refine WL.store1 rfl rfl rfl rfl one_133 (by unfold mapsL; rw [List.length_map, hlen k hk]; omega) (.none rfl) rfl ?_
   refine WL.rowTo (g := x.gsp) (cs' := mapsL (new.take (k + 1) ++ x.bs.drop (k + 1))) (by rw [Nat.zero_add, Nat.mul_one]; exact maps_set2 hb (by omega)) ?_
   refine WL.nilR ?_
   refine WR.done (by kernel_rfl) ?_
   refine WE.block_n <| WE.then_n <| WC.region <| ?_
   refine WL.v (v_add rfl rfl rfl ((show _ = ((k + 1 : Nat) : Int) from (w_i64 (by omega) (by omega)).trans (by omega)))) rfl ?_
   refine WL.v (v_move rfl rfl) rfl <| WL.nil <| ?_
   exact WE.next (k + 1) (by omega) (by omega) (.cons rfl (.cons rfl (.cons rfl (.cons rfl .nil)))) (.cons _ (.refl _))
  ·
   refine WL.nt <| WC.seq <| WC.cond_f rfl <| WC.exit <| WE.then_exit <| WE.then_exit <| WE.block_hit <| WE.ret0 (P := Tryz.prog) (.inr rfl) Tryz.results105  <| ?_
   obtain rfl : k = x.n := (by omega)
   rw [List.take_of_length_le (by omega), List.drop_eq_nil_of_le (by omega), List.append_nil]
   exact fun w' h => ⟨rfl, h⟩
set_option maxHeartbeats 1000000 in
theorem layAll0_c (w0 w : World) (L : List Ent) (x : SxN) (hx : SxIn x) (p : PlN) (hS : St (fun _ => False) w0 w (x.L L)) (hR : ∀ w, (∀ e ∈ L, e.holds w) → SxRd w x) :
    Calls Tryz.prog 45 #[.pointer (some ⟨x.gx, 0, none⟩), .agg p.cells.toArray] w fun e w' => ∃ bs M a c, e = .returned (.int .i64 0) ∧ bs.length = x.n ∧ (∀ b ∈ bs, Ent.obj b (.map #[] 0) ∈ M) ∧ St (fun _ => False) w0 w' ({ x with bs := bs, ta := a, tc := c, fresh := 0 }.L (M ++ L)) := by
  have hn := hx.n
  refine enter Tryz.func45 rfl Tryz.ntmps45 rfl hS ?_
  refine WC.seq <| WC.region <| WL.box rfl rfl rfl (.none rfl) rfl rfl <| ?_
  intro g3 hg3
  refine WL.v (v_assign rfl rfl) rfl <| WL.nt <| WC.seq <| WC.region <| WL.v (v_move rfl rfl) rfl <| WL.v (v_nilCheck rfl rfl) rfl <| WL.v (v_fieldAddr0 rfl rfl fld_79_4) rfl <| WL.v (v_load1 rfl rfl one_75 (cellAt (v := .pointer (some ⟨x.gP, 0, none⟩)) rfl)) rfl <| WL.call rfl rfl ck_100 (.none rfl) rfl rfl <| ?_
  intro w1 hS
  have hL := hR w1 fun e he => hS.holds e (by simp [he])
  refine (Sweep_c w1 x.gP x.gh hL.pool hL.held).mono ?_
  rintro e w' ⟨rfl, hF⟩
  refine ⟨_, _, rfl, hS.ext hF, ?_⟩
  refine WL.nt <| WC.seq <| WC.region <| WL.v (v_move rfl rfl) rfl <| WL.v (v_nilCheck rfl rfl) rfl <| WL.v (v_fieldAddr0 rfl rfl fld_79_6) rfl <| WL.v (v_load1 rfl rfl one_77 (cellAt (v := .slice (some ⟨x.gsp, 0, none⟩) x.n x.n) rfl)) rfl <| WL.v (v_len_slice rfl rfl Tryz.underlying77) rfl <| ?_
  refine WL.makeN (m := x.n) (c := x.n) rfl rfl rfl (by omega) (by omega) (by omega) Tryz.underlying77 by_133 (by omega) (by omega) sz_133 zero_133 rfl (.none rfl) rfl rfl ?_
  intro g19 hg19
  refine WL.v (v_build rfl rfl zero_233 plc_233 rfl) rfl <| WL.alloc rfl zero_233 (.none rfl) rfl rfl <| ?_
  intro g5 hg5
  refine WL.storeW rfl rfl rfl rfl many_233 rfl rfl (.none rfl) rfl <| WL.as (L' := .row g5 [.slice (some ⟨g19, 0, none⟩) x.n x.n, .slice none 0 0, .slice none 0 0] :: .row g19 (List.replicate x.n [Value.map none]).flatten :: .row g3 p.cells :: .row x.gx x.cells :: .row x.gsp (mapsL x.bs) :: .row x.gT [.int .i64 x.most, .slice x.ta 0 x.tc] :: L) rfl <| ?_
  refine WL.rowTo (g := g19) (cs' := List.replicate x.n (Value.map none)) (by induction x.n with | zero => rfl | succ n ih => rw [List.replicate_succ, List.flatten_cons, ih]; rfl) ?_
  refine WL.to (L' := .row g5 [.slice (some ⟨g19, 0, none⟩) x.n x.n, .slice none 0 0, .slice none 0 0] :: .row g19 (List.replicate x.n (Value.map none)) :: .row x.gx x.cells :: .row x.gsp (mapsL x.bs) :: .row x.gT [.int .i64 x.most, .slice x.ta 0 x.tc] :: .row g3 p.cells :: L) (fun w hS => hS.permX) <| WL.nt <| WC.seq <| WC.region <| WL.v (v_move rfl rfl) rfl <| WL.v (v_loadN rfl rfl many_74 rfl (segAt (g := g3) (m := 6) (new := p.cells) rfl)) rfl <| WL.call rfl rfl ck_101 (.none rfl) rfl rfl <| ?_
  intro w1 hS
  refine (draw0_c w0 w1 (.row g3 p.cells :: L) x hx p g5 g19 hS (fun w h => hR w fun e he => h e (List.mem_cons_of_mem _ he))).mono ?_
  rintro e w' ⟨bs, M, rfl, hbs, hM, hS'⟩
  refine ⟨_, _, rfl, hS', ?_⟩
  refine WL.as (L' := .row g5 [.slice (some ⟨g19, 0, none⟩) x.n x.n, .slice none 0 0, .slice none 0 0] :: .row g19 (mapsL bs) :: (M ++ (.row x.gx x.cells :: .row x.gsp (mapsL x.bs) :: .row x.gT [.int .i64 x.most, .slice x.ta 0 x.tc] :: .row g3 p.cells :: L))) rfl <| WL.v (v_assign rfl rfl) rfl <| WL.nt <| WC.seq <| WC.seq <| WC.region <| WL.v (v_move rfl rfl) rfl <| ?_
  refine WL.v ((v_eql rfl rfl rfl).t (by omega)) rfl ?_
  refine WL.nt <| WC.cond_t rfl <| WC.held (.row g5 [.slice (some ⟨g19, 0, none⟩) x.n x.n, .slice none 0 0, .slice none 0 0] :: .row x.gx x.cells :: .row g3 p.cells :: L) mixed <| ?_
  refine WRH.first (g := 3) [0, 1, 2, 3, 4, 5, 6, 7, 9, 10] (by kernel_rfl) (by kernel_rfl) (fun w hS => hS.sub (by repeat (first | exact List.Sublist.refl _ | exact List.nil_sublist _ | refine List.Sublist.cons_cons _ ?_ | refine List.Sublist.cons _ ?_ | refine List.sublist_append_of_sublist_right ?_))) ?_
  refine WH.val (v_move rfl rfl) (.none rfl) rfl rfl <| WH.val (v_nilCheck rfl rfl) (.none rfl) rfl rfl <| WH.val (v_fieldAddr0 rfl rfl fld_79_1) (.none rfl) rfl rfl <| WH.val (v_load1 rfl rfl one_71 (cellAt (v := .pointer (some ⟨x.gW, 0, none⟩)) rfl)) (.none rfl) rfl rfl <| WH.val (v_nilCheck rfl rfl) (.none rfl) rfl rfl <| WH.val (v_fieldAddr0 rfl rfl fld_187_0) (.none rfl) rfl rfl <| ?_
  refine WH.val (v_load1 rfl rfl one_183 (fun w hS => (hR w fun e he => hS.holds e (by simp [he])).tb)) (.none rfl) rfl rfl ?_
  refine WH.val (v_move rfl rfl) (.none rfl) rfl rfl <| WH.val (v_fieldAddr0 rfl rfl fld_233_1) (.none rfl) rfl rfl <| WH.val (v_load1 rfl rfl one_231 (cellAt rfl)) (.none rfl) rfl rfl <| WH.nil <| ?_
  refine WRH.one (g := 2) 8 (by kernel_rfl) ?_
  refine WL.call rfl rfl ck_103 (.none rfl) rfl rfl ?_
  intro w1 hS
  have hL := hR w1 fun e he => hS.holds e (by simp [he])
  refine (marks0_c w1 x.gx x.gsp x.n x.n x.bs (x.sp hx.bs hL.emp (hS.row (g := x.gx)) (hS.row (g := x.gsp))) (by omega)).mono ?_
  rintro e w' ⟨rfl, hF⟩
  refine ⟨_, _, rfl, hS.ext hF, ?_⟩
  refine WL.to (L' := .row x.gT [.int .i64 x.most, .slice x.ta 0 x.tc] :: (.row g5 [.slice (some ⟨g19, 0, none⟩) x.n x.n, .slice none 0 0, .slice none 0 0] :: .row g19 (mapsL bs) :: (M ++ (.row x.gx x.cells :: .row x.gsp (mapsL x.bs) :: .row g3 p.cells :: L)))) (fun w hS => hS.permX) ?_
  refine WL.nilH (fun w hS => hS.sub (by repeat (first | exact List.Sublist.refl _ | exact List.nil_sublist _ | refine List.Sublist.cons_cons _ ?_ | refine List.Sublist.cons _ ?_ | refine List.sublist_append_of_sublist_right ?_))) ?_
  refine WRH.one (g := 1) 11 (by kernel_rfl) ?_
  refine WL.call rfl rfl ck_102 (.none rfl) rfl rfl ?_
  intro w1 hS
  refine (change0_c w0 w1 _ x.gT x.tc x.ta x.most hx.most hS).mono ?_
  rintro e w' ⟨a, c, rfl, hS'⟩
  refine ⟨_, _, rfl, hS', ?_⟩
  refine WL.nilH (fun w hS => hS.sub (by repeat (first | exact List.Sublist.refl _ | exact List.nil_sublist _ | refine List.Sublist.cons_cons _ ?_ | refine List.Sublist.cons _ ?_ | refine List.sublist_append_of_sublist_right ?_))) ?_
  refine WRH.first (g := 0) [12] (by kernel_rfl) (by kernel_rfl) (fun w hS => hS.sub (by repeat (first | exact List.Sublist.refl _ | exact List.nil_sublist _ | refine List.Sublist.cons_cons _ ?_ | refine List.Sublist.cons _ ?_ | refine List.sublist_append_of_sublist_right ?_))) ?_
  refine WH.val (v_assign rfl rfl) (.none rfl) rfl rfl <| WH.nil <| ?_
  refine WRH.done (by kernel_rfl) ?_
  refine WE.then_n <| WC.seq <| WC.seq <| WC.region <| WL.v (v_move rfl rfl) rfl <| ?_
  refine WL.v ((v_neq rfl rfl rfl).f (by omega)) rfl ?_
  refine WL.nt <| WC.cond_f rfl <| WC.skip <| WE.then_n <| WC.seq <| WC.region <| WL.v (v_move rfl rfl) rfl <| WL.v (v_fieldAddr0 rfl rfl fld_233_0) rfl <| WL.v (v_load1 rfl rfl one_77 (cellAt rfl)) rfl <| WL.to (L' := .row g19 (mapsL bs) :: .row x.gx x.cells :: .row x.gsp (mapsL x.bs) :: .row x.gT [.int .i64 x.most, .slice a 0 c] :: .row g5 [.slice (some ⟨g19, 0, none⟩) x.n x.n, .slice none 0 0, .slice none 0 0] :: (M ++ (.row g3 p.cells :: L))) (fun w hS => hS.permX) <| WL.call rfl rfl ck_105 (.none rfl) rfl rfl <| ?_
  intro w1 hS
  refine (move0_c w0 w1 _ { x with ta := a, tc := c } ⟨hx.n, hx.most, hx.bs⟩ g19 bs hbs (fun b hb => by simp [hM b hb]) hS (fun w h => by
    have hL := hR w fun e he => h e (by simp [he])
    exact ⟨hL.sv, hL.tb, hL.pool, hL.held, hL.arp, hL.emp⟩)).mono ?_
  rintro e w' ⟨rfl, hS'⟩
  refine ⟨_, _, rfl, hS', ?_⟩
  refine WL.nt <| WC.seq <| WC.region <| WL.v (v_move rfl rfl) rfl <| WL.v (v_nilCheck rfl rfl) rfl <| WL.v (v_fieldAddr0 rfl rfl fld_79_7) rfl <| WL.store1 rfl rfl rfl rfl one_3 (Nat.le_of_ble_eq_true rfl) (.none rfl) rfl <| WL.as (L' := .row g19 (mapsL bs) :: .row x.gx { x with bs := bs, ta := a, tc := c, fresh := 0 }.cells :: .row x.gsp (mapsL bs) :: .row x.gT [.int .i64 x.most, .slice a 0 c] :: .row g5 [.slice (some ⟨g19, 0, none⟩) x.n x.n, .slice none 0 0, .slice none 0 0] :: (M ++ (.row g3 p.cells :: L))) rfl <| WL.nt <| WC.seq <| WC.region <| WL.v (v_assign rfl rfl) rfl <| WL.nt <| WC.ret <| ?_
  refine WE.ret1 (P := Tryz.prog) (.inl rfl) Tryz.results45 rfl ?_
  exact fun w' h => ⟨bs, M, a, c, rfl, hbs, hM, St.dropX (L' := { x with bs := bs, ta := a, tc := c, fresh := 0 }.L (M ++ L)) [.row g19 (mapsL bs), .row g5 [.slice (some ⟨g19, 0, none⟩) x.n x.n, .slice none 0 0, .slice none 0 0], .row g3 p.cells] h⟩
/-! ### Whether there is an exchange, and a participant -/
theorem none0_c (w : World) (gx gS gW : Nat) (h0 : w.cell? ⟨gx, 0, none⟩ = some (.pointer (some ⟨gS, 0, none⟩))) (h1 : w.cell? ⟨gx, 1, none⟩ = some (.pointer (some ⟨gW, 0, none⟩))) : Calls Tryz.prog 58 #[.pointer (some ⟨gx, 0, none⟩)] w fun e w' => e = .returned (.bool false) ∧ Frm (fun _ => False) w w' := by
  refine enter Tryz.func58 rfl Tryz.ntmps58 rfl (St.start (fun _ => False) w) ?_
  refine WC.seq <| WC.region <| WL.v (v_assign rfl rfl) rfl <| WL.nt <| WC.seq <| WC.region <| WL.v (v_move rfl rfl) rfl <| WL.v (v_eql_nil false rfl rfl Tryz.underlying44 rfl) rfl <| WL.v (v_move rfl rfl) rfl <| WL.val (v_move rfl rfl) (.some rfl rfl rfl) rfl rfl <| WL.val (v_nilCheck rfl rfl) (.some rfl rfl rfl) rfl rfl <| WL.val (v_fieldAddr0 rfl rfl fld_79_0) (.some rfl rfl rfl) rfl rfl <| WL.val (v_load1 rfl rfl one_63 (cellOld (fun h => h) h0)) (.some rfl rfl rfl) rfl rfl <| WL.val (v_eql_nil false rfl rfl Tryz.underlying63 rfl) (.some rfl rfl rfl) rfl rfl <| ?_
  refine WL.v (v_pick_f rfl rfl rfl) rfl <| WL.v (v_move rfl rfl) rfl <| WL.val (v_move rfl rfl) (.some rfl rfl rfl) rfl rfl <| WL.val (v_nilCheck rfl rfl) (.some rfl rfl rfl) rfl rfl <| WL.val (v_fieldAddr0 rfl rfl fld_79_1) (.some rfl rfl rfl) rfl rfl <| WL.val (v_load1 rfl rfl one_71 (cellOld (fun h => h) h1)) (.some rfl rfl rfl) rfl rfl <| WL.val (v_eql_nil false rfl rfl Tryz.underlying71 rfl) (.some rfl rfl rfl) rfl rfl <| WL.v (v_pick_f rfl rfl rfl) rfl <| WL.v (v_assign rfl rfl) rfl <| WL.nt <| WC.ret <| WE.ret1 (P := Tryz.prog) (.inl rfl) Tryz.results58 rfl <| ?_
  exact fun w' h => ⟨rfl, h.frm⟩
theorem has0_c (w : World) (x : SxN) (k : Int) (hR : Row w x.gx x.cells) : Calls Tryz.prog 43 #[.pointer (some ⟨x.gx, 0, none⟩), .int .i64 k] w fun e w' => e = .returned (.bool (decide (0 ≤ k ∧ k < x.n))) ∧ Frm (fun _ => False) w w' := by
  refine enter Tryz.func43 rfl Tryz.ntmps43 rfl (St.start (fun _ => False) w) ?_
  refine WC.seq <| WC.region <| WL.v (v_assign rfl rfl) rfl <| WL.nt <| WC.seq <| WC.region <| WL.v (v_move rfl rfl) rfl <| WL.call rfl rfl ck_58 (.none rfl) rfl rfl <| ?_
  intro w hS
  refine Calls.then (none0_c w x.gx x.gS x.gW (cellOld (fun h => h) (hR.cell rfl) w hS) (cellOld (fun h => h) (hR.cell rfl) w hS)) hS ?_
  refine WL.v (v_not rfl rfl rfl) rfl <| WL.v (v_move rfl rfl) rfl <| WL.val (v_move rfl rfl) (.some rfl rfl rfl) rfl rfl <| ?_
  refine WL.test (v_geq rfl rfl rfl) (.some rfl rfl rfl) rfl rfl (fun h10 => ?_) (fun h10 => ?_)
  ·
   refine WL.v (v_pick_t rfl rfl rfl) rfl <| WL.v (v_move rfl rfl) rfl <| WL.val (v_move rfl rfl) (.some rfl rfl rfl) rfl rfl <| WL.val (v_move rfl rfl) (.some rfl rfl rfl) rfl rfl <| WL.val (v_nilCheck rfl rfl) (.some rfl rfl rfl) rfl rfl <| WL.val (v_fieldAddr0 rfl rfl fld_79_6) (.some rfl rfl rfl) rfl rfl <| WL.val (v_load1 rfl rfl one_77 (cellOld (v := .slice (some ⟨x.gsp, 0, none⟩) x.n x.n) (fun h => h) (hR.cell rfl))) (.some rfl rfl rfl) rfl rfl <| WL.val (v_len_slice rfl rfl Tryz.underlying77) (.some rfl rfl rfl) rfl rfl <| ?_
   refine WL.test (v_lss rfl rfl rfl) (.some rfl rfl rfl) rfl rfl (fun h19 => ?_) (fun h19 => ?_)
   ·
    refine WL.v (v_pick_t rfl rfl rfl) rfl <| WL.v (v_assign rfl rfl) rfl <| WL.nt <| WC.ret <| WE.ret1 (P := Tryz.prog) (.inl rfl) Tryz.results43 rfl <| ?_
    exact fun w' h => ⟨by rw [dT ⟨h10, h19⟩], h.frm⟩
   ·
    refine WL.v (v_pick_t rfl rfl rfl) rfl <| WL.v (v_assign rfl rfl) rfl <| WL.nt <| WC.ret <| WE.ret1 (P := Tryz.prog) (.inl rfl) Tryz.results43 rfl <| ?_
    exact fun w' h => ⟨by rw [dF (fun h => h19 h.2)], h.frm⟩
  ·
   refine WL.v (v_pick_t rfl rfl rfl) rfl <| WL.v (v_move rfl rfl) rfl <| ?_
   iterate 7 refine WL.sk rfl ?_
   refine WL.v (v_pick_f rfl rfl rfl) rfl <| WL.v (v_assign rfl rfl) rfl <| WL.nt <| WC.ret <| WE.ret1 (P := Tryz.prog) (.inl rfl) Tryz.results43 rfl <| ?_
   exact fun w' h => ⟨by rw [dF (fun h => h10 h.1)], h.frm⟩
end Go.Proofs.YtmhahajadgkolaaGreatDoor
/- sdx: New: an exchange at which nobody is there, or why there is none. -/
namespace Go.Proofs.YtmhahajadgkolaaGreatDoor
open Go.RowKit

theorem idN_in' : idN.In := Nd.In_mk (by omega) (by omega) (by omega) (by omega) (by show 0 ≤ _; omega) KidsIn.nil
theorem id_lt' : Lt idN := fun _ _ _ => by
  have : (weighT idN).1 = 1 := by kernel_rfl
  omega
theorem id_code' : codeC idN = 0 := by kernel_rfl
def sxE (own rules tags : Int) (ss : List (Int × Int)) (nm : Nat) : Int := if srvE own ss ≠ 0 then srvE own ss else if nm ≠ ss.length ∨ ¬ (0 ≤ rules ∧ rules ≤ 4096) ∨ ¬ (0 ≤ tags ∧ tags ≤ 256) then 1 else 0
theorem srvE_zero {own : Int} {ss : List (Int × Int)} (h : srvE own ss = 0) : 1 ≤ ss.length ∧ ss.length ≤ 16 := by
  unfold srvE at h
  split at h
  · cases h
  · split at h
    · cases h
    · omega
abbrev idsN (n : Nat) : List Nd := List.replicate n idN
def plD (k k' m : Nat) (oa ia ma : Option Addr) (oc ic mc : Nat) : List Value := [.slice oa k oc, .slice ia k' ic, .slice ma m mc, .slice none 0 0, .slice none 0 0, .slice none 0 0]
def cfL (own q rules tags : Int) (sa ma : Option Addr) (n sc m mc : Nat) : List Value := [.int .i64 own, .slice sa n sc, .slice ma m mc, .int .i64 q, .int .i64 rules, .int .i64 tags]
structure PdS where
  k : Nat
  oa : Option Addr
  oc : Nat
  Eo : List Ent
  ia : Option Addr
  ic : Nat
  Ei : List Ent
theorem ids_len (n : Nat) : (idsN n).length = n := List.length_replicate ..
theorem ids_snoc (k : Nat) : ndsL (idsN k) ++ ndL idN = ndsL (idsN (k + 1)) := by
  rw [ndsL_snoc]
  unfold idsN
  rw [← List.replicate_succ']
theorem ids_kids {w : World} {ad : Option Addr} {n c : Nat} {E : List Ent} (hV : Vec 5 ad n c (ndsL (idsN n)) E) (hE : ∀ e ∈ E, e.holds w) : KidsAt w ad 0 (idsN n) :=
  Vec.kidsAt (by rw [List.length_replicate]; exact hV) hE fun u hu => by rw [List.eq_of_mem_replicate hu]; exact Nd.At_leaf
/-- What New hands back. -/
structure SxNew (x : SxN) (M : List Ent) (n : Nat) (rules : Int) (macs : List (Nat → Int)) : Prop where
  isIn : SxIn x
  n : x.n = n
  outs : x.p.outs.map er = (idsN x.n).map er
  ins : x.p.ins.map er = (idsN x.n).map er
  macs : x.p.macs = macs
  pin : x.p.In
  rules : x.rules = rules
  rd : ∀ w2, (∀ e ∈ M, e.holds w2) → SxRd w2 x ∧ x.p.At w2
set_option maxRecDepth 8000 in
set_option maxHeartbeats 4000000 in
theorem sxnew_c (w : World) (own q rules tags : Int) (sa ma : Option Addr) (sc mc : Nat) (ss : List (Int × Int)) (macs : List (Nat → Int)) (hR : Rg w sa (encL sdL ss)) (hMs : Rg w ma (macsL macs)) (hB : ∀ f ∈ macs, Byt f) (hn : ss.length ≤ 1000) (hG : GW w) :
    Calls Tryz.prog 9 #[.agg (cfL own q rules tags sa ma ss.length sc macs.length mc).toArray] w fun e w' => ∃ v K, e = .returned (.tuple #[v, .int .i64 (sxE own rules tags ss macs.length)]) ∧ (sxE own rules tags ss macs.length ≠ 0 → v = .pointer none) ∧ (sxE own rules tags ss macs.length = 0 → ∃ x M, v = .pointer (some ⟨x.gx, 0, none⟩) ∧ K = x.L M ∧ SxNew x M ss.length rules macs) ∧ St (fun _ => False) w w' K := by
  refine enter Tryz.func9 rfl Tryz.ntmps9 rfl (St.start (fun _ => False) w) ?_
  refine WC.seq <| WC.region <| WL.box rfl rfl rfl (.none rfl) rfl rfl <| ?_
  intro g1 hg1
  refine WL.v (v_assign rfl rfl) rfl <| WL.v (v_assign rfl rfl) rfl <| WL.nt <| WC.seq <| WC.region <| WL.v (v_fieldAddr0 rfl rfl fld_51_0) rfl <| WL.v (v_load1 rfl rfl one_3 (cellAt (v := .int .i64 own) rfl)) rfl <| WL.v (v_fieldAddr0 rfl rfl fld_51_1) rfl <| WL.v (v_load1 rfl rfl one_48 (cellAt (v := .slice sa ss.length sc) rfl)) rfl <| WL.v (v_fieldAddr0 rfl rfl fld_51_3) rfl <| WL.v (v_load1 rfl rfl one_3 (cellAt (v := .int .i64 q) rfl)) rfl <| WL.call rfl rfl ck_15 (.none rfl) rfl rfl <| ?_
  intro w1 hS
  refine (snew_c w1 own q sa sc ss (hR.frm hS.frm (fun _ _ _ h => h)) hn).mono ?_
  rintro e w' ⟨vS, MS, rfl, hS1, hS2, hS'⟩
  refine ⟨_, _, rfl, hS.join hS', ?_⟩
  refine WL.v (v_move rfl rfl) rfl <| WL.v (v_extract rfl rfl rfl) rfl <| WL.v (v_extract rfl rfl rfl) rfl <| WL.v (v_assign rfl rfl) rfl <| WL.v (v_assign rfl rfl) rfl <| WL.nt <| WC.seq <| WC.seq <| WC.region <| WL.v (v_move rfl rfl) rfl <| ?_
  refine WL.test (v_neq rfl rfl rfl) (.none rfl) rfl rfl (fun h23 => ?_) (fun h23 => ?_)
  ·
   refine WL.nt <| WC.cond_t rfl <| WC.seq <| WC.region <| WL.v (v_move rfl rfl) rfl <| WL.v (v_assign rfl rfl) rfl <| WL.v (v_assign rfl rfl) rfl <| WL.nt <| WC.ret <| WE.then_ret <| WE.ret2 (P := Tryz.prog) (.inl rfl) Tryz.results9 rfl rfl <| ?_
   have e : sxE own rules tags ss macs.length = srvE own ss := (by unfold sxE; rw [if_pos h23])
   rw [e]
   exact fun w' h => ⟨_, [], rfl, fun _ => rfl, fun k => absurd k h23, h.sub (List.nil_sublist _)⟩
  ·
   refine WL.nt <| WC.cond_f rfl <| WC.skip <| WE.then_n <| WC.seq <| WC.region <| WL.v (v_fieldAddr0 rfl rfl fld_51_1) rfl <| ?_
   have hsz : srvE own ss = 0 := Decidable.of_not_not h23
   obtain ⟨gS, rfl, hsv⟩ := hS2 hsz
   obtain ⟨hn1, hn2⟩ := srvE_zero hsz
   refine WL.v (v_load1 rfl rfl one_48 (cellAt (v := .slice sa ss.length sc) rfl)) rfl <| WL.v (v_len_slice rfl rfl Tryz.underlying48) rfl <| WL.v (v_assign rfl rfl) rfl <| WL.nt <| WC.seq <| WC.seq <| WC.region <| WL.v (v_fieldAddr0 rfl rfl fld_51_2) rfl <| WL.v (v_load1 rfl rfl one_49 (cellAt (v := .slice ma macs.length mc) rfl)) rfl <| WL.v (v_len_slice rfl rfl Tryz.underlying49) rfl <| WL.v (v_move rfl rfl) rfl <| ?_
   refine WL.test (v_neq rfl rfl rfl) (.none rfl) rfl rfl (fun h32 => ?_) (fun h32 => ?_)
   ·
    refine WL.nt <| WC.cond_t rfl <| WC.seq <| WC.region <| WL.v (v_assign rfl rfl) rfl <| WL.v (v_assign rfl rfl) rfl <| WL.nt <| WC.ret <| WE.then_ret <| WE.ret2 (P := Tryz.prog) (.inl rfl) Tryz.results9 rfl rfl <| ?_
    have e : sxE own rules tags ss macs.length = 1 := (by unfold sxE; rw [if_neg h23, if_pos (.inl (by omega))])
    rw [e]
    exact fun w' h => ⟨_, [], rfl, fun _ => rfl, fun k => (by cases k), h.sub (List.nil_sublist _)⟩
   ·
    refine WL.nt <| WC.cond_f rfl <| WC.skip <| WE.then_n <| WC.seq <| WC.region <| WL.v (v_move rfl rfl) rfl <| WL.v (v_fieldAddr0 rfl rfl fld_51_4) rfl <| WL.v (v_load1 rfl rfl one_3 (cellAt (v := .int .i64 rules) rfl)) rfl <| WL.call rfl rfl ck_36 (.none rfl) rfl rfl <| ?_
    intro w1 hS
    refine (fnewE_c w1 ss.length rules ⟨by omega, by omega⟩).mono ?_
    generalize hEW : (if 0 ≤ rules ∧ rules ≤ 4096 then (0 : Int) else 1) = eW
    rintro e w' ⟨vW, MW, rfl, hW1, hW2, hS'⟩
    refine ⟨_, _, rfl, hS.join hS', ?_⟩
    refine WL.v (v_move rfl rfl) rfl <| WL.v (v_extract rfl rfl rfl) rfl <| WL.v (v_extract rfl rfl rfl) rfl <| WL.v (v_assign rfl rfl) rfl <| WL.v (v_assign rfl rfl) rfl <| WL.nt <| WC.seq <| WC.seq <| WC.region <| WL.v (v_move rfl rfl) rfl <| ?_
    refine WL.test (v_neq rfl rfl rfl) (.none rfl) rfl rfl (fun h41 => ?_) (fun h41 => ?_)
    ·
     refine WL.nt <| WC.cond_t rfl <| WC.seq <| WC.region <| WL.v (v_move rfl rfl) rfl <| WL.v (v_assign rfl rfl) rfl <| WL.v (v_assign rfl rfl) rfl <| WL.nt <| WC.ret <| WE.then_ret <| WE.ret2 (P := Tryz.prog) (.inl rfl) Tryz.results9 rfl rfl <| ?_
     have e : sxE own rules tags ss macs.length = 1 := (by unfold sxE; rw [if_neg h23, if_pos (.inr (.inl fun k => h41 (by rw [← hEW, if_pos k])))])
     have e2 : eW = 1 := (by rw [← hEW]; exact if_neg fun k => h41 (by rw [← hEW, if_pos k]))
     rw [e, e2]
     exact fun w' h => ⟨_, [], rfl, fun _ => rfl, fun k => (by cases k), h.sub (List.nil_sublist _)⟩
    ·
     refine WL.nt <| WC.cond_f rfl <| WC.skip <| WE.then_n <| WC.seq <| WC.region <| WL.v (v_fieldAddr0 rfl rfl fld_51_5) rfl <| ?_
     have hrl : 0 ≤ rules ∧ rules ≤ 4096 := Classical.byContradiction fun k => h41 (by rw [← hEW, if_neg k]; decide)
     obtain ⟨gW, gT, rfl, rfl⟩ := hW2 hrl
     refine WL.v (v_load1 rfl rfl one_3 (cellAt (v := .int .i64 tags) rfl)) rfl <| WL.call rfl rfl ck_37 (.none rfl) rfl rfl <| ?_
     intro w1 hS
     refine (tgnew_c w1 tags).mono ?_
     generalize hET : (if 0 ≤ tags ∧ tags ≤ 256 then (0 : Int) else 1) = eT
     rintro e w' ⟨vT, MT, rfl, hT1, hT2, hS'⟩
     refine ⟨_, _, rfl, hS.join hS', ?_⟩
     refine WL.v (v_move rfl rfl) rfl <| WL.v (v_extract rfl rfl rfl) rfl <| WL.v (v_extract rfl rfl rfl) rfl <| WL.v (v_assign rfl rfl) rfl <| WL.v (v_assign rfl rfl) rfl <| WL.nt <| WC.seq <| WC.seq <| WC.region <| WL.v (v_move rfl rfl) rfl <| ?_
     refine WL.test (v_neq rfl rfl rfl) (.none rfl) rfl rfl (fun h50 => ?_) (fun h50 => ?_)
     ·
      refine WL.nt <| WC.cond_t rfl <| WC.seq <| WC.region <| WL.v (v_move rfl rfl) rfl <| WL.v (v_assign rfl rfl) rfl <| WL.v (v_assign rfl rfl) rfl <| WL.nt <| WC.ret <| WE.then_ret <| WE.ret2 (P := Tryz.prog) (.inl rfl) Tryz.results9 rfl rfl <| ?_
      have e : sxE own rules tags ss macs.length = 1 := (by unfold sxE; rw [if_neg h23, if_pos (.inr (.inr fun k => h50 (by rw [← hET, if_pos k])))])
      have e2 : eT = 1 := (by rw [← hET]; exact if_neg fun k => h50 (by rw [← hET, if_pos k]))
      rw [e, e2]
      exact fun w' h => ⟨_, [], rfl, fun _ => rfl, fun k => (by cases k), h.sub (List.nil_sublist _)⟩
     ·
      refine WL.nt <| WC.cond_f rfl <| WC.skip <| WE.then_n <| WC.seq <| WC.region <| WL.v (v_fieldAddr0 rfl rfl fld_51_2) rfl <| ?_
      have htg : 0 ≤ tags ∧ tags ≤ 256 := Classical.byContradiction fun k => h50 (by rw [← hET, if_neg k]; decide)
      obtain ⟨gP, gt, gh, rfl, rfl⟩ := hT2 htg
      have hml : macs.length = ss.length := (by omega)
      have hsx : sxE own rules tags ss macs.length = 0 := (by
        unfold sxE
        rw [if_neg h23, if_neg]
        rintro (k | k | k)
        · exact k hml
        · exact k hrl
        · exact k htg)
      rw [hsx]
      refine WL.v (v_load1 rfl rfl one_49 (cellAt (v := .slice ma macs.length mc) rfl)) rfl <| WL.v (v_build rfl rfl zero_74 plc_74 rfl) rfl <| WL.alloc rfl zero_74 (.none rfl) rfl rfl <| ?_
      intro g9 hg9
      refine WL.storeW rfl rfl rfl rfl many_74 rfl rfl (.none rfl) rfl ?_
      obtain ⟨R, hRr, hRf⟩ : ∃ R : List Ent, R = .row gP [.int .i64 tags, .map (some gt), .map (some gh)] :: .obj gh (.map #[] 0) :: .obj gt (.map #[] 0) :: .row gW [.pointer (some ⟨gT, 0, none⟩), .int .i64 0, .int .i64 0, .int .i64 0, .int .i64 0, .int .i64 ss.length] :: MS ∧ ∀ w2, (∀ e ∈ R, e.holds w2) → SvRd w2 gS ss.length ∧ w2.cell? ⟨gW, 0, none⟩ = some (.pointer (some ⟨gT, 0, none⟩)) ∧ w2.cell? ⟨gP, 2, none⟩ = some (.map (some gh)) ∧ Emp w2 gh := ⟨_, rfl, fun w2 h => ⟨hsv w2 fun e he => h e (by simp [he]), Row.cell (h (.row gW [.pointer (some ⟨gT, 0, none⟩), .int .i64 0, .int .i64 0, .int .i64 0, .int .i64 0, .int .i64 ss.length]) (by simp)) rfl, Row.cell (h (.row gP [.int .i64 tags, .map (some gt), .map (some gh)]) (by simp)) rfl, (h (.obj gh (.map #[] 0)) (by simp)).1⟩⟩
      refine WL.as (L' := .row g9 (plD 0 0 macs.length none none ma 0 0 mc) :: ([.row gP [.int .i64 tags, .map (some gt), .map (some gh)], .obj gh (.map #[] 0), .obj gt (.map #[] 0)] ++ ([.row gW [.pointer (some ⟨gT, 0, none⟩), .int .i64 0, .int .i64 0, .int .i64 0, .int .i64 0, .int .i64 ss.length], .row gT [.int .i64 rules, .slice none 0 0]] ++ (MS ++ [.row g1 (cfL own q rules tags sa ma ss.length sc macs.length mc)])))) rfl ?_
      refine WL.to (L' := .row g9 (plD 0 0 macs.length none none ma 0 0 mc) :: .row g1 (cfL own q rules tags sa ma ss.length sc macs.length mc) :: .row gT [.int .i64 rules, .slice none 0 0] :: R) (fun w hS => by rw [hRr]; exact hS.permX) ?_
      refine WL.nt <| WC.seq <| WC.seq <| WC.region <| WL.v (v_move rfl rfl) rfl <| WL.v (v_move rfl rfl) rfl <| WL.nt <| WC.block <| WC.loop (fun x : PdS => [(56, .int .i64 x.k), (55, .int .i64 ss.length), (9, .pointer (some ⟨g9, 0, none⟩)), (4, .pointer (some ⟨gS, 0, none⟩)), (7, .pointer (some ⟨gW, 0, none⟩)), (8, .pointer (some ⟨gP, 0, none⟩)), (6, .int .i64 ss.length), (1, .pointer (some ⟨g1, 0, none⟩))]) (fun x => .row g9 (plD x.k x.k macs.length x.oa x.ia ma x.oc x.ic mc) :: (x.Eo ++ (x.Ei ++ (.row g1 (cfL own q rules tags sa ma ss.length sc macs.length mc) :: .row gT [.int .i64 rules, .slice none 0 0] :: R)))) (fun x => x.k ≤ ss.length ∧ Vec 5 x.oa x.k x.oc (ndsL (idsN x.k)) x.Eo ∧ Vec 5 x.ia x.k x.ic (ndsL (idsN x.k)) x.Ei) (fun x => ss.length - x.k) ⟨0, none, 0, [], none, 0, []⟩ ⟨Nat.zero_le _, Vec.nil 5, Vec.nil 5⟩ (.cons rfl (.cons rfl (.cons rfl (.cons rfl (.cons rfl (.cons rfl (.cons rfl (.cons rfl .nil)))))))) (.refl _) <| ?_
      rintro ⟨k, oa, oc, Eo, ia, ic, Ei⟩ ⟨hk, hVo, hVi⟩
      dsimp only at hk hVo hVi
      dsimp only
      refine WC.seq <| WC.region <| ?_
      refine WL.test (v_lss rfl rfl rfl) (.none rfl) rfl rfl (fun h57 => ?_) (fun h57 => ?_)
      ·
       refine WL.nt <| WC.seq <| WC.cond_t rfl <| WC.skip <| WE.then_n <| WC.seq <| WC.block <| WC.seq <| WC.region <| WL.v (v_fieldAddr0 rfl rfl fld_74_0) rfl <| WL.v (v_load1 rfl rfl one_24 (cellAt (v := .slice oa k oc) rfl)) rfl <| WL.v (v_build rfl rfl zero_26 plc_26 rfl) rfl <| ?_
       refine WL.buildSlice rfl rfl Tryz.underlying24 sz_26 zero_26 rfl (by decide) (show _ = some (ndL idN) from rfl) (.none rfl) rfl rfl ?_
       intro g61 hg61
       refine WL.to (L' := Eo ++ (.row g61 (ndL idN) :: .row g9 (plD k k macs.length oa ia ma oc ic mc) :: (Ei ++ (.row g1 (cfL own q rules tags sa ma ss.length sc macs.length mc) :: .row gT [.int .i64 rules, .slice none 0 0] :: R)))) (fun w hS => hS.permX) ?_
       refine WL.appendL rfl rfl rfl Tryz.underlying24 Tryz.underlying24 sz_26 by_26 zero_26 rfl rfl hVo (new := ndL idN) (fun _ => ⟨g61, 0, rfl, fun w hS => allAt (g := g61) w hS⟩) rfl rfl (by omega) (.none rfl) rfl rfl ?_
       intro ad62 c62 E62 hV62 hr62
       refine WL.v (v_fieldAddr0 rfl rfl fld_74_0) rfl <| WL.store1 rfl rfl rfl rfl one_24 (Nat.le_of_ble_eq_true rfl) (.none rfl) rfl <| WL.as (L' := E62 ++ (.row g61 (ndL idN) :: .row g9 (plD (k + 1) k macs.length ad62 ia ma c62 ic mc) :: (Ei ++ (.row g1 (cfL own q rules tags sa ma ss.length sc macs.length mc) :: .row gT [.int .i64 rules, .slice none 0 0] :: R)))) rfl <| WL.nt <| WC.region <| WL.v (v_fieldAddr0 rfl rfl fld_74_1) rfl <| WL.v (v_load1 rfl rfl one_24 (cellAt (v := .slice ia k ic) rfl)) rfl <| WL.v (v_build rfl rfl zero_26 plc_26 rfl) rfl <| ?_
       refine WL.buildSlice rfl rfl Tryz.underlying24 sz_26 zero_26 rfl (by decide) (show _ = some (ndL idN) from rfl) (.none rfl) rfl rfl ?_
       intro g67 hg67
       refine WL.to (L' := Ei ++ (.row g67 (ndL idN) :: .row g9 (plD (k + 1) k macs.length ad62 ia ma c62 ic mc) :: (E62 ++ (.row g1 (cfL own q rules tags sa ma ss.length sc macs.length mc) :: .row gT [.int .i64 rules, .slice none 0 0] :: R)))) (fun w hS => hS.dropX [.row g61 (ndL idN)]) ?_
       refine WL.appendL rfl rfl rfl Tryz.underlying24 Tryz.underlying24 sz_26 by_26 zero_26 rfl rfl hVi (new := ndL idN) (fun _ => ⟨g67, 0, rfl, fun w hS => allAt (g := g67) w hS⟩) rfl rfl (by omega) (.none rfl) rfl rfl ?_
       intro ad68 c68 E68 hV68 hr68
       refine WL.v (v_fieldAddr0 rfl rfl fld_74_1) rfl <| WL.store1 rfl rfl rfl rfl one_24 (Nat.le_of_ble_eq_true rfl) (.none rfl) rfl <| WL.as (L' := E68 ++ (.row g67 (ndL idN) :: .row g9 (plD (k + 1) (k + 1) macs.length ad62 ad68 ma c62 c68 mc) :: (E62 ++ (.row g1 (cfL own q rules tags sa ma ss.length sc macs.length mc) :: .row gT [.int .i64 rules, .slice none 0 0] :: R)))) rfl <| WL.to (L' := .row g9 (plD (k + 1) (k + 1) macs.length ad62 ad68 ma c62 c68 mc) :: (E62 ++ (E68 ++ (.row g1 (cfL own q rules tags sa ma ss.length sc macs.length mc) :: .row gT [.int .i64 rules, .slice none 0 0] :: R)))) (fun w hS => hS.dropX [.row g67 (ndL idN)]) <| WL.nil <| WE.block_n <| WE.then_n <| WC.region <| ?_
       refine WL.v (v_add rfl rfl rfl ((show _ = ((k + 1 : Nat) : Int) from (w_i64 (by omega) (by omega)).trans (by omega)))) rfl ?_
       refine WL.v (v_move rfl rfl) rfl <| WL.nil <| ?_
       exact WE.next ⟨k + 1, ad62, c62, E62, ad68, c68, E68⟩ (by dsimp only; omega) ⟨by dsimp only; omega, by dsimp only; rw [← ids_snoc]; exact hV62, by dsimp only; rw [← ids_snoc]; exact hV68⟩ (.cons rfl (.cons rfl (.cons rfl (.cons rfl (.cons rfl (.cons rfl (.cons rfl (.cons rfl .nil)))))))) (.refl _)
      ·
       refine WL.nt <| WC.seq <| WC.cond_f rfl <| WC.exit <| WE.then_exit <| WE.then_exit <| WE.block_hit <| WE.then_n <| WC.seq <| WC.seq <| WC.region <| ?_
       obtain rfl : k = ss.length := (by omega)
       obtain ⟨p0, hp0⟩ : ∃ p : PlN, p = ⟨oa, oc, idsN ss.length, ia, ic, idsN ss.length, ma, mc, macs, none, 0, 0, none, 0, 0, none, 0, 0⟩ := ⟨_, rfl⟩
       have hpc : p0.cells = (plD ss.length ss.length macs.length oa ia ma oc ic mc) := (by rw [hp0]; unfold PlN.cells plD; dsimp only; rw [List.length_replicate])
       refine WL.rowTo (g := g9) (cs' := p0.cells) hpc.symm <| WL.v (v_loadN rfl rfl many_74 rfl (segAt (g := g9) (m := 6) (new := p0.cells) rfl)) rfl <| WL.call rfl rfl ck_38 (.none rfl) rfl rfl <| ?_
       intro w1 hS
       have hAt : p0.At w1 := (by
         rw [hp0]
         exact ⟨ids_kids hVo fun e he => hS.holds e (by simp [he]), ids_kids hVi fun e he => hS.holds e (by simp [he]), hMs.frm hS.frm (fun _ _ _ h => h)⟩)
       have hIds : KidsIn (idsN ss.length) := KidsIn.of' fun u hu => (by rw [List.eq_of_mem_replicate hu]; exact idN_in')
       have hIn : p0.In := (by
         rw [hp0]
         exact ⟨hIds, hIds, hB, by dsimp only; rw [List.length_replicate]; omega⟩)
       have hLt : ∀ t ∈ idsN ss.length, Lt t := fun t ht => (by rw [List.eq_of_mem_replicate ht]; exact id_lt')
       have her : errs codeC (idsN ss.length) = 0 := errs_zero.2 fun t ht => (by rw [List.eq_of_mem_replicate ht]; exact id_code')
       have hF : ¬ makeF p0 := (by
         rw [hp0]
         unfold makeF
         dsimp only
         rw [ids_len]
         omega)
       have hmk : makeE p0 = 0 := (by
         unfold makeE
         rw [if_neg hF, hp0]
         dsimp only
         rw [if_neg (by rw [her]; decide), her])
       refine (Make_c w1 p0 hAt hIn (hG.keep (fun h => h) hS) (by rw [hp0]; exact hLt) (by rw [hp0]; exact hLt)).mono ?_
       rw [hmk]
       rintro e w' ⟨q0, MQ, rfl, hq1, _, hqA, hqI, hS'⟩
       obtain ⟨hqo, hqi, hqm⟩ := hq1 rfl
       rw [hp0] at hqo hqi hqm
       refine ⟨_, _, rfl, hS.join hS', ?_⟩
       refine WL.v (v_move rfl rfl) rfl <| WL.v (v_extract rfl rfl rfl) rfl <| WL.v (v_extract rfl rfl rfl) rfl <| WL.storeW rfl rfl rfl rfl many_74 rfl rfl (.none rfl) rfl <| WL.as (L' := MQ ++ (.row g9 (splice p0.cells 0 q0.cells) :: (Eo ++ (Ei ++ (.row g1 (cfL own q rules tags sa ma ss.length sc macs.length mc) :: .row gT [.int .i64 rules, .slice none 0 0] :: R))))) rfl <| WL.rowTo (g := g9) (cs' := q0.cells) (splice_all rfl) <| WL.v (v_assign rfl rfl) rfl <| WL.nt <| WC.seq <| WC.region <| WL.v (v_move rfl rfl) rfl <| ?_
       refine WL.v ((v_neq rfl rfl rfl).f (by omega)) rfl ?_
       refine WL.nt <| WC.cond_f rfl <| WC.skip <| WE.then_n <| WC.seq <| WC.heldT 10 ([.row g9 q0.cells, .row g1 (cfL own q rules tags sa ma ss.length sc macs.length mc)]) mixed <| ?_
       refine WRT.first (g := 4) [0, 1, 2, 3, 4, 5, 6] (by kernel_rfl) (by kernel_rfl) (by kernel_rfl) (fun w hS => hS.sub (by repeat (first | exact List.Sublist.refl _ | exact List.nil_sublist _ | refine List.Sublist.cons_cons _ ?_ | refine List.Sublist.cons _ ?_ | refine List.sublist_append_of_sublist_right ?_))) ?_
       refine WH.val (v_move rfl rfl) (.none rfl) rfl rfl <| WH.val (v_move rfl rfl) (.none rfl) rfl rfl <| WH.val (v_fieldAddr0 rfl rfl fld_51_4) (.none rfl) rfl rfl <| WH.val (v_load1 rfl rfl one_3 (cellAt (v := .int .i64 rules) rfl)) (.none rfl) rfl rfl <| WH.val (v_loadN rfl rfl many_74 rfl (segAt (g := g9) (m := 6) (new := q0.cells) rfl)) (.none rfl) rfl rfl <| WH.val (v_move rfl rfl) (.none rfl) rfl rfl <| WH.val (v_move rfl rfl) (.none rfl) rfl rfl <| WH.nilT <| ?_
       refine WRT.one (g := 3) 7 (by kernel_rfl) ?_
       refine WL.makeN (m := ss.length) (c := ss.length) rfl rfl rfl (by omega) (by omega) (by omega) Tryz.underlying77 by_133 (by omega) (by omega) sz_133 zero_133 rfl (.none rfl) rfl rfl ?_
       intro g86 hg86
       refine WL.nilT (fun w hS => hS.sub (by repeat (first | exact List.Sublist.refl _ | exact List.nil_sublist _ | refine List.Sublist.cons_cons _ ?_ | refine List.Sublist.cons _ ?_ | refine List.sublist_append_of_sublist_right ?_))) ?_
       refine WRT.first (g := 2) [8] (by kernel_rfl) (by kernel_rfl) (by kernel_rfl) (fun w hS => hS.sub (by repeat (first | exact List.Sublist.refl _ | exact List.nil_sublist _ | refine List.Sublist.cons_cons _ ?_ | refine List.Sublist.cons _ ?_ | refine List.sublist_append_of_sublist_right ?_))) ?_
       refine WH.val (v_build rfl rfl zero_79 plc_79 rfl) (.none rfl) rfl rfl <| WH.nilT <| ?_
       refine WRT.one (g := 1) 9 (by kernel_rfl) ?_
       refine WL.box rfl rfl rfl (.none rfl) rfl rfl ?_
       intro g88 hg88
       refine WL.as (L' := .row g88 ([.pointer (some ⟨gS, 0, none⟩), .pointer (some ⟨gW, 0, none⟩), .int .i64 rules] ++ (q0.cells ++ [.pointer (some ⟨gP, 0, none⟩), .pointer none, .slice (some ⟨g86, 0, none⟩) ss.length ss.length, .int .i64 0])) :: .row g86 (List.replicate ss.length [Value.map none]).flatten :: (MQ ++ (.row g9 q0.cells :: (Eo ++ (Ei ++ (.row g1 (cfL own q rules tags sa ma ss.length sc macs.length mc) :: .row gT [.int .i64 rules, .slice none 0 0] :: R)))))) rfl ?_
       refine WL.rowTo (g := g86) (cs' := List.replicate ss.length (Value.map none)) (by induction ss.length with | zero => rfl | succ n ih => rw [List.replicate_succ, List.flatten_cons, ih]; rfl) ?_
       refine WL.nilT (fun w hS => hS.sub (by repeat (first | exact List.Sublist.refl _ | exact List.nil_sublist _ | refine List.Sublist.cons_cons _ ?_ | refine List.Sublist.cons _ ?_ | refine List.sublist_append_of_sublist_right ?_))) ?_
       refine WRT.one (g := 0) 10 (by kernel_rfl) ?_
       refine WL.v (v_assign rfl rfl) rfl <| WL.nilT2 rfl <| ?_
       refine WRT.done (by kernel_rfl) ?_
       refine WE.then_n <| WC.seq <| WC.seq <| WC.region <| WL.v (v_move rfl rfl) rfl <| WL.v (v_nilCheck rfl rfl) rfl <| WL.v (v_fieldAddr0 rfl rfl fld_79_6) rfl <| WL.v (v_load1 rfl rfl one_77 (cellAt (v := .slice (some ⟨g86, 0, none⟩) ss.length ss.length) rfl)) rfl <| WL.v (v_len_slice rfl rfl Tryz.underlying77) rfl <| WL.v (v_move rfl rfl) rfl <| WL.nt <| WC.block <| ?_
       refine WC.loop (fun s : DrS => [(94, .int .i64 s.k), (93, .int .i64 ss.length), (10, .pointer (some ⟨g88, 0, none⟩))]) (fun s => .row g88 ([.pointer (some ⟨gS, 0, none⟩), .pointer (some ⟨gW, 0, none⟩), .int .i64 rules] ++ (q0.cells ++ [.pointer (some ⟨gP, 0, none⟩), .pointer none, .slice (some ⟨g86, 0, none⟩) ss.length ss.length, .int .i64 0])) :: .row g86 (mapsL s.bs ++ List.replicate (ss.length - s.k) (Value.map none)) :: (s.M ++ (MQ ++ (.row g9 q0.cells :: (Eo ++ (Ei ++ (.row g1 (cfL own q rules tags sa ma ss.length sc macs.length mc) :: .row gT [.int .i64 rules, .slice none 0 0] :: R))))))) (fun s => s.k ≤ ss.length ∧ s.bs.length = s.k ∧ ∀ b ∈ s.bs, Ent.obj b (.map #[] 0) ∈ s.M) (fun s => ss.length - s.k) ⟨0, [], []⟩ ⟨Nat.zero_le _, rfl, fun _ h => (by cases h)⟩ (.cons rfl (.cons rfl (.cons rfl .nil))) (.refl _) ?_
       rintro ⟨k, bs, M⟩ ⟨hk, hb, hM⟩
       dsimp only at hk hb hM
       dsimp only
       refine WC.seq <| WC.region <| ?_
       refine WL.test (v_lss rfl rfl rfl) (.none rfl) rfl rfl (fun h95 => ?_) (fun h95 => ?_)
       ·
        refine WL.nt <| WC.seq <| WC.cond_t rfl <| WC.skip <| WE.then_n <| WC.seq <| WC.block <| WC.seq <| WC.region <| WL.v (v_move rfl rfl) rfl <| WL.v (v_assign rfl rfl) rfl <| WL.nt <| WC.region <| WL.v (v_move rfl rfl) rfl <| ?_
        refine WL.v (v_nilCheck rfl rfl) rfl <| WL.v (v_fieldAddr0 rfl rfl fld_79_6) rfl <| WL.v (v_load1 rfl rfl one_77 (cellAt (v := .slice (some ⟨g86, 0, none⟩) ss.length ss.length) rfl)) rfl <| WL.v (v_move rfl rfl) rfl <| WL.makeMap rfl (.none rfl) rfl rfl <| ?_
        intro g102 hg102
        refine WL.v (v_indexAddr (lo := k) rfl rfl rfl Tryz.underlying77 sz_133 (by omega) (by omega)) rfl ?_
        refine WL.store1 rfl rfl rfl rfl one_133 (by unfold mapsL; rw [List.length_append, List.length_map, List.length_replicate]; omega) (.none rfl) rfl ?_
        refine WL.rowTo (g := g86) (cs' := mapsL (bs ++ [g102]) ++ List.replicate (ss.length - (k + 1)) (Value.map none)) (by rw [Nat.zero_add, Nat.mul_one]; exact maps_set hb (by omega)) ?_
        refine WL.nil <| WE.block_n <| WE.then_n <| WC.region <| ?_
        refine WL.v (v_add rfl rfl rfl ((show _ = ((k + 1 : Nat) : Int) from (w_i64 (by omega) (by omega)).trans (by omega)))) rfl ?_
        refine WL.v (v_move rfl rfl) rfl <| WL.nil <| WE.to (L' := .row g88 ([.pointer (some ⟨gS, 0, none⟩), .pointer (some ⟨gW, 0, none⟩), .int .i64 rules] ++ (q0.cells ++ [.pointer (some ⟨gP, 0, none⟩), .pointer none, .slice (some ⟨g86, 0, none⟩) ss.length ss.length, .int .i64 0])) :: .row g86 (mapsL (bs ++ [g102]) ++ List.replicate (ss.length - (k + 1)) (Value.map none)) :: ((.obj g102 (.map #[] 0) :: M) ++ (MQ ++ (.row g9 q0.cells :: (Eo ++ (Ei ++ (.row g1 (cfL own q rules tags sa ma ss.length sc macs.length mc) :: .row gT [.int .i64 rules, .slice none 0 0] :: R))))))) (fun w hS => hS.permX) <| ?_
        exact WE.next ⟨k + 1, bs ++ [g102], .obj g102 (.map #[] 0) :: M⟩ (by dsimp only; omega) ⟨by dsimp only; omega, by dsimp only; rw [List.length_append, hb]; rfl, fun b h => by
          rcases List.mem_append.1 h with h | h
          · exact List.mem_cons_of_mem _ (hM b h)
          · rw [List.mem_singleton.1 h]; exact List.mem_cons_self ..⟩ (.cons rfl (.cons rfl (.cons rfl .nil))) (.refl _)
       ·
        refine WL.nt <| WC.seq <| WC.cond_f rfl <| WC.exit <| WE.then_exit <| WE.then_exit <| WE.block_hit <| WE.then_n <| WC.seq <| WC.region <| ?_
        obtain rfl : k = ss.length := (by omega)
        refine WL.rowTo (g := g86) (cs' := mapsL bs) (by rw [Nat.sub_self, List.replicate_zero, List.append_nil]) ?_
        refine WL.v (v_move rfl rfl) rfl <| WL.v (v_move rfl rfl) rfl <| WL.v (v_makeFunc rfl rfl rfl) rfl <| WL.call rfl rfl ck_39 (.none rfl) rfl rfl <| ?_
        intro w1 hS
        refine (arnew_c w1 (.func 40) #[.pointer (some ⟨g88, 0, none⟩)] #[]).mono ?_
        rintro e w' ⟨gA, rfl, hS'⟩
        refine ⟨_, _, rfl, hS.join hS', ?_⟩
        refine WL.v (v_nilCheck rfl rfl) rfl <| WL.v (v_fieldAddr0 rfl rfl fld_79_5) rfl <| WL.store1 rfl rfl rfl rfl one_76 (Nat.le_of_ble_eq_true rfl) (.none rfl) rfl <| ?_
        skip
        refine WL.as (L' := .row gA [.func (.func 40) #[.pointer (some ⟨g88, 0, none⟩)] #[], .map none] :: .row g88 ([.pointer (some ⟨gS, 0, none⟩), .pointer (some ⟨gW, 0, none⟩), .int .i64 rules] ++ (q0.cells ++ [.pointer (some ⟨gP, 0, none⟩), .pointer (some ⟨gA, 0, none⟩), .slice (some ⟨g86, 0, none⟩) ss.length ss.length, .int .i64 0])) :: .row g86 (mapsL bs) :: (M ++ (MQ ++ (.row g9 q0.cells :: (Eo ++ (Ei ++ (.row g1 (cfL own q rules tags sa ma ss.length sc macs.length mc) :: .row gT [.int .i64 rules, .slice none 0 0] :: R))))))) rfl <| WL.nt <| WC.seq <| WC.region <| WL.v (v_move rfl rfl) rfl <| WL.v (v_assign rfl rfl) rfl <| WL.v (v_assign rfl rfl) rfl <| WL.nt <| WC.ret <| WE.ret2 (P := Tryz.prog) (.inl rfl) Tryz.results9 rfl rfl <| ?_
        refine fun w' h => ⟨_, _, rfl, fun k => absurd rfl k, fun _ => ⟨⟨g88, gS, gW, gT, gP, gh, gA, g86, rules, rules, q0, ss.length, bs, none, 0, 0⟩, .row gA [.func (.func 40) #[.pointer (some ⟨g88, 0, none⟩)] #[], .map none] :: (M ++ (MQ ++ R)), rfl, rfl, ⟨⟨⟨hn1, hn2⟩, hrl, hb⟩, rfl, hqo, hqi, hqm, hqI, rfl, fun w2 h2 => ?_⟩⟩, ?_⟩
        · obtain ⟨f1, f2, f3, f4⟩ := hRf w2 fun e he => h2 e (by simp [he])
          exact ⟨⟨f1, f2, f3, f4, h2 _ (.head _), fun b hbm => (h2 _ (.tail _ (List.mem_append_left _ (hM b hbm)))).1⟩, hqA w2 fun e he => h2 e (by simp [he])⟩
        · show St _ _ _ (.row g88 ([.pointer (some ⟨gS, 0, none⟩), .pointer (some ⟨gW, 0, none⟩), .int .i64 rules] ++ (q0.cells ++ [.pointer (some ⟨gP, 0, none⟩), .pointer (some ⟨gA, 0, none⟩), .slice (some ⟨g86, 0, none⟩) ss.length ss.length, .int .i64 0])) :: .row g86 (mapsL bs) :: .row gT [.int .i64 rules, .slice none 0 0] :: .row gA [.func (.func 40) #[.pointer (some ⟨g88, 0, none⟩)] #[], .map none] :: (M ++ (MQ ++ R)))
          exact St.dropX (.row g9 q0.cells :: .row g1 (cfL own q rules tags sa ma ss.length sc macs.length mc) :: (Eo ++ Ei)) h
end Go.Proofs.YtmhahajadgkolaaGreatDoor
/- sdx: SdxWants: count, big, the law's exchange. -/
namespace Go.Proofs.YtmhahajadgkolaaGreatDoor
open Go.RowKit

set_option maxHeartbeats 1000000 in
theorem count25_c : ∀ (N : Nat) (t : Nd), SizeOf.sizeOf t ≤ N → ∀ (w : World) (most : Int), t.In → t.At w → 0 ≤ most → most ≤ 1000000 →
    Calls Tryz.prog 14 #[ndV t, .int .i64 most] w fun e w' => e = .returned (.int .i64 (countT t most)) ∧ Frm (fun _ => False) w w'
  | 0 => fun t hN => by cases t; simp only [Nd.mk.sizeOf_spec] at hN; omega
  | N + 1 => by
    intro t hN w most hI hA h0 h1
    have hlen := hI.nums.2.2.2.2
    refine enter Tryz.func14 rfl Tryz.ntmps14 rfl (St.start (fun _ => False) w) ?_
    refine WC.seq <| WC.region <| WL.box rfl rfl rfl (.none rfl) rfl rfl <| ?_
    intro g2 hg2
    refine WL.v (v_assign rfl rfl) rfl <| WL.nt <| WC.seq <| WC.region <| WL.v (v_assign rfl rfl) rfl <| WL.nt <| WC.seq <| WC.seq <| WC.region <| WL.v (v_fieldAddr0 rfl rfl fld_26_4) rfl <| WL.v (v_load1 rfl rfl one_24 (cellAt rfl)) rfl <| WL.v (v_len_slice rfl rfl Tryz.underlying24) rfl <| WL.v (v_move rfl rfl) rfl <| WL.nt <| ?_
    refine WC.block ?_
    refine WC.loop (fun x : Nat × Int => [(11, .int .i64 x.1), (10, .int .i64 t.kids.length), (9, .slice t.ad t.kids.length t.cap), (5, .int .i64 x.2), (1, .int .i64 most)]) (fun _ => []) (fun x => x.1 ≤ t.kids.length ∧ 1 ≤ x.2 ∧ x.2 ≤ most + 1 ∧ countKs (t.kids.drop x.1) most x.2 = countT t most) (fun x => t.kids.length - x.1) (0, 1) ⟨Nat.zero_le _, by dsimp only; omega, by dsimp only; omega, (countT_eq t most).symm⟩ (.cons rfl (.cons rfl (.cons rfl (.cons rfl (.cons rfl .nil))))) (.cons _ (.refl _)) ?_
    rintro ⟨k, all⟩ ⟨hk, ha0, ha1, hc⟩
    dsimp only at hk ha0 ha1 hc
    dsimp only
    refine WC.seq <| WC.region <| ?_
    refine WL.test (v_lss rfl rfl rfl) (.none rfl) rfl rfl (fun h12 => ?_) (fun h12 => ?_)
    ·
     refine WL.nt <| WC.seq <| WC.cond_t rfl <| WC.skip <| WE.then_n <| WC.seq <| WC.block <| WC.seq <| WC.region <| ?_
     obtain ⟨u, hu⟩ : ∃ u, t.kids[k]? = some u := ⟨t.kids[k]'(by omega), List.getElem?_eq_getElem _⟩
     obtain ⟨b, o, ea, _⟩ := (hA.kid hu).1
     rw [drop_cons hu, countKs] at hc
     refine WL.v (v_indexAddr (b := b) (off := o) (lo := k) rfl (by show some (Value.slice t.ad _ _) = _; rw [ea]) rfl Tryz.underlying24 sz_26 rfl (by omega)) rfl ?_
     refine WL.v (v_loadN (cs := ndL u) rfl rfl many_26 rfl (rangeIn (fun h => h) (hA.kidAt hu ea))) rfl <| WL.alloc rfl zero_26 (.none rfl) rfl rfl <| ?_
     intro g7 hg7
     refine WL.storeW rfl rfl rfl rfl many_26 rfl rfl (.none rfl) rfl <| WL.nt <| WC.seq <| WC.seq <| WC.region <| WL.v (v_move rfl rfl) rfl <| WL.v (v_move rfl rfl) rfl <| ?_
     refine WL.test (v_gtr rfl rfl rfl) (.none rfl) rfl rfl (fun h17 => ?_) (fun h17 => ?_)
     ·
      refine WL.nt <| WC.cond_t rfl <| WC.seq <| WC.region <| WL.v (v_move rfl rfl) rfl <| WL.v (v_assign rfl rfl) rfl <| WL.nt <| WC.ret <| WE.then_ret <| WE.block_ret <| WE.then_ret <| WE.then_ret <| WE.block_ret <| WE.then_ret <| ?_
      refine WE.ret1 (P := Tryz.prog) (.inl rfl) Tryz.results14 rfl ?_
      rw [if_pos (by omega)] at hc
      exact fun w' h => ⟨by rw [← hc], h.frm⟩
     ·
      refine WL.nt <| WC.cond_f rfl <| WC.skip <| WE.then_n <| WC.region <| ?_
      have hcl := countT_le u (most - all) (by omega)
      refine WL.v (v_move rfl rfl) rfl <| WL.v (v_loadN rfl rfl many_26 rfl allAt) rfl <| WL.v (v_move rfl rfl) rfl <| WL.v (v_move rfl rfl) rfl <| ?_
      refine WL.v (v_sub rfl rfl rfl (w_i64 (by omega) (by omega))) rfl ?_
      refine WL.call rfl rfl ck_14 (.none rfl) rfl rfl ?_
      intro w hS
      refine Calls.then (count25_c N u (Nd.kidN hN hu) w (most - all) (hI.kids.get _ _ _ hu) ((hA.kid hu).2.st (fun _ h => h) hS) (by omega) (by omega)) hS ?_
      refine WL.v (v_add rfl rfl rfl (w_i64 (by omega) (by omega))) rfl ?_
      refine WL.v (v_assign rfl rfl) rfl <| WL.nil <| WE.block_n <| WE.then_n <| WC.region <| ?_
      refine WL.v (v_add rfl rfl rfl (w_i64 (by omega) (by omega))) rfl ?_
      refine WL.v (v_move rfl rfl) rfl <| WL.nil <| ?_
      rw [if_neg (by omega)] at hc
      exact WE.next (k + 1, all + countT u (most - all)) (by dsimp only; omega) ⟨by dsimp only; omega, by dsimp only; omega, by dsimp only; omega, hc⟩ (.int rfl (by dsimp only; omega) (.cons rfl (.cons rfl (.cons rfl (.cons rfl .nil))))) (.cons _ (.refl _))
    ·
     refine WL.nt <| WC.seq <| WC.cond_f rfl <| WC.exit <| WE.then_exit <| WE.then_exit <| WE.block_hit <| WE.then_n <| WC.seq <| WC.region <| WL.v (v_move rfl rfl) rfl <| WL.v (v_assign rfl rfl) rfl <| WL.nt <| WC.ret <| ?_
     refine WE.ret1 (P := Tryz.prog) (.inl rfl) Tryz.results14 rfl ?_
     obtain rfl : k = t.kids.length := (by omega)
     rw [List.drop_length, countKs] at hc
     exact fun w' h => ⟨by rw [← hc], h.frm⟩
/-! ### Whether trees are too big for the law -/
abbrev atZ : List Value := [.int .i64 0, .int .i64 0, .slice none 0 0, .int .u32 0, .int .i64 0, .int .i64 0, .int .i64 0, .int .u32 0, .slice none 0 0, .slice none 0 0]
abbrev msL0 : List Value := [.int .i64 0, .int .i64 0, .int .i64 0, .int .u32 0, .slice none 0 0, .slice none 0 0, .int .i64 0, .int .i64 0, .slice none 0 0, .int .u32 0, .int .i64 0, .int .i64 0, .int .i64 0, .int .u32 0, .slice none 0 0, .slice none 0 0, .slice none 0 0, .int .i64 0, .int .i64 0, .string ⟨#[]⟩]
def stpN (a b : Nd) : List Value := [.int .i64 0, .int .i64 0, .int .i64 0, .bool false] ++ (msL0 ++ (ndL a ++ ndL b))
theorem atchk_c (w : World) : Calls Tryz.prog 34 #[.agg atZ.toArray] w fun e w' => e = .returned (.int .i64 0) ∧ Frm (fun _ => False) w w' :=
  ev_call (k := 50) (vs := [.agg atZ.toArray]) w (by decide +kernel) rfl
def notBig (a b : Nd) : Prop := countT a 30 ≤ 30 ∧ countT b 30 ≤ 30 ∧ ((walkT a 1 false 0).1 = 0 → (weighT a).1 ≤ 12) ∧ ((walkT b 1 false 0).1 = 0 → (weighT b).1 ≤ 6)
set_option maxHeartbeats 1000000 in
theorem big_c (w : World) (a b : Nd) (hA : a.At w) (hB : b.At w) (iA : a.In) (iB : b.In) (hG : GW w) : Calls Tryz.prog 8 #[.agg (stpN a b).toArray] w fun e w' => (∃ c : Bool, e = .returned (.bool c) ∧ (c = false → notBig a b)) ∧ Frm (fun _ => False) w w' := by
  refine enter Tryz.func8 rfl Tryz.ntmps8 rfl (St.start (fun _ => False) w) ?_
  refine WC.seq <| WC.region <| WL.box rfl rfl rfl (.none rfl) rfl rfl <| ?_
  intro g1 hg1
  refine WL.v (v_assign rfl rfl) rfl <| WL.nt <| WC.seq <| WC.region <| WL.v (v_fieldAddr0 rfl rfl fld_43_4) rfl <| WL.v (v_loadN rfl rfl many_41 rfl (segAt (g := g1) (m := 20) (new := msL0) rfl)) rfl <| WL.alloc rfl zero_41 (.none rfl) rfl rfl <| ?_
  intro g3 hg3
  refine WL.storeW rfl rfl rfl rfl many_41 rfl rfl (.none rfl) rfl <| WL.nt <| WC.seq <| WC.seq <| WC.region <| WL.v (v_fieldAddr0 rfl rfl fld_41_5) rfl <| WL.v (v_load1 rfl rfl one_32 (cellAt rfl)) rfl <| WL.v (v_len_slice rfl rfl Tryz.underlying32) rfl <| ?_
  refine WL.v ((v_gtr rfl rfl rfl).f (by omega)) rfl ?_
  refine WL.v (v_move rfl rfl) rfl <| WL.val (v_fieldAddr0 rfl rfl fld_41_7) (.some rfl rfl rfl) rfl rfl <| WL.val (v_load1 rfl rfl one_32 (cellAt rfl)) (.some rfl rfl rfl) rfl rfl <| WL.val (v_len_slice rfl rfl Tryz.underlying32) (.some rfl rfl rfl) rfl rfl <| ?_
  refine WL.val ((v_gtr rfl rfl rfl).f (by omega)) (.some rfl rfl rfl) rfl rfl ?_
  refine WL.v (v_pick_f rfl rfl rfl) rfl <| WL.v (v_move rfl rfl) rfl <| WL.val (v_fieldAddr0 rfl rfl fld_41_6) (.some rfl rfl rfl) rfl rfl <| WL.val (v_fieldAddr rfl rfl fld_37_2) (.some rfl rfl rfl) rfl rfl <| WL.val (v_load1 rfl rfl one_33 (cellAt rfl)) (.some rfl rfl rfl) rfl rfl <| WL.val (v_len_slice rfl rfl Tryz.underlying33) (.some rfl rfl rfl) rfl rfl <| ?_
  refine WL.val ((v_gtr rfl rfl rfl).f (by omega)) (.some rfl rfl rfl) rfl rfl ?_
  refine WL.v (v_pick_f rfl rfl rfl) rfl <| WL.v (v_move rfl rfl) rfl <| WL.val (v_fieldAddr0 rfl rfl fld_41_6) (.some rfl rfl rfl) rfl rfl <| WL.val (v_fieldAddr rfl rfl fld_37_8) (.some rfl rfl rfl) rfl rfl <| WL.val (v_load1 rfl rfl one_34 (cellAt rfl)) (.some rfl rfl rfl) rfl rfl <| WL.val (v_len_slice rfl rfl Tryz.underlying34) (.some rfl rfl rfl) rfl rfl <| ?_
  refine WL.val ((v_gtr rfl rfl rfl).f (by omega)) (.some rfl rfl rfl) rfl rfl ?_
  refine WL.v (v_pick_f rfl rfl rfl) rfl <| WL.v (v_move rfl rfl) rfl <| WL.val (v_fieldAddr0 rfl rfl fld_41_6) (.some rfl rfl rfl) rfl rfl <| WL.val (v_fieldAddr rfl rfl fld_37_9) (.some rfl rfl rfl) rfl rfl <| WL.val (v_load1 rfl rfl one_35 (cellAt rfl)) (.some rfl rfl rfl) rfl rfl <| WL.val (v_len_slice rfl rfl Tryz.underlying35) (.some rfl rfl rfl) rfl rfl <| ?_
  refine WL.val ((v_gtr rfl rfl rfl).f (by omega)) (.some rfl rfl rfl) rfl rfl ?_
  refine WL.v (v_pick_f rfl rfl rfl) rfl <| WL.v (v_move rfl rfl) rfl <| WL.val (v_fieldAddr0 rfl rfl fld_41_6) (.some rfl rfl rfl) rfl rfl <| WL.val (v_loadN rfl rfl many_37 rfl (segAt (g := g3) (m := 10) (new := atZ) rfl)) (.some rfl rfl rfl) rfl rfl <| WL.call rfl rfl ck_34 (.some rfl rfl rfl) rfl rfl <| ?_
  intro w hS
  refine Calls.then (atchk_c w) hS ?_
  refine WL.val ((v_neq rfl rfl rfl).f (by omega)) (.some rfl rfl rfl) rfl rfl ?_
  refine WL.v (v_pick_f rfl rfl rfl) rfl <| WL.v (v_move rfl rfl) rfl <| WL.val (v_fieldAddr0 rfl rfl fld_43_5) (.some rfl rfl rfl) rfl rfl <| WL.val (v_loadN rfl rfl many_26 rfl (segAt (g := g1) (m := 5) (new := ndL a) rfl)) (.some rfl rfl rfl) rfl rfl <| WL.call rfl rfl ck_14 (.some rfl rfl rfl) rfl rfl <| ?_
  intro w hS
  refine Calls.then (count25_c _ a (Nat.le_refl _) w 30 iA (hA.st (fun _ h => h) hS) (by omega) (by omega)) hS ?_
  refine WL.test (v_gtr rfl rfl rfl) (.some rfl rfl rfl) rfl rfl (fun h53 => ?_) (fun h53 => ?_)
  ·
   refine WL.v (v_pick_f rfl rfl rfl) rfl <| WL.v (v_move rfl rfl) rfl <| ?_
   iterate 4 refine WL.sk rfl ?_
   refine WL.v (v_pick_t rfl rfl rfl) rfl <| WL.nt <| WC.cond_t rfl <| WC.seq <| WC.region <| WL.v (v_assign rfl rfl) rfl <| WL.nt <| WC.ret <| WE.then_ret <| WE.ret1 (P := Tryz.prog) (.inl rfl) Tryz.results8 rfl <| ?_
   exact fun w' h => ⟨⟨true, rfl, fun k => (by cases k)⟩, h.frm⟩
  ·
   refine WL.v (v_pick_f rfl rfl rfl) rfl <| WL.v (v_move rfl rfl) rfl <| WL.val (v_fieldAddr0 rfl rfl fld_43_6) (.some rfl rfl rfl) rfl rfl <| WL.val (v_loadN rfl rfl many_26 rfl (segAt (g := g1) (m := 5) (new := ndL b) rfl)) (.some rfl rfl rfl) rfl rfl <| WL.call rfl rfl ck_14 (.some rfl rfl rfl) rfl rfl <| ?_
   intro w hS
   refine Calls.then (count25_c _ b (Nat.le_refl _) w 30 iB (hB.st (fun _ h => h) hS) (by omega) (by omega)) hS ?_
   refine WL.test (v_gtr rfl rfl rfl) (.some rfl rfl rfl) rfl rfl (fun h59 => ?_) (fun h59 => ?_)
   ·
    refine WL.v (v_pick_f rfl rfl rfl) rfl <| WL.nt <| WC.cond_t rfl <| WC.seq <| WC.region <| WL.v (v_assign rfl rfl) rfl <| WL.nt <| WC.ret <| WE.then_ret <| WE.ret1 (P := Tryz.prog) (.inl rfl) Tryz.results8 rfl <| ?_
    exact fun w' h => ⟨⟨true, rfl, fun k => (by cases k)⟩, h.frm⟩
   ·
    refine WL.v (v_pick_f rfl rfl rfl) rfl <| WL.nt <| WC.cond_f rfl <| WC.skip <| WE.then_n <| WC.seq <| WC.region <| WL.v (v_fieldAddr0 rfl rfl fld_43_5) rfl <| WL.v (v_loadN rfl rfl many_26 rfl (segAt (g := g1) (m := 5) (new := ndL a) rfl)) rfl <| WL.call rfl rfl ck_35 (.none rfl) rfl rfl <| ?_
    intro w hS
    refine Calls.then (Weight_c w a iA (hA.st (fun _ h => h) hS) (hG.keep (fun h => h) hS)) hS ?_
    refine WL.v (v_move rfl rfl) rfl <| WL.v (v_extract rfl rfl rfl) rfl <| WL.v (v_extract rfl rfl rfl) rfl <| WL.v (v_extract rfl rfl rfl) rfl <| WL.v (v_assign rfl rfl) rfl <| WL.v (v_assign rfl rfl) rfl <| WL.v (v_assign rfl rfl) rfl <| WL.nt <| WC.seq <| WC.region <| WL.v (v_fieldAddr0 rfl rfl fld_43_6) rfl <| WL.v (v_loadN rfl rfl many_26 rfl (segAt (g := g1) (m := 5) (new := ndL b) rfl)) rfl <| WL.call rfl rfl ck_35 (.none rfl) rfl rfl <| ?_
    intro w hS
    refine Calls.then (Weight_c w b iB (hB.st (fun _ h => h) hS) (hG.keep (fun h => h) hS)) hS ?_
    refine WL.v (v_move rfl rfl) rfl <| WL.v (v_extract rfl rfl rfl) rfl <| WL.v (v_extract rfl rfl rfl) rfl <| WL.v (v_extract rfl rfl rfl) rfl <| WL.v (v_assign rfl rfl) rfl <| WL.v (v_assign rfl rfl) rfl <| WL.v (v_assign rfl rfl) rfl <| WL.nt <| WC.seq <| WC.region <| WL.v (v_move rfl rfl) rfl <| ?_
    refine WL.test (v_eql rfl rfl rfl) (.none rfl) rfl rfl (fun h76 => ?_) (fun h76 => ?_)
    ·
     refine WL.v (v_move rfl rfl) rfl <| WL.val (v_move rfl rfl) (.some rfl rfl rfl) rfl rfl <| ?_
     refine WL.test (v_gtr rfl rfl rfl) (.some rfl rfl rfl) rfl rfl (fun h79 => ?_) (fun h79 => ?_)
     ·
      refine WL.v (v_pick_t rfl rfl rfl) rfl <| WL.v (v_move rfl rfl) rfl <| ?_
      iterate 6 refine WL.sk rfl ?_
      refine WL.v (v_pick_t rfl rfl rfl) rfl <| WL.v (v_assign rfl rfl) rfl <| WL.nt <| WC.ret <| WE.ret1 (P := Tryz.prog) (.inl rfl) Tryz.results8 rfl <| ?_
      first | exact fun w' h => ⟨⟨true, rfl, fun k => (by cases k)⟩, h.frm⟩ | exact fun w' h => ⟨⟨false, rfl, fun _ => ⟨by omega, by omega, fun k => (by first | exact absurd k h76 | (rw [if_pos k] at h79; omega)), fun k => (by first | exact absurd k h83 | (rw [if_pos k] at h86; omega))⟩⟩, h.frm⟩
     ·
      refine WL.v (v_pick_t rfl rfl rfl) rfl <| WL.v (v_move rfl rfl) rfl <| WL.val (v_move rfl rfl) (.some rfl rfl rfl) rfl rfl <| ?_
      refine WL.test (v_eql rfl rfl rfl) (.some rfl rfl rfl) rfl rfl (fun h83 => ?_) (fun h83 => ?_)
      ·
       refine WL.val (v_move rfl rfl) (.some rfl rfl rfl) rfl rfl <| WL.val (v_move rfl rfl) (.some rfl rfl rfl) rfl rfl <| ?_
       refine WL.test (v_gtr rfl rfl rfl) (.some rfl rfl rfl) rfl rfl (fun h86 => ?_) (fun h86 => ?_)
       ·
        refine WL.val (v_pick_t rfl rfl rfl) (.some rfl rfl rfl) rfl rfl <| WL.v (v_pick_f rfl rfl rfl) rfl <| WL.v (v_assign rfl rfl) rfl <| WL.nt <| WC.ret <| WE.ret1 (P := Tryz.prog) (.inl rfl) Tryz.results8 rfl <| ?_
        first | exact fun w' h => ⟨⟨true, rfl, fun k => (by cases k)⟩, h.frm⟩ | exact fun w' h => ⟨⟨false, rfl, fun _ => ⟨by omega, by omega, fun k => (by first | exact absurd k h76 | (rw [if_pos k] at h79; omega)), fun k => (by first | exact absurd k h83 | (rw [if_pos k] at h86; omega))⟩⟩, h.frm⟩
       ·
        refine WL.val (v_pick_t rfl rfl rfl) (.some rfl rfl rfl) rfl rfl <| WL.v (v_pick_f rfl rfl rfl) rfl <| WL.v (v_assign rfl rfl) rfl <| WL.nt <| WC.ret <| WE.ret1 (P := Tryz.prog) (.inl rfl) Tryz.results8 rfl <| ?_
        first | exact fun w' h => ⟨⟨true, rfl, fun k => (by cases k)⟩, h.frm⟩ | exact fun w' h => ⟨⟨false, rfl, fun _ => ⟨by omega, by omega, fun k => (by first | exact absurd k h76 | (rw [if_pos k] at h79; omega)), fun k => (by first | exact absurd k h83 | (rw [if_pos k] at h86; omega))⟩⟩, h.frm⟩
      ·
       refine WL.val (v_move rfl rfl) (.some rfl rfl rfl) rfl rfl ?_
       iterate 2 refine WL.sk rfl ?_
       refine WL.val (v_pick_f rfl rfl rfl) (.some rfl rfl rfl) rfl rfl <| WL.v (v_pick_f rfl rfl rfl) rfl <| WL.v (v_assign rfl rfl) rfl <| WL.nt <| WC.ret <| WE.ret1 (P := Tryz.prog) (.inl rfl) Tryz.results8 rfl <| ?_
       first | exact fun w' h => ⟨⟨true, rfl, fun k => (by cases k)⟩, h.frm⟩ | exact fun w' h => ⟨⟨false, rfl, fun _ => ⟨by omega, by omega, fun k => (by first | exact absurd k h76 | (rw [if_pos k] at h79; omega)), fun k => (by first | exact absurd k h83 | (rw [if_pos k] at h86; omega))⟩⟩, h.frm⟩
    ·
     refine WL.v (v_move rfl rfl) rfl ?_
     iterate 2 refine WL.sk rfl ?_
     refine WL.v (v_pick_f rfl rfl rfl) rfl <| WL.v (v_move rfl rfl) rfl <| WL.val (v_move rfl rfl) (.some rfl rfl rfl) rfl rfl <| ?_
     refine WL.test (v_eql rfl rfl rfl) (.some rfl rfl rfl) rfl rfl (fun h83 => ?_) (fun h83 => ?_)
     ·
      refine WL.val (v_move rfl rfl) (.some rfl rfl rfl) rfl rfl <| WL.val (v_move rfl rfl) (.some rfl rfl rfl) rfl rfl <| ?_
      refine WL.test (v_gtr rfl rfl rfl) (.some rfl rfl rfl) rfl rfl (fun h86 => ?_) (fun h86 => ?_)
      ·
       refine WL.val (v_pick_t rfl rfl rfl) (.some rfl rfl rfl) rfl rfl <| WL.v (v_pick_f rfl rfl rfl) rfl <| WL.v (v_assign rfl rfl) rfl <| WL.nt <| WC.ret <| WE.ret1 (P := Tryz.prog) (.inl rfl) Tryz.results8 rfl <| ?_
       first | exact fun w' h => ⟨⟨true, rfl, fun k => (by cases k)⟩, h.frm⟩ | exact fun w' h => ⟨⟨false, rfl, fun _ => ⟨by omega, by omega, fun k => (by first | exact absurd k h76 | (rw [if_pos k] at h79; omega)), fun k => (by first | exact absurd k h83 | (rw [if_pos k] at h86; omega))⟩⟩, h.frm⟩
      ·
       refine WL.val (v_pick_t rfl rfl rfl) (.some rfl rfl rfl) rfl rfl <| WL.v (v_pick_f rfl rfl rfl) rfl <| WL.v (v_assign rfl rfl) rfl <| WL.nt <| WC.ret <| WE.ret1 (P := Tryz.prog) (.inl rfl) Tryz.results8 rfl <| ?_
       first | exact fun w' h => ⟨⟨true, rfl, fun k => (by cases k)⟩, h.frm⟩ | exact fun w' h => ⟨⟨false, rfl, fun _ => ⟨by omega, by omega, fun k => (by first | exact absurd k h76 | (rw [if_pos k] at h79; omega)), fun k => (by first | exact absurd k h83 | (rw [if_pos k] at h86; omega))⟩⟩, h.frm⟩
     ·
      refine WL.val (v_move rfl rfl) (.some rfl rfl rfl) rfl rfl ?_
      iterate 2 refine WL.sk rfl ?_
      refine WL.val (v_pick_f rfl rfl rfl) (.some rfl rfl rfl) rfl rfl <| WL.v (v_pick_f rfl rfl rfl) rfl <| WL.v (v_assign rfl rfl) rfl <| WL.nt <| WC.ret <| WE.ret1 (P := Tryz.prog) (.inl rfl) Tryz.results8 rfl <| ?_
      first | exact fun w' h => ⟨⟨true, rfl, fun k => (by cases k)⟩, h.frm⟩ | exact fun w' h => ⟨⟨false, rfl, fun _ => ⟨by omega, by omega, fun k => (by first | exact absurd k h76 | (rw [if_pos k] at h79; omega)), fun k => (by first | exact absurd k h83 | (rw [if_pos k] at h86; omega))⟩⟩, h.frm⟩
end Go.Proofs.YtmhahajadgkolaaGreatDoor
/- sdx: SdxWants: conf, mac; clones of nodes. -/
namespace Go.Proofs.YtmhahajadgkolaaGreatDoor
open Go.RowKit

theorem mac25_c (w : World) (n : Int) : Calls Tryz.prog 41 #[.int .i64 n] w fun e w' => e = .returned (.agg (mcL (macN n)).toArray) ∧ Frm (fun _ => False) w w' := by
  refine enter Tryz.func41 rfl Tryz.ntmps41 rfl (St.start (fun _ => False) w) ?_
  refine WC.seq <| WC.region <| WL.alloc rfl zero_93 (.none rfl) rfl rfl <| ?_
  intro g2 hg2
  refine WL.nt <| WC.seq <| WC.region <| WL.v (v_move rfl rfl) rfl <| WL.v (v_conv rfl rfl Tryz.underlying5 Tryz.underlying3 (w_u8m _)) rfl <| WL.v (v_buildA rfl rfl zero_93 Tryz.underlying93 sz_5 rfl) rfl <| WL.storeW rfl rfl rfl rfl many_93 rfl rfl (.none rfl) rfl <| WL.nt <| WC.ret <| WE.ret1 (P := Tryz.prog) (.inl rfl) Tryz.results41 (resRow rfl many_93 rfl) <| ?_
  exact fun w' h => ⟨rfl, h.frm⟩
def side25 (i : Nat) : Int × Int := (65001 + (i : Int), (i : Int) + 1)
def sides25 (n : Nat) : List (Int × Int) := (List.range n).map side25
def macs25 (n : Nat) : List (Nat → Int) := (List.range n).map fun i : Nat => macN (i : Int)
theorem sides25_len (n : Nat) : (sides25 n).length = n := by unfold sides25; rw [List.length_map, List.length_range]
theorem macs25_len (n : Nat) : (macs25 n).length = n := by unfold macs25; rw [List.length_map, List.length_range]
theorem sides25_snoc (n : Nat) : encL sdL (sides25 n) ++ sdL (side25 n) = encL sdL (sides25 (n + 1)) := by
  unfold sides25
  rw [List.range_succ, List.map_append, encL_append]
  show _ = _ ++ (sdL (side25 n) ++ [])
  rw [List.append_nil]
theorem macs25_snoc (n : Nat) : macsL (macs25 n) ++ mcL (macN (n : Int)) = macsL (macs25 (n + 1)) := by
  unfold macs25
  rw [List.range_succ, List.map_append]
  show _ = encL mcL (_ ++ _)
  rw [encL_append]
  show _ = _ ++ (mcL (macN (n : Int)) ++ [])
  rw [List.append_nil]
structure CfS where
  k : Nat
  sa : Option Addr
  sc : Nat
  Es : List Ent
  ma : Option Addr
  mc : Nat
  Em : List Ent
set_option maxHeartbeats 1000000 in
theorem conf25_c (w : World) (n : Nat) (hn : n ≤ 16) (rules tags : Int) : Calls Tryz.prog 10 #[.int .i64 n, .int .i64 rules, .int .i64 tags] w fun e w' => ∃ sa sc Es ma mc Em, e = .returned (.agg (cfL 65000 20 rules tags sa ma n sc n mc).toArray) ∧ Vec 2 sa n sc (encL sdL (sides25 n)) Es ∧ Vec 6 ma n mc (macsL (macs25 n)) Em ∧ St (fun _ => False) w w' (Es ++ Em) := by
  refine enter Tryz.func10 rfl Tryz.ntmps10 rfl (St.start (fun _ => False) w) ?_
  refine WC.seq <| WC.region <| WL.alloc rfl zero_51 (.none rfl) rfl rfl <| ?_
  intro g6 hg6
  refine WL.nt <| WC.seq <| WC.region <| WL.v (v_move rfl rfl) rfl <| WL.v (v_move rfl rfl) rfl <| WL.v (v_build rfl rfl zero_51 plc_51 rfl) rfl <| WL.alloc rfl zero_51 (.none rfl) rfl rfl <| ?_
  intro g7 hg7
  refine WL.storeW rfl rfl rfl rfl many_51 rfl rfl (.none rfl) rfl <| WL.as (L' := .row g7 (cfL 65000 20 rules tags none none 0 0 0 0) :: [.row g6 (cfL 0 0 0 0 none none 0 0 0 0)]) rfl <| WL.nt <| WC.seq <| WC.seq <| WC.region <| WL.v (v_assign rfl rfl) rfl <| WL.nt <| WC.block <| WC.loop (fun x : CfS => [(8, .int .i64 x.k), (0, .int .i64 n), (7, .pointer (some ⟨g7, 0, none⟩)), (6, .pointer (some ⟨g6, 0, none⟩))]) (fun x => .row g7 (cfL 65000 20 rules tags x.sa x.ma x.k x.sc x.k x.mc) :: (x.Es ++ (x.Em ++ [.row g6 (cfL 0 0 0 0 none none 0 0 0 0)]))) (fun x => x.k ≤ n ∧ Vec 2 x.sa x.k x.sc (encL sdL (sides25 x.k)) x.Es ∧ Vec 6 x.ma x.k x.mc (macsL (macs25 x.k)) x.Em) (fun x => n - x.k) ⟨0, none, 0, [], none, 0, []⟩ ⟨Nat.zero_le _, Vec.nil 2, Vec.nil 6⟩ (.cons rfl (.cons rfl (.cons rfl (.cons rfl .nil)))) (.refl _) <| ?_
  rintro ⟨k, sa, sc, Es, ma, mc, Em⟩ ⟨hk, hVs, hVm⟩
  dsimp only at hk hVs hVm
  dsimp only
  refine WC.seq <| WC.seq <| WC.region <| WL.v (v_move rfl rfl) rfl <| WL.v (v_move rfl rfl) rfl <| ?_
  refine WL.test (v_lss rfl rfl rfl) (.none rfl) rfl rfl (fun h14 => ?_) (fun h14 => ?_)
  ·
   refine WL.nt <| WC.cond_t rfl <| WC.skip <| WE.then_n <| WC.seq <| WC.block <| WC.seq <| WC.region <| WL.v (v_fieldAddr0 rfl rfl fld_51_1) rfl <| WL.v (v_load1 rfl rfl one_48 (cellAt (v := .slice sa k sc) rfl)) rfl <| WL.v (v_move rfl rfl) rfl <| ?_
   refine WL.v (v_add rfl rfl rfl (w_i64 (by omega) (by omega))) rfl ?_
   refine WL.v (v_move rfl rfl) rfl ?_
   refine WL.v (v_add rfl rfl rfl (w_i64 (by omega) (by omega))) rfl ?_
   refine WL.v (v_conv rfl rfl Tryz.underlying30 Tryz.underlying3 (by first | exact w_u32 (by omega) (by omega) | exact w_u32m _)) rfl ?_
   refine WL.v (v_build rfl rfl zero_137 plc_137 rfl) rfl ?_
   refine WL.buildSlice rfl rfl Tryz.underlying48 sz_137 zero_137 rfl (by decide) (show _ = some (sdL (side25 k)) from rfl) (.none rfl) rfl rfl ?_
   intro g25 hg25
   refine WL.to (L' := Es ++ (.row g25 (sdL (side25 k)) :: .row g7 (cfL 65000 20 rules tags sa ma k sc k mc) :: (Em ++ [.row g6 (cfL 0 0 0 0 none none 0 0 0 0)]))) (fun w hS => hS.permX) ?_
   refine WL.appendL rfl rfl rfl Tryz.underlying48 Tryz.underlying48 sz_137 by_137 zero_137 rfl rfl hVs (new := sdL (side25 k)) (fun _ => ⟨g25, 0, rfl, fun w hS => allAt (g := g25) w hS⟩) rfl rfl (by omega) (.none rfl) rfl rfl ?_
   intro ad26 c26 E26 hV26 hr26
   refine WL.v (v_fieldAddr0 rfl rfl fld_51_1) rfl <| WL.store1 rfl rfl rfl rfl one_48 (Nat.le_of_ble_eq_true rfl) (.none rfl) rfl <| WL.as (L' := E26 ++ (.row g25 (sdL (side25 k)) :: .row g7 (cfL 65000 20 rules tags ad26 ma (k + 1) c26 k mc) :: (Em ++ [.row g6 (cfL 0 0 0 0 none none 0 0 0 0)]))) rfl <| WL.to (L' := .row g7 (cfL 65000 20 rules tags ad26 ma (k + 1) c26 k mc) :: (Em ++ (E26 ++ [.row g6 (cfL 0 0 0 0 none none 0 0 0 0)]))) (fun w hS => hS.dropX [.row g25 (sdL (side25 k))]) <| WL.nt <| WC.heldT 6 ([.row g7 (cfL 65000 20 rules tags ad26 ma (k + 1) c26 k mc)]) mixed <| ?_
   refine WRT.first (g := 5) [0, 1, 2] (by kernel_rfl) (by kernel_rfl) (by kernel_rfl) (fun w hS => hS.sub (by repeat (first | exact List.Sublist.refl _ | exact List.nil_sublist _ | refine List.Sublist.cons_cons _ ?_ | refine List.Sublist.cons _ ?_ | refine List.sublist_append_of_sublist_right ?_))) ?_
   refine WH.val (v_fieldAddr0 rfl rfl fld_51_2) (.none rfl) rfl rfl <| WH.val (v_load1 rfl rfl one_49 (cellAt (v := .slice ma k mc) rfl)) (.none rfl) rfl rfl <| WH.val (v_move rfl rfl) (.none rfl) rfl rfl <| WH.nilT <| ?_
   refine WRT.one (g := 4) 3 (by kernel_rfl) ?_
   refine WL.call rfl rfl ck_41 (.none rfl) rfl rfl ?_
   intro w1 hS
   refine (mac25_c w1 (k : Int)).mono ?_
   rintro e w' ⟨rfl, hF⟩
   refine ⟨_, _, rfl, hS.ext hF, ?_⟩
   refine WL.nilT (fun w hS => hS.sub (by repeat (first | exact List.Sublist.refl _ | exact List.nil_sublist _ | refine List.Sublist.cons_cons _ ?_ | refine List.Sublist.cons _ ?_ | refine List.sublist_append_of_sublist_right ?_))) ?_
   refine WRT.one (g := 3) 4 (by kernel_rfl) ?_
   refine WL.buildSlice rfl rfl Tryz.underlying49 sz_93 zero_93 rfl (by decide) (by show some (splice (List.replicate 1 _).flatten 0 (mcL (macN (k : Int)))) = some (mcL (macN (k : Int))); exact congrArg some (splice_all rfl)) (.none rfl) rfl rfl ?_
   intro g32 hg32
   refine WL.to (L' := Em ++ (.row g32 (mcL (macN (k : Int))) :: .row g7 (cfL 65000 20 rules tags ad26 ma (k + 1) c26 k mc) :: (E26 ++ [.row g6 (cfL 0 0 0 0 none none 0 0 0 0)]))) (fun w hS => hS.permX) ?_
   refine WL.nilT (fun w hS => hS.sub (by repeat (first | exact List.Sublist.refl _ | exact List.nil_sublist _ | refine List.Sublist.cons_cons _ ?_ | refine List.Sublist.cons _ ?_ | refine List.sublist_append_of_sublist_right ?_))) ?_
   refine WRT.one (g := 2) 5 (by kernel_rfl) ?_
   refine WL.appendL rfl rfl rfl Tryz.underlying49 Tryz.underlying49 sz_93 by_93 zero_93 rfl rfl hVm (new := mcL (macN (k : Int))) (fun _ => ⟨g32, 0, rfl, fun w hS => allAt (g := g32) w hS⟩) rfl rfl (by omega) (.none rfl) rfl rfl ?_
   intro ad33 c33 E33 hV33 hr33
   refine WL.nilT (fun w hS => hS.sub (by repeat (first | exact List.Sublist.refl _ | exact List.nil_sublist _ | refine List.Sublist.cons_cons _ ?_ | refine List.Sublist.cons _ ?_ | refine List.sublist_append_of_sublist_right ?_))) ?_
   refine WRT.one (g := 1) 6 (by kernel_rfl) ?_
   refine WL.v (v_fieldAddr0 rfl rfl fld_51_2) rfl <| WL.nilT2 rfl <| ?_
   refine WRT.one (g := 0) 7 (by kernel_rfl) ?_
   refine WL.store1 rfl rfl rfl rfl one_49 (Nat.le_of_ble_eq_true rfl) (.none rfl) rfl <| WL.as (L' := E33 ++ (.row g32 (mcL (macN (k : Int))) :: .row g7 (cfL 65000 20 rules tags ad26 ad33 (k + 1) c26 (k + 1) c33) :: (E26 ++ [.row g6 (cfL 0 0 0 0 none none 0 0 0 0)]))) rfl <| WL.to (L' := .row g7 (cfL 65000 20 rules tags ad26 ad33 (k + 1) c26 (k + 1) c33) :: (E26 ++ (E33 ++ [.row g6 (cfL 0 0 0 0 none none 0 0 0 0)]))) (fun w hS => hS.dropX [.row g32 (mcL (macN (k : Int)))]) <| WL.nilT2 rfl <| ?_
   refine WRT.done (by kernel_rfl) ?_
   refine WE.block_n <| WE.then_n <| WC.region <| WL.v (v_move rfl rfl) rfl <| ?_
   refine WL.v (v_add rfl rfl rfl ((show _ = ((k + 1 : Nat) : Int) from (w_i64 (by omega) (by omega)).trans (by omega)))) rfl ?_
   refine WL.v (v_assign rfl rfl) rfl <| WL.nil <| ?_
   exact WE.next ⟨k + 1, ad26, c26, E26, ad33, c33, E33⟩ (by dsimp only; omega) ⟨by dsimp only; omega, by dsimp only; rw [← sides25_snoc]; exact hV26, by dsimp only; rw [← macs25_snoc]; exact hV33⟩ (.cons rfl (.cons rfl (.cons rfl (.cons rfl .nil)))) (.refl _)
  ·
   refine WL.nt <| WC.cond_f rfl <| WC.exit <| WE.then_exit <| WE.then_exit <| WE.block_hit <| WE.then_n <| WC.seq <| WC.region <| ?_
   obtain rfl : k = n := (by omega)
   refine WL.v (v_loadN rfl rfl many_51 rfl (segAt (g := g7) (m := 6) (new := cfL 65000 20 rules tags sa ma k sc k mc) rfl)) rfl <| WL.storeW rfl rfl rfl rfl many_51 rfl rfl (.none rfl) rfl <| WL.nt <| WC.ret <| WE.ret1 (P := Tryz.prog) (.inl rfl) Tryz.results10 (resRow rfl many_51 rfl) <| ?_
   exact fun w' h => ⟨sa, sc, Es, ma, mc, Em, rfl, hVs, hVm, h.dropX [.row g7 (cfL 65000 20 rules tags sa ma k sc k mc), .row g6 (cfL 65000 20 rules tags sa ma k sc k mc)]⟩
theorem kidsRange {w : World} {b o : Nat} : ∀ (ts : List Nd) (i : Nat), KidsAt w (some ⟨b, o, none⟩) i ts → w.rangeAt b (o + i * 5) (ndsL ts)
  | [], _, _ => fun j v hj => by cases hj
  | t :: ts, i, h => fun j v hj => by
    unfold KidsAt at h
    obtain ⟨⟨b', o', e, hr⟩, _, hk⟩ := h
    cases e
    have hj : (ndL t ++ ndsL ts)[j]? = some v := hj
    by_cases hlt : j < 5
    · rw [List.getElem?_append_left (show j < (ndL t).length from hlt)] at hj
      exact hr j v hj
    · rw [List.getElem?_append_right (show (ndL t).length ≤ j from Nat.le_of_not_lt hlt)] at hj
      have := kidsRange ts (i + 1) hk (j - 5) v hj
      rwa [show o + (i + 1) * 5 + (j - 5) = o + i * 5 + j by omega] at this
theorem kidsRg {w : World} {ad : Option Addr} {ts : List Nd} (h : KidsAt w ad 0 ts) (hl : 0 < ts.length) : ∃ b o, ad = some ⟨b, o, none⟩ ∧ w.rangeAt b o (ndsL ts) := by
  obtain ⟨t, ht⟩ : ∃ t, ts[0]? = some t := ⟨_, List.getElem?_eq_getElem hl⟩
  obtain ⟨⟨b, o, rfl, _⟩, _⟩ := h.get ts 0 0 t ht
  refine ⟨b, o, rfl, ?_⟩
  have := kidsRange ts 0 h
  rwa [Nat.zero_mul, Nat.add_zero] at this
theorem ndsL_one : ∀ ts : List Nd, (ndsL ts).all one = true
  | [] => rfl
  | t :: ts => by
    show (ndL t ++ ndsL ts).all one = true
    rw [List.all_append, ndsL_one ts]
    rfl
theorem CloneNds_c (w : World) (ad : Option Addr) (c : Nat) (ts : List Nd) (hA : KidsAt w ad 0 ts) (hn : ts.length ≤ 1000) :
    Calls Tryz.prog 44 #[.slice ad ts.length c] w fun e w' => ∃ ad' c' E, e = .returned (.slice ad' ts.length c') ∧ Vec 5 ad' ts.length c' (ndsL ts) E ∧ St (fun _ => False) w w' E := by
  cases ad with
  | none =>
    obtain rfl : ts = [] := Classical.byContradiction fun h => by
      obtain ⟨t, ht⟩ : ∃ t, ts[0]? = some t := ⟨_, List.getElem?_eq_getElem (List.length_pos_iff.2 h)⟩
      obtain ⟨⟨b, o, e, _⟩, _⟩ := hA.get ts 0 0 t ht
      cases e
    refine enter Tryz.func44 rfl Tryz.ntmps44 rfl (St.start (fun _ => False) w) ?_
    refine WC.seq <| WC.region <| WL.v (v_assign rfl rfl) rfl <| WL.nt <| WC.seq <| WC.seq <| WC.region <| WL.v (v_move rfl rfl) rfl <| WL.v (v_eql_nil true rfl rfl Tryz.underlying24 rfl) rfl <| WL.nt <| WC.cond_t rfl <| WC.seq <| WC.region <| WL.v (v_assign rfl rfl) rfl <| ?_
    refine WL.nt <| WC.ret <| WE.then_ret <| WE.ret1 (P := Tryz.prog) (.inl rfl) Tryz.results44 rfl <| ?_
    exact fun w' h => ⟨none, 0, [], rfl, Vec.nil 5, h⟩
  | some a =>
    have hl := ndsL_len ts
    refine enter Tryz.func44 rfl Tryz.ntmps44 rfl (St.start (fun _ => False) w) ?_
    refine WC.seq <| WC.region <| WL.v (v_assign rfl rfl) rfl <| WL.nt <| WC.seq <| WC.seq <| WC.region <| WL.v (v_move rfl rfl) rfl <| WL.v (v_eql_nil false rfl rfl Tryz.underlying24 rfl) rfl <| WL.nt <| WC.cond_f rfl <| WC.skip <| WE.then_n <| WC.seq <| ?_
    refine WC.region ?_
    refine WL.buildSlice rfl rfl Tryz.underlying24 sz_26 zero_26 rfl (by decide) rfl (.none rfl) rfl rfl ?_
    intro g5 hg5
    refine WL.v (v_move rfl rfl) rfl ?_
    refine WL.appendL rfl rfl rfl Tryz.underlying24 Tryz.underlying24 sz_26 by_26 zero_26 rfl rfl (E := [.row g5 []]) (Vec.row (k := 0) (s := 5) (c := 0) rfl rfl (by omega)) (new := ndsL ts) (fun h => by obtain ⟨b', o', e', hr'⟩ := kidsRg hA (by omega); exact ⟨b', o', e', rangeIn (fun h => h) hr'⟩) hl (ndsL_one ts) (by omega) (.none rfl) rfl rfl ?_
    intro ad7 c7 E7 hV7 hr7
    refine WL.v (v_assign rfl rfl) rfl <| WL.nt <| WC.ret <| WE.ret1 (P := Tryz.prog) (.inl rfl) Tryz.results44 rfl <| ?_
    exact fun w' h => ⟨ad7, c7, E7, by rw [Nat.zero_add], by simpa using hV7, h.sub (List.sublist_append_left _ _)⟩
end Go.Proofs.YtmhahajadgkolaaGreatDoor
/- stage: has, picks; fec.Key.Can; slices.DeleteFunc of one header at most. -/
namespace Go.Proofs.YtmhahajadgkolaaGreatDoor
open Go.RowKit

structure Ky3 where
  from_ : Int
  best : Int
  may : Int
def Ky3.cells (k : Ky3) : List Value := [.int .i64 k.from_, .int .i64 k.best, .int .i64 k.may]
def canF (may port : Int) : Prop := 0 ≤ port ∧ port < 16 ∧ may / 2 ^ port.toNat % 2 = 1
instance (may port : Int) : Decidable (canF may port) := by unfold canF; infer_instance
def hasF (p : PlN) (n : Int) : Prop := 0 ≤ n ∧ n < p.macs.length ∧ n < p.outs.length ∧ n < p.ins.length
instance (p : PlN) (n : Int) : Decidable (hasF p n) := by unfold hasF; infer_instance
def picksF (k : Ky3) (port : Int) : Prop := port ≠ k.from_ ∧ canF k.may port
instance (k : Ky3) (port : Int) : Decidable (picksF k port) := by unfold picksF; infer_instance
/-- Does a header stay that a sender sends there? -/
def stayF (p : PlN) (k : Ky3) (port : Int) : Prop := hasF p port ∧ picksF k port
instance (p : PlN) (k : Ky3) (port : Int) : Decidable (stayF p k port) := by unfold stayF; infer_instance
end Go.Proofs.YtmhahajadgkolaaGreatDoor
/- stage.Plan.Goes where each policy makes one header or none. -/
namespace Go.Proofs.YtmhahajadgkolaaGreatDoor
open Go.RowKit

end Go.Proofs.YtmhahajadgkolaaGreatDoor
/- stage: what a plan that was made of wishes makes of a header; the document's example. -/
namespace Go.Proofs.YtmhahajadgkolaaGreatDoor
open Go.RowKit

structure PlnR (q : PlN) (Ps : List (Nd × Nd)) : Prop where
  outs : q.outs.map er = Ps.map fun x => er x.1
  ins : q.ins.map er = Ps.map fun x => er x.2
  macs : q.macs = (List.range Ps.length).map fun i : Nat => macN (i : Int)
def stayN (n : Nat) (k : Ky3) (port : Int) : Prop := (0 ≤ port ∧ port < n) ∧ picksF k port
instance (n : Nat) (k : Ky3) (port : Int) : Decidable (stayN n k port) := by unfold stayN; infer_instance
end Go.Proofs.YtmhahajadgkolaaGreatDoor
/- stage: the document's example. -/
namespace Go.Proofs.YtmhahajadgkolaaGreatDoor
open Go.RowKit

def hX (d : Int) : Hd := { Hd.zero with ty := 2048, dp := d }
abbrev hZ : Hd := { hX 81 with port := 1 }
end Go.Proofs.YtmhahajadgkolaaGreatDoor
/- stage: fine wishes; Check; codes of trees that lie elsewhere. -/
namespace Go.Proofs.YtmhahajadgkolaaGreatDoor
open Go.RowKit

mutual
theorem weighT_er : ∀ (t u : Nd), er u = er t → weighT u = weighT t
  | .mk k f v m a c kids, u, he => by
    rw [er_eq u, er] at he
    injection he with e1 e2 e3 e4 e5
    have e6 : erKs u.kids = erKs kids := by rw [← e5, erKs_map]
    have h1 := weighKs_er kids u.kids e6
    rw [weighKs_map, weighKs_map] at h1
    have h2 : u.kids.length = kids.length := by
      have := congrArg List.length e6
      rwa [erKs_map, erKs_map, List.length_map, List.length_map] at this
    rw [weighT_eq u, weighT_eq (.mk k f v m a c kids), e1, h1, h2]
    rfl
theorem weighKs_er : ∀ (ts us : List Nd), erKs us = erKs ts → weighKs us = weighKs ts
  | [], us, he => by
    rw [erKs, erKs_map] at he
    rw [List.map_eq_nil_iff.1 he]
  | t :: ts, us, he => by
    match us with
    | [] => rw [erKs, erKs] at he; cases he
    | u :: us =>
      rw [erKs, erKs] at he
      injection he with e1 e2
      rw [weighKs, weighKs, weighT_er t u e1, weighKs_er ts us e2]
end
theorem codeC_er {t u : Nd} (h : er u = er t) (hc : codeC t = 0) : codeC u = 0 := by
  have hw := code_walk hc
  have hu : (walkT u 1 false 0).1 = 0 := by
    rw [walk_erD t u 16 1 false 0 (by rw [h, erD_er t 16 1 false 0 hw (by omega)]) (by omega)]
    exact hw
  unfold codeC at hc ⊢
  rw [if_neg (fun k => k hw)] at hc
  rw [if_neg (fun k => k hu), weighT_er t u h]
  exact hc
theorem lt_er {t u : Nd} (h : er u = er t) (hc : codeC t = 0) (hl : Lt t) : Lt u := by
  have hw := code_walk hc
  unfold codeC at hc
  rw [if_neg (fun k => k hw)] at hc
  intro _ _ _
  rw [weighT_er t u h]
  refine hl hw ?_ ?_
  · by_cases k : (weighT t).2 > 64
    · rw [if_pos k] at hc; cases hc
    · omega
  · by_cases k : (weighT t).2 > 64
    · rw [if_pos k] at hc; cases hc
    · rw [if_neg k] at hc
      by_cases k2 : (weighT t).1 > 4096
      · rw [if_pos k2] at hc; cases hc
      · omega
end Go.Proofs.YtmhahajadgkolaaGreatDoor
/- sdx: SdxWants: Policy on an exchange with nobody; Wants. -/
namespace Go.Proofs.YtmhahajadgkolaaGreatDoor
open Go.RowKit

def polC (a b : Nd) : Int := if codeC a ≠ 0 then codeC a else codeC b
theorem ndsL_enc : ∀ ts : List Nd, ndsL ts = encL ndL ts
  | [] => rfl
  | t :: ts => by
    show ndL t ++ ndsL ts = ndL t ++ encL ndL ts
    rw [ndsL_enc ts]
theorem ndL_len (t : Nd) : (ndL t).length = 5 := rfl
theorem errs_set {α : Type} {f : α → Int} {u : α} : ∀ (ts : List α) (k : Nat), (∀ t ∈ ts, f t = 0) → k < ts.length → errs f (ts.set k u) = f u
  | [], _, _, h => absurd h (Nat.not_lt_zero _)
  | t :: ts, 0, h, _ => by
    show (if f u ≠ 0 then f u else errs f ts) = f u
    split
    · rfl
    · rename_i hu
      rw [Decidable.of_not_not hu]
      exact errs_zero.2 fun x hx => h x (List.mem_cons_of_mem _ hx)
  | t :: ts, k + 1, h, hk => by
    show (if f t ≠ 0 then f t else errs f (ts.set k u)) = f u
    rw [if_neg (by rw [h t (List.mem_cons_self ..)]; decide)]
    exact errs_set ts k (fun x hx => h x (List.mem_cons_of_mem _ hx)) (by rw [List.length_cons] at hk; omega)
theorem Vec.splitN {ad : Option Addr} {c : Nat} {ts : List Nd} {E : List Ent} (hV : Vec 5 ad ts.length c (ndsL ts) E) (h : ts ≠ []) : ∃ g R, ad = some ⟨g, 0, none⟩ ∧ E = [.row g (ndsL ts ++ R)] ∧ (ndsL ts ++ R).length = c * 5 ∧ ts.length ≤ c := by
  rw [ndsL_enc] at hV
  obtain ⟨g, R, h1, h2, h3, h4⟩ := Vec.split (enc := ndL) hV h
  exact ⟨g, R, h1, by rw [ndsL_enc]; exact h2, by rw [ndsL_enc]; exact h3, h4⟩
theorem nds_set (ts : List Nd) (k : Nat) (u : Nd) (R : List Value) (h : k < ts.length) : splice (ndsL ts ++ R) (0 + k * 5) (ndL u) = ndsL (ts.set k u) ++ R := by
  rw [Nat.zero_add, ndsL_enc, ndsL_enc]
  exact encL_set ndL_len ts k u R h
theorem set_ids {ts : List Nd} {n : Nat} (h : ts.map er = (idsN n).map er) : (∀ t ∈ ts, codeC t = 0) ∧ (∀ t ∈ ts, Lt t) ∧ ts.length = n := by
  have hl : ts.length = n := by
    have := congrArg List.length h
    rwa [List.length_map, List.length_map, List.length_replicate] at this
  have he : ∀ t ∈ ts, er t = er idN := fun t ht => by
    have h1 : er t ∈ (idsN n).map er := by rw [← h]; exact List.mem_map_of_mem ht
    obtain ⟨u, hu, hue⟩ := List.mem_map.1 h1
    rw [← hue, List.eq_of_mem_replicate hu]
  exact ⟨fun t ht => codeC_er (he t ht) id_code', fun t ht => lt_er (he t ht) id_code' id_lt', hl⟩
theorem set_map {ts : List Nd} {n k : Nat} {u : Nd} (h : ts.map er = (idsN n).map er) : (ts.set k u).map er = ((idsN n).set k u).map er := by
  rw [List.map_set, List.map_set, h]
structure PcS where
  oa : Option Addr
  oc : Nat
  Eo : List Ent
  ia : Option Addr
  ic : Nat
  Ei : List Ent
  g : Nat
set_option maxRecDepth 8000 in
set_option maxHeartbeats 4000000 in
theorem Pol_c (w0 w : World) (L : List Ent) (x : SxN) (hx : SxIn x) (hS0 : St (fun _ => False) w0 w (x.L L)) (hR : ∀ w2, (∀ e ∈ L, e.holds w2) → SxRd w2 x ∧ x.p.At w2) (hpi : x.p.In) (ho : x.p.outs.map er = (idsN x.n).map er) (hi : x.p.ins.map er = (idsN x.n).map er) (hml : x.p.macs.length = x.n)
    (k : Nat) (hk : k < x.n) (a b : Nd) (iA : a.In) (iB : b.In) (hA : a.At w0) (hB : b.At w0) (hG : GW w0) (lA : Lt a) (lB : Lt b) :
    Calls Tryz.prog 12 #[.pointer (some ⟨x.gx, 0, none⟩), .int .i64 k, ndV a, ndV b] w fun e w' => ∃ (x' : SxN) (M : List Ent), e = .returned (.int .i64 (polC a b)) ∧ x'.gx = x.gx ∧ SxIn x' ∧ x'.n = x.n ∧ (polC a b = 0 → x'.p.outs.map er = ((idsN x.n).set k a).map er ∧ x'.p.ins.map er = ((idsN x.n).set k b).map er) ∧ (polC a b ≠ 0 → x'.p.outs.map er = (idsN x.n).map er ∧ x'.p.ins.map er = (idsN x.n).map er) ∧ x'.p.In ∧ (∀ w2, (∀ e ∈ M ++ L, e.holds w2) → SxRd w2 x' ∧ x'.p.At w2) ∧ St (fun _ => False) w0 w' (x'.L (M ++ L)) := by
  have hn := hx.n
  obtain ⟨co, lo, hol⟩ := set_ids ho
  obtain ⟨ci, li, hil⟩ := set_ids hi
  obtain ⟨f1, f2, f3⟩ := hpi.few
  refine enter Tryz.func12 rfl Tryz.ntmps12 rfl hS0 ?_
  refine WC.seq <| WC.region <| WL.box rfl rfl rfl (.none rfl) rfl rfl <| ?_
  intro g6 hg6
  refine WL.box rfl rfl rfl (.none rfl) rfl rfl ?_
  intro g7 hg7
  refine WL.as (L' := .row g7 (ndL b) :: .row g6 (ndL a) :: .row x.gx x.cells :: .row x.gsp (mapsL x.bs) :: .row x.gT [.int .i64 x.most, .slice x.ta 0 x.tc] :: L) rfl <| WL.v (v_assign rfl rfl) rfl <| WL.nt <| WC.seq <| WC.seq <| WC.region <| WL.v (v_move rfl rfl) rfl <| WL.v (v_move rfl rfl) rfl <| WL.call rfl rfl ck_43 (.none rfl) rfl rfl <| ?_
  intro w hS
  refine Calls.then (has0_c w x k (hS.row (g := x.gx))) hS ?_
  rw [dT ⟨Int.natCast_nonneg k, Int.ofNat_lt.2 hk⟩]
  refine WL.v (v_not rfl rfl rfl) rfl <| WL.nt <| WC.cond_f rfl <| WC.skip <| WE.then_n <| ?_
  refine WC.cut (fun s : PcS => [(9, .pointer (some ⟨s.g, 0, none⟩)), (0, .pointer (some ⟨x.gx, 0, none⟩)), (1, .int .i64 k), (6, .pointer (some ⟨g6, 0, none⟩)), (7, .pointer (some ⟨g7, 0, none⟩))]) (fun s => .row s.g [.slice s.oa x.p.outs.length s.oc, .slice s.ia x.p.ins.length s.ic, .slice x.p.ma x.p.macs.length x.p.mc, .slice none 0 0, .slice none 0 0, .slice none 0 0] :: (s.Eo ++ (s.Ei ++ (.row g7 (ndL b) :: .row g6 (ndL a) :: .row x.gx x.cells :: .row x.gsp (mapsL x.bs) :: .row x.gT [.int .i64 x.most, .slice x.ta 0 x.tc] :: L)))) (fun s => Vec 5 s.oa x.p.outs.length s.oc (ndsL x.p.outs) s.Eo ∧ Vec 5 s.ia x.p.ins.length s.ic (ndsL x.p.ins) s.Ei) ?_ ?_
  ·
   refine WC.heldT 19 ([.row x.gx x.cells]) mixed ?_
   refine WRT.first (g := 5) [0, 1, 2, 3, 4, 6, 7, 8, 9, 10, 12, 13, 14, 15, 16] (by kernel_rfl) (by kernel_rfl) (by kernel_rfl) (fun w hS => hS.sub (by repeat (first | exact List.Sublist.refl _ | exact List.nil_sublist _ | refine List.Sublist.cons_cons _ ?_ | refine List.Sublist.cons _ ?_ | refine List.sublist_append_of_sublist_right ?_))) ?_
   refine WH.val (v_move rfl rfl) (.none rfl) rfl rfl <| WH.val (v_nilCheck rfl rfl) (.none rfl) rfl rfl <| WH.val (v_fieldAddr0 rfl rfl fld_79_3) (.none rfl) rfl rfl <| WH.val (v_fieldAddr rfl rfl fld_74_0) (.none rfl) rfl rfl <| WH.val (v_load1 rfl rfl one_24 (cellAt (v := .slice x.p.oa x.p.outs.length x.p.oc) rfl)) (.none rfl) rfl rfl <| WH.val (v_move rfl rfl) (.none rfl) rfl rfl <| WH.val (v_nilCheck rfl rfl) (.none rfl) rfl rfl <| WH.val (v_fieldAddr0 rfl rfl fld_79_3) (.none rfl) rfl rfl <| WH.val (v_fieldAddr rfl rfl fld_74_1) (.none rfl) rfl rfl <| WH.val (v_load1 rfl rfl one_24 (cellAt (v := .slice x.p.ia x.p.ins.length x.p.ic) rfl)) (.none rfl) rfl rfl <| WH.val (v_move rfl rfl) (.none rfl) rfl rfl <| WH.val (v_nilCheck rfl rfl) (.none rfl) rfl rfl <| WH.val (v_fieldAddr0 rfl rfl fld_79_3) (.none rfl) rfl rfl <| WH.val (v_fieldAddr rfl rfl fld_74_2) (.none rfl) rfl rfl <| ?_
   refine WH.val (v_load1 rfl rfl one_49 (cellAt (v := .slice x.p.ma x.p.macs.length x.p.mc) rfl)) (.none rfl) rfl rfl <| WH.nilT <| ?_
   refine WRT.each (g := 4) [5, 18] (by kernel_rfl) (by decide) ?_
   refine ⟨?_, ?_⟩
   ·
    refine WL.call rfl rfl ck_44 (.none rfl) rfl rfl ?_
    intro w1 hS
    refine (CloneNds_c w1 x.p.oa x.p.oc x.p.outs (hR w1 fun e he => hS.holds e (by simp [he])).2.outs (by omega)).mono ?_
    rintro e w' ⟨oa, oc, Eo, rfl, hVo, hS'⟩
    refine ⟨_, _, rfl, hS.join hS', ?_⟩
    refine WL.nilT (fun w hS => hS.sub (by repeat (first | exact List.Sublist.refl _ | exact List.nil_sublist _ | refine List.Sublist.cons_cons _ ?_ | refine List.Sublist.cons _ ?_ | refine List.sublist_append_of_sublist_right ?_))) ?_
    refine WRT.each (g := 3) [11, 18] (by kernel_rfl) (by decide) ?_
    refine ⟨?_, ?_⟩
    ·
     refine WL.call rfl rfl ck_44 (.none rfl) rfl rfl ?_
     intro w1 hS
     refine (CloneNds_c w1 x.p.ia x.p.ic x.p.ins (hR w1 fun e he => hS.holds e (by simp [he])).2.ins (by omega)).mono ?_
     rintro e w' ⟨ia, ic, Ei, rfl, hVi, hS'⟩
     refine ⟨_, _, rfl, hS.join hS', ?_⟩
     refine WL.nilT (fun w hS => hS.sub (by repeat (first | exact List.Sublist.refl _ | exact List.nil_sublist _ | refine List.Sublist.cons_cons _ ?_ | refine List.Sublist.cons _ ?_ | refine List.sublist_append_of_sublist_right ?_))) ?_
     refine WRT.first (g := 2) [17] (by kernel_rfl) (by kernel_rfl) (by kernel_rfl) (fun w hS => hS.sub (by repeat (first | exact List.Sublist.refl _ | exact List.nil_sublist _ | refine List.Sublist.cons_cons _ ?_ | refine List.Sublist.cons _ ?_ | refine List.sublist_append_of_sublist_right ?_))) ?_
     refine WH.val (v_build rfl rfl zero_74 plc_74 rfl) (.none rfl) rfl rfl <| WH.nilT <| ?_
     refine WRT.one (g := 1) 18 (by kernel_rfl) ?_
     refine WL.alloc rfl zero_74 (.none rfl) rfl rfl ?_
     intro g9 hg9
     refine WL.nilT (fun w hS => hS.sub (by repeat (first | exact List.Sublist.refl _ | exact List.nil_sublist _ | refine List.Sublist.cons_cons _ ?_ | refine List.Sublist.cons _ ?_ | refine List.sublist_append_of_sublist_right ?_))) ?_
     refine WRT.one (g := 0) 19 (by kernel_rfl) ?_
     refine WL.storeW rfl rfl rfl rfl many_74 rfl rfl (.none rfl) rfl <| WL.rowTo (g := g9) (cs' := [.slice oa x.p.outs.length oc, .slice ia x.p.ins.length ic, .slice x.p.ma x.p.macs.length x.p.mc, .slice none 0 0, .slice none 0 0, .slice none 0 0]) rfl <| WL.nilT2 rfl <| ?_
     refine WRT.done (by kernel_rfl) ?_
     exact WE.to (L' := .row g9 [.slice oa x.p.outs.length oc, .slice ia x.p.ins.length ic, .slice x.p.ma x.p.macs.length x.p.mc, .slice none 0 0, .slice none 0 0, .slice none 0 0] :: (Eo ++ (Ei ++ (.row g7 (ndL b) :: .row g6 (ndL a) :: .row x.gx x.cells :: .row x.gsp (mapsL x.bs) :: .row x.gT [.int .i64 x.most, .slice x.ta 0 x.tc] :: L)))) (fun w hS => hS.permX) (WE.mid ⟨oa, oc, Eo, ia, ic, Ei, g9⟩ ⟨hVo, hVi⟩ (.cons rfl (.cons rfl (.cons rfl (.cons rfl (.cons rfl .nil))))) (.refl _))
    ·
     refine WL.alloc rfl zero_74 (.none rfl) rfl rfl ?_
     intro g9 hg9
     refine WL.nilT (fun w hS => hS.sub (by repeat (first | exact List.Sublist.refl _ | exact List.nil_sublist _ | refine List.Sublist.cons_cons _ ?_ | refine List.Sublist.cons _ ?_ | refine List.sublist_append_of_sublist_right ?_))) ?_
     refine WRT.one (g := 2) 11 (by kernel_rfl) ?_
     refine WL.call rfl rfl ck_44 (.none rfl) rfl rfl ?_
     intro w1 hS
     refine (CloneNds_c w1 x.p.ia x.p.ic x.p.ins (hR w1 fun e he => hS.holds e (by simp [he])).2.ins (by omega)).mono ?_
     rintro e w' ⟨ia, ic, Ei, rfl, hVi, hS'⟩
     refine ⟨_, _, rfl, hS.join hS', ?_⟩
     refine WL.nilT (fun w hS => hS.sub (by repeat (first | exact List.Sublist.refl _ | exact List.nil_sublist _ | refine List.Sublist.cons_cons _ ?_ | refine List.Sublist.cons _ ?_ | refine List.sublist_append_of_sublist_right ?_))) ?_
     refine WRT.first (g := 1) [17] (by kernel_rfl) (by kernel_rfl) (by kernel_rfl) (fun w hS => hS.sub (by repeat (first | exact List.Sublist.refl _ | exact List.nil_sublist _ | refine List.Sublist.cons_cons _ ?_ | refine List.Sublist.cons _ ?_ | refine List.sublist_append_of_sublist_right ?_))) ?_
     refine WH.val (v_build rfl rfl zero_74 plc_74 rfl) (.none rfl) rfl rfl <| WH.nilT <| ?_
     refine WRT.one (g := 0) 19 (by kernel_rfl) ?_
     refine WL.storeW rfl rfl rfl rfl many_74 rfl rfl (.none rfl) rfl <| WL.rowTo (g := g9) (cs' := [.slice oa x.p.outs.length oc, .slice ia x.p.ins.length ic, .slice x.p.ma x.p.macs.length x.p.mc, .slice none 0 0, .slice none 0 0, .slice none 0 0]) rfl <| WL.nilT2 rfl <| ?_
     refine WRT.done (by kernel_rfl) ?_
     exact WE.to (L' := .row g9 [.slice oa x.p.outs.length oc, .slice ia x.p.ins.length ic, .slice x.p.ma x.p.macs.length x.p.mc, .slice none 0 0, .slice none 0 0, .slice none 0 0] :: (Eo ++ (Ei ++ (.row g7 (ndL b) :: .row g6 (ndL a) :: .row x.gx x.cells :: .row x.gsp (mapsL x.bs) :: .row x.gT [.int .i64 x.most, .slice x.ta 0 x.tc] :: L)))) (fun w hS => hS.permX) (WE.mid ⟨oa, oc, Eo, ia, ic, Ei, g9⟩ ⟨hVo, hVi⟩ (.cons rfl (.cons rfl (.cons rfl (.cons rfl (.cons rfl .nil))))) (.refl _))
   ·
    refine WL.alloc rfl zero_74 (.none rfl) rfl rfl ?_
    intro g9 hg9
    refine WL.nilT (fun w hS => hS.sub (by repeat (first | exact List.Sublist.refl _ | exact List.nil_sublist _ | refine List.Sublist.cons_cons _ ?_ | refine List.Sublist.cons _ ?_ | refine List.sublist_append_of_sublist_right ?_))) ?_
    refine WRT.one (g := 3) 5 (by kernel_rfl) ?_
    refine WL.call rfl rfl ck_44 (.none rfl) rfl rfl ?_
    intro w1 hS
    refine (CloneNds_c w1 x.p.oa x.p.oc x.p.outs (hR w1 fun e he => hS.holds e (by simp [he])).2.outs (by omega)).mono ?_
    rintro e w' ⟨oa, oc, Eo, rfl, hVo, hS'⟩
    refine ⟨_, _, rfl, hS.join hS', ?_⟩
    refine WL.nilT (fun w hS => hS.sub (by repeat (first | exact List.Sublist.refl _ | exact List.nil_sublist _ | refine List.Sublist.cons_cons _ ?_ | refine List.Sublist.cons _ ?_ | refine List.sublist_append_of_sublist_right ?_))) ?_
    refine WRT.one (g := 2) 11 (by kernel_rfl) ?_
    refine WL.call rfl rfl ck_44 (.none rfl) rfl rfl ?_
    intro w1 hS
    refine (CloneNds_c w1 x.p.ia x.p.ic x.p.ins (hR w1 fun e he => hS.holds e (by simp [he])).2.ins (by omega)).mono ?_
    rintro e w' ⟨ia, ic, Ei, rfl, hVi, hS'⟩
    refine ⟨_, _, rfl, hS.join hS', ?_⟩
    refine WL.nilT (fun w hS => hS.sub (by repeat (first | exact List.Sublist.refl _ | exact List.nil_sublist _ | refine List.Sublist.cons_cons _ ?_ | refine List.Sublist.cons _ ?_ | refine List.sublist_append_of_sublist_right ?_))) ?_
    refine WRT.first (g := 1) [17] (by kernel_rfl) (by kernel_rfl) (by kernel_rfl) (fun w hS => hS.sub (by repeat (first | exact List.Sublist.refl _ | exact List.nil_sublist _ | refine List.Sublist.cons_cons _ ?_ | refine List.Sublist.cons _ ?_ | refine List.sublist_append_of_sublist_right ?_))) ?_
    refine WH.val (v_build rfl rfl zero_74 plc_74 rfl) (.none rfl) rfl rfl <| WH.nilT <| ?_
    refine WRT.one (g := 0) 19 (by kernel_rfl) ?_
    refine WL.storeW rfl rfl rfl rfl many_74 rfl rfl (.none rfl) rfl <| WL.rowTo (g := g9) (cs' := [.slice oa x.p.outs.length oc, .slice ia x.p.ins.length ic, .slice x.p.ma x.p.macs.length x.p.mc, .slice none 0 0, .slice none 0 0, .slice none 0 0]) rfl <| WL.nilT2 rfl <| ?_
    refine WRT.done (by kernel_rfl) ?_
    exact WE.to (L' := .row g9 [.slice oa x.p.outs.length oc, .slice ia x.p.ins.length ic, .slice x.p.ma x.p.macs.length x.p.mc, .slice none 0 0, .slice none 0 0, .slice none 0 0] :: (Eo ++ (Ei ++ (.row g7 (ndL b) :: .row g6 (ndL a) :: .row x.gx x.cells :: .row x.gsp (mapsL x.bs) :: .row x.gT [.int .i64 x.most, .slice x.ta 0 x.tc] :: L)))) (fun w hS => hS.permX) (WE.mid ⟨oa, oc, Eo, ia, ic, Ei, g9⟩ ⟨hVo, hVi⟩ (.cons rfl (.cons rfl (.cons rfl (.cons rfl (.cons rfl .nil))))) (.refl _))
  ·
   rintro ⟨oa, oc, Eo, ia, ic, Ei, g9⟩ ⟨hVo, hVi⟩
   dsimp only at hVo hVi
   dsimp only
   obtain ⟨go, Ro, rfl, rfl, hRo, hRo2⟩ := Vec.splitN hVo (fun h => by rw [h] at hol; simp at hol; omega)
   obtain ⟨gi, Ri, rfl, rfl, hRi, hRi2⟩ := Vec.splitN hVi (fun h => by rw [h] at hil; simp at hil; omega)
   refine WC.to (L' := .row g9 [.slice (some ⟨go, 0, none⟩) x.p.outs.length oc, .slice (some ⟨gi, 0, none⟩) x.p.ins.length ic, .slice x.p.ma x.p.macs.length x.p.mc, .slice none 0 0, .slice none 0 0, .slice none 0 0] :: .row go (ndsL x.p.outs ++ Ro) :: .row gi (ndsL x.p.ins ++ Ri) :: .row g7 (ndL b) :: .row g6 (ndL a) :: .row x.gx x.cells :: .row x.gsp (mapsL x.bs) :: .row x.gT [.int .i64 x.most, .slice x.ta 0 x.tc] :: L) (fun w hS => hS) <| WC.seq <| WC.held ([.row g9 [.slice (some ⟨go, 0, none⟩) x.p.outs.length oc, .slice (some ⟨gi, 0, none⟩) x.p.ins.length ic, .slice x.p.ma x.p.macs.length x.p.mc, .slice none 0 0, .slice none 0 0, .slice none 0 0], .row g7 (ndL b), .row g6 (ndL a)]) mixed <| ?_
   refine WRH.first (g := 3) [0, 1, 2, 3, 4, 5, 6, 7, 8] (by kernel_rfl) (by kernel_rfl) (fun w hS => hS.sub (by repeat (first | exact List.Sublist.refl _ | exact List.nil_sublist _ | refine List.Sublist.cons_cons _ ?_ | refine List.Sublist.cons _ ?_ | refine List.sublist_append_of_sublist_right ?_))) ?_
   refine WH.val (v_fieldAddr0 rfl rfl fld_74_0) (.none rfl) rfl rfl <| WH.val (v_load1 rfl rfl one_24 (cellAt (v := .slice (some ⟨go, 0, none⟩) x.p.outs.length oc) rfl)) (.none rfl) rfl rfl <| WH.val (v_move rfl rfl) (.none rfl) rfl rfl <| WH.val (v_fieldAddr0 rfl rfl fld_74_1) (.none rfl) rfl rfl <| WH.val (v_load1 rfl rfl one_24 (cellAt (v := .slice (some ⟨gi, 0, none⟩) x.p.ins.length ic) rfl)) (.none rfl) rfl rfl <| WH.val (v_move rfl rfl) (.none rfl) rfl rfl <| WH.val (v_loadN rfl rfl many_26 rfl (segAt (g := g6) (m := 5) (new := ndL a) rfl)) (.none rfl) rfl rfl <| WH.val (v_loadN rfl rfl many_26 rfl (segAt (g := g7) (m := 5) (new := ndL b) rfl)) (.none rfl) rfl rfl <| ?_
   refine WH.val (v_indexAddr (lo := k) rfl rfl rfl Tryz.underlying24 sz_26 (by omega) (by omega)) (.none rfl) rfl rfl ?_
   refine WH.nil ?_
   refine WRH.one (g := 2) 9 (by kernel_rfl) ?_
   refine WL.storeN rfl rfl rfl rfl many_26 rfl (by rw [hRo]; show 0 + k * 5 + 5 ≤ _; omega) (.none rfl) rfl ?_
   refine WL.rowTo (g := go) (cs' := ndsL (x.p.outs.set k a) ++ Ro) (nds_set _ _ _ _ (by omega)) ?_
   refine WL.nilH (fun w hS => hS.sub (by repeat (first | exact List.Sublist.refl _ | exact List.nil_sublist _ | refine List.Sublist.cons_cons _ ?_ | refine List.Sublist.cons _ ?_ | refine List.sublist_append_of_sublist_right ?_))) ?_
   refine WRH.first (g := 1) [10] (by kernel_rfl) (by kernel_rfl) (fun w hS => hS.sub (by repeat (first | exact List.Sublist.refl _ | exact List.nil_sublist _ | refine List.Sublist.cons_cons _ ?_ | refine List.Sublist.cons _ ?_ | refine List.sublist_append_of_sublist_right ?_))) ?_
   refine WH.val (v_indexAddr (lo := k) rfl rfl rfl Tryz.underlying24 sz_26 (by omega) (by omega)) (.none rfl) rfl rfl ?_
   refine WH.nil ?_
   refine WRH.one (g := 0) 11 (by kernel_rfl) ?_
   refine WL.storeN rfl rfl rfl rfl many_26 rfl (by rw [hRi]; show 0 + k * 5 + 5 ≤ _; omega) (.none rfl) rfl ?_
   refine WL.rowTo (g := gi) (cs' := ndsL (x.p.ins.set k b) ++ Ri) (nds_set _ _ _ _ (by omega)) ?_
   refine WL.nilH (fun w hS => hS.sub (by repeat (first | exact List.Sublist.refl _ | exact List.nil_sublist _ | refine List.Sublist.cons_cons _ ?_ | refine List.Sublist.cons _ ?_ | refine List.sublist_append_of_sublist_right ?_))) ?_
   refine WRH.done (by kernel_rfl) ?_
   refine WE.then_n <| WC.seq <| WC.region <| ?_
   obtain ⟨p1, hp1⟩ : ∃ p : PlN, p = ⟨some ⟨go, 0, none⟩, oc, x.p.outs.set k a, some ⟨gi, 0, none⟩, ic, x.p.ins.set k b, x.p.ma, x.p.mc, x.p.macs, none, 0, 0, none, 0, 0, none, 0, 0⟩ := ⟨_, rfl⟩
   have hpc : p1.cells = [.slice (some ⟨go, 0, none⟩) x.p.outs.length oc, .slice (some ⟨gi, 0, none⟩) x.p.ins.length ic, .slice x.p.ma x.p.macs.length x.p.mc, .slice none 0 0, .slice none 0 0, .slice none 0 0] := (by rw [hp1]; unfold PlN.cells; dsimp only; rw [List.length_set, List.length_set])
   refine WL.rowTo (g := g9) (cs' := p1.cells) hpc.symm <| WL.v (v_loadN rfl rfl many_74 rfl (segAt (g := g9) (m := 6) (new := p1.cells) rfl)) rfl <| WL.call rfl rfl ck_38 (.none rfl) rfl rfl <| ?_
   intro w1 hS
   have hRw := (hR w1 fun e he => hS.holds e (by simp [he])).2
   have tk : ∀ (ts : List Nd) (R : List Value), (ndsL ts ++ R).take (ts.length * 5) = ndsL ts := fun ts R => List.take_left' (ndsL_len ts)
   have hAt : p1.At w1 := (by
     rw [hp1]
     exact ⟨Vec.kidsAt (Vec.row (tk _ Ro) (by rw [List.length_append, ndsL_len, List.length_set, ← hRo, List.length_append, ndsL_len]) (by rw [List.length_set]; exact hRo2)) (fun e he => by rw [List.mem_singleton.1 he]; exact hS.holds _ (.tail _ (.head _))) (fun u hu => by
         rcases List.mem_or_eq_of_mem_set hu with h | rfl
         · obtain ⟨i, hi, e⟩ := List.getElem_of_mem h
           exact (hRw.outs.get _ 0 i u (by rw [List.getElem?_eq_getElem hi, e])).2
         · exact hA.st (fun _ h => h) hS), Vec.kidsAt (Vec.row (tk _ Ri) (by rw [List.length_append, ndsL_len, List.length_set, ← hRi, List.length_append, ndsL_len]) (by rw [List.length_set]; exact hRi2)) (fun e he => by rw [List.mem_singleton.1 he]; exact hS.holds _ (.tail _ (.tail _ (.head _)))) (fun u hu => by
         rcases List.mem_or_eq_of_mem_set hu with h | rfl
         · obtain ⟨i, hi, e⟩ := List.getElem_of_mem h
           exact (hRw.ins.get _ 0 i u (by rw [List.getElem?_eq_getElem hi, e])).2
         · exact hB.st (fun _ h => h) hS), hRw.macs⟩)
   have hIn : p1.In := (by
     rw [hp1]
     refine ⟨KidsIn.of' fun u hu => ?_, KidsIn.of' fun u hu => ?_, hpi.macs, by dsimp only; rw [List.length_set, List.length_set]; omega⟩
     · rcases List.mem_or_eq_of_mem_set hu with h | rfl
       · obtain ⟨i, hi, e⟩ := List.getElem_of_mem h
         exact hpi.outs.get _ i u (by rw [List.getElem?_eq_getElem hi, e])
       · exact iA
     · rcases List.mem_or_eq_of_mem_set hu with h | rfl
       · obtain ⟨i, hi, e⟩ := List.getElem_of_mem h
         exact hpi.ins.get _ i u (by rw [List.getElem?_eq_getElem hi, e])
       · exact iB)
   have hF : ¬ makeF p1 := (by
     rw [hp1]
     unfold makeF
     dsimp only
     rw [List.length_set, List.length_set]
     omega)
   have hmk : makeE p1 = polC a b := (by
     unfold makeE polC
     rw [if_neg hF, hp1]
     dsimp only
     rw [errs_set _ k co (by omega), errs_set _ k ci (by omega)])
   refine (Make_c w1 p1 hAt hIn (hG.keep (fun h => h) hS) (by
     rw [hp1]
     intro t ht
     rcases List.mem_or_eq_of_mem_set ht with h | rfl
     · exact lo t h
     · exact lA) (by
     rw [hp1]
     intro t ht
     rcases List.mem_or_eq_of_mem_set ht with h | rfl
     · exact li t h
     · exact lB)).mono ?_
   rw [hmk]
   rintro e w' ⟨q0, MQ, rfl, hq1, _, hqA, hqI, hS'⟩
   rw [hp1] at hq1
   dsimp only at hq1
   refine ⟨_, _, rfl, hS.join hS', ?_⟩
   refine WL.v (v_move rfl rfl) rfl <| WL.v (v_extract rfl rfl rfl) rfl <| WL.v (v_extract rfl rfl rfl) rfl <| ?_
   refine WL.storeN rfl rfl rfl rfl many_74 rfl (by first | exact Nat.le_of_ble_eq_true rfl | simp) (.none rfl) rfl ?_
   skip
   refine WL.as (L' := MQ ++ (.row g9 (splice p1.cells 0 q0.cells) :: .row go (ndsL (x.p.outs.set k a) ++ Ro) :: .row gi (ndsL (x.p.ins.set k b) ++ Ri) :: .row g7 (ndL b) :: .row g6 (ndL a) :: .row x.gx x.cells :: .row x.gsp (mapsL x.bs) :: .row x.gT [.int .i64 x.most, .slice x.ta 0 x.tc] :: L)) rfl <| WL.rowTo (g := g9) (cs' := q0.cells) (splice_all rfl) <| WL.v (v_assign rfl rfl) rfl <| WL.nt <| WC.seq <| WC.seq <| WC.region <| WL.v (v_move rfl rfl) rfl <| ?_
   refine WL.test (v_neq rfl rfl rfl) (.none rfl) rfl rfl (fun h50 => ?_) (fun h50 => ?_)
   ·
    refine WL.nt <| WC.cond_t rfl <| WC.seq <| WC.region <| WL.v (v_move rfl rfl) rfl <| WL.v (v_assign rfl rfl) rfl <| WL.nt <| WC.ret <| WE.then_ret <| WE.ret1 (P := Tryz.prog) (.inl rfl) Tryz.results12 rfl <| ?_
    exact fun w' h => ⟨x, [], rfl, rfl, hx, rfl, fun k => absurd k h50, fun _ => ⟨ho, hi⟩, hpi, hR, St.dropX (L' := .row x.gx x.cells :: .row x.gsp (mapsL x.bs) :: .row x.gT [.int .i64 x.most, .slice x.ta 0 x.tc] :: L) (MQ ++ (.row g9 q0.cells :: .row go (ndsL (x.p.outs.set k a) ++ Ro) :: .row gi (ndsL (x.p.ins.set k b) ++ Ri) :: .row g7 (ndL b) :: [.row g6 (ndL a)])) h⟩
   ·
    refine WL.nt <| WC.cond_f rfl <| WC.skip <| WE.then_n <| WC.seq <| WC.seq <| WC.region <| WL.v (v_move rfl rfl) rfl <| WL.v (v_loadN rfl rfl many_74 rfl (segAt (g := g9) (m := 6) (new := q0.cells) rfl)) rfl <| WL.to (L' := .row x.gx x.cells :: .row x.gsp (mapsL x.bs) :: .row x.gT [.int .i64 x.most, .slice x.ta 0 x.tc] :: (MQ ++ (.row g9 q0.cells :: .row go (ndsL (x.p.outs.set k a) ++ Ro) :: .row gi (ndsL (x.p.ins.set k b) ++ Ri) :: .row g7 (ndL b) :: .row g6 (ndL a) :: L))) (fun w hS => hS.permX) <| WL.call rfl rfl ck_45 (.none rfl) rfl rfl <| ?_
    intro w1 hS
    refine (layAll0_c w0 w1 _ x hx q0 hS (fun w2 h => (hR w2 fun e he => h e (by simp [he])).1)).mono ?_
    rintro e w' ⟨bs, M, ta, tc, rfl, hbs, hM, hS'⟩
    refine ⟨_, _, rfl, hS', ?_⟩
    skip
    refine WL.as (L' := .row x.gx { x with bs := bs, ta := ta, tc := tc, fresh := 0 }.cells :: .row x.gsp (mapsL bs) :: .row x.gT [.int .i64 x.most, .slice ta 0 tc] :: (M ++ (MQ ++ (.row g9 q0.cells :: .row go (ndsL (x.p.outs.set k a) ++ Ro) :: .row gi (ndsL (x.p.ins.set k b) ++ Ri) :: .row g7 (ndL b) :: .row g6 (ndL a) :: L)))) rfl <| WL.v (v_assign rfl rfl) rfl <| WL.nt <| WC.seq <| WC.region <| WL.v (v_move rfl rfl) rfl <| ?_
    refine WL.v ((v_neq rfl rfl rfl).f (by omega)) rfl ?_
    refine WL.nt <| WC.cond_f rfl <| WC.skip <| WE.then_n <| WC.seq <| WC.region <| WL.v (v_move rfl rfl) rfl <| WL.v (v_loadN rfl rfl many_74 rfl (segAt (g := g9) (m := 6) (new := q0.cells) rfl)) rfl <| WL.v (v_nilCheck rfl rfl) rfl <| WL.v (v_fieldAddr0 rfl rfl fld_79_3) rfl <| ?_
    refine WL.storeN rfl rfl rfl rfl many_74 rfl (by first | exact Nat.le_of_ble_eq_true rfl | simp) (.none rfl) rfl ?_
    skip
    refine WL.as (L' := .row x.gx { x with p := q0, bs := bs, ta := ta, tc := tc, fresh := 0 }.cells :: .row x.gsp (mapsL bs) :: .row x.gT [.int .i64 x.most, .slice ta 0 tc] :: (M ++ (MQ ++ (.row g9 q0.cells :: .row go (ndsL (x.p.outs.set k a) ++ Ro) :: .row gi (ndsL (x.p.ins.set k b) ++ Ri) :: .row g7 (ndL b) :: .row g6 (ndL a) :: L)))) rfl <| WL.nt <| WC.seq <| WC.region <| WL.v (v_assign rfl rfl) rfl <| WL.nt <| WC.ret <| WE.ret1 (P := Tryz.prog) (.inl rfl) Tryz.results12 rfl <| ?_
    have hp0 : polC a b = 0 := Decidable.of_not_not h50
    obtain ⟨hq2, hq3, _⟩ := hq1 hp0
    rw [hp0]
    refine fun w' h => ⟨{ x with p := q0, bs := bs, ta := ta, tc := tc, fresh := 0 }, M ++ MQ, rfl, rfl, ⟨hx.n, hx.most, hbs⟩, rfl, fun _ => ⟨hq2.trans (set_map ho), hq3.trans (set_map hi)⟩, fun k => absurd rfl k, hqI, fun w2 h2 => ?_, ?_⟩
    · obtain ⟨r1, _⟩ := hR w2 fun e he => h2 e (by simp [he])
      exact ⟨⟨r1.sv, r1.tb, r1.pool, r1.held, r1.arp, fun b hb => (h2 (.obj b (.map #[] 0)) (by simp [hM b hb])).1⟩, hqA w2 fun e he => h2 e (by simp [he])⟩
    · show St _ _ _ (.row x.gx { x with p := q0, bs := bs, ta := ta, tc := tc, fresh := 0 }.cells :: .row x.gsp (mapsL bs) :: .row x.gT [.int .i64 x.most, .slice ta 0 tc] :: ((M ++ MQ) ++ L))
      exact St.dropX [.row g9 q0.cells, .row go (ndsL (x.p.outs.set k a) ++ Ro), .row gi (ndsL (x.p.ins.set k b) ++ Ri), .row g7 (ndL b), .row g6 (ndL a)] h
end Go.Proofs.YtmhahajadgkolaaGreatDoor
/- The document's example, run by the kernel. -/
namespace Go.Proofs.YtmhahajadgkolaaGreatDoor
open Go.RowKit

def wdL : List Value := [.int .i64 8, .int .i64 48, .int .i64 48, .int .i64 16, .int .i64 32, .int .i64 32, .int .i64 8, .int .i64 16, .int .i64 16]
/-- The widths of the head's parts. -/
def GWv (w : World) : Prop := ∀ i v, wdL[i]? = some v → w.cell? ⟨0, i, none⟩ = some v
noncomputable def E0 : Ev := ⟨1, [(0, 0)], EK⟩
def H0 : Hp := ⟨1, Tr.put hpD .e 0 (some (.row wdL none))⟩
theorem H0_get (k : Nat) : H0.get k = if k = 0 then some (.row wdL none) else none := by
  have h : H0 = (Hp.mk 1 .e).put 0 (some (.row wdL none)) := rfl
  rw [h]
  by_cases hk : k = 0
  · subst hk
    rw [Hp.get_put (by decide), if_pos rfl]
  · rw [Hp.get_put_ne (by decide) hk, if_neg hk]
    unfold Hp.get
    rw [Tr.get_e]
    cases Nat.blt k hpM <;> rfl
theorem sr0 {w : World} (hG : GWv w) : SR E0 w (fun k => if k = 0 then some (0, 0) else none) H0 [] := by
  refine ⟨by decide, fun k hk => if_neg (by have : H0.n = 1 := rfl; omega), fun g k hg => ?_, fun k o hk hb => ?_, fun j k b q r hj hk hbj hbk _ _ => ?_, fun k o hk hb => ?_⟩
  · replace hg : cond (Nat.beq 0 g) (some 0) none = some k := hg
    cases hb : Nat.beq 0 g
    · rw [hb] at hg; cases hg
    · rw [hb] at hg
      cases hg
      rw [← Nat.eq_of_beq_eq_true hb]
      exact ⟨0, rfl⟩
  · rw [H0_get, if_neg (by have : E0.base = 1 := rfl; omega)] at hk
    cases hk
  · obtain ⟨o, ho⟩ := hj
    rw [H0_get, if_neg (by have : E0.base = 1 := rfl; omega)] at ho
    cases ho
  · have : k = 0 := by have : E0.base = 1 := rfl; omega
    subst this
    rw [H0_get, if_pos rfl] at hk
    cases hk
    refine ⟨wdL, 0, 0, wdL, rfl, rfl, VRs.plain rfl, fun j v hj => ?_⟩
    rw [Nat.zero_add]
    exact hG j v hj
end Go.Proofs.YtmhahajadgkolaaGreatDoor
