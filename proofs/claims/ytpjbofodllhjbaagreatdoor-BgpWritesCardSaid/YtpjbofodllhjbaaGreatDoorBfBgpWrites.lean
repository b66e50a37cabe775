/- Texts joined: engine, contracts and laws, in the order in which they build. -/
import Derived.Test.YtpjbofodllhjbaaGreatDoorBeBgpWrites
/- The reference's attributes: lay, Right (printed by gen/wrb.py). -/
namespace Go.Proofs.YtpjbofodllhjbaaGreatDoor
open Go.RowKit

theorem numB_one (n : Int) : numB n 1 = [n % 256] := by
  show [n / 2 ^ (8 * 0) % 256] = _
  rw [Nat.mul_zero, Int.pow_zero, Int.ediv_one]
theorem RLay_c (w : World) (fl t : Int) (va : Option Addr) (vc : Nat) (vs : List Int) (hf : 0 ≤ fl ∧ fl ≤ 239) (ht : 0 ≤ t ∧ t ≤ 255) (hC : CellsAt w va (u8s vs)) (hn : vs.length ≤ 1000000) :
    Calls Tryz.prog 43 #[.int .i64 fl, .int .i64 t, .slice va vs.length vc] w fun e w' => ∃ ad c E, e = .returned (.slice ad (putE fl t vs).length c) ∧ BV ad c (putE fl t vs) E ∧ St (fun _ => False) w w' E := by
  refine enter Tryz.func43 rfl Tryz.ntmps43 rfl (St.start (fun _ => False) w) ?_
  refine WC.seq <| WC.region <| WL.v (v_assign rfl rfl) rfl <| WL.nt <| WC.seq <| WC.seq <| WC.region <| WL.v (v_move rfl rfl) rfl <| WL.v (v_len_slice rfl rfl Tryz.underlying37) rfl <| ?_
  refine WL.test (v_gtr rfl rfl rfl) (.none rfl) rfl rfl (fun h9 => ?_) (fun h9 => ?_)
  ·
   refine WL.nt <| WC.cond_t rfl <| WC.seq <| WC.region <| WL.v (v_move rfl rfl) rfl <| ?_
   refine WL.v (v_add rfl rfl rfl (w_i64 (by omega) (by omega))) rfl ?_
   refine WL.v (v_conv rfl rfl Tryz.underlying5 Tryz.underlying3 (show _ = (fl + 16) % 256 from w_u8m _)) rfl <| WL.v (v_move rfl rfl) rfl <| WL.v (v_conv rfl rfl Tryz.underlying5 Tryz.underlying3 (show _ = t % 256 from w_u8m _)) rfl <| ?_
   refine WL.buildSlice rfl rfl Tryz.underlying37 sz_5 zero_5 rfl (by decide) rfl (.none rfl) rfl rfl ?_
   intro g15 hg15
   refine WL.v (v_move rfl rfl) rfl <| WL.v (v_len_slice rfl rfl Tryz.underlying37) rfl <| WL.call rfl rfl ck_44 (.none rfl) rfl rfl <| ?_
   intro w1 hS
   refine (RBytes06_c w1 vs.length 2 (by omega) (by omega) (by omega)).mono ?_
   rintro e w' ⟨ad18, c18, E18, rfl, hV18, hS'⟩
   refine ⟨_, _, rfl, hS.join hS', ?_⟩
   refine WL.to (L' := [.row g15 (u8s [(fl + 16) % 256, t % 256])] ++ (E18 ++ [])) (fun w hS => by simpa using St.front (R := [.row g15 (u8s [(fl + 16) % 256, t % 256])]) (L := []) E18 hS) ?_
   refine WL.appendL rfl rfl rfl Tryz.underlying37 Tryz.underlying37 sz_5 by_5 zero_5 rfl rfl (Vec.row (k := 2) (s := 1) (c := 2) (xs := u8s [(fl + 16) % 256, t % 256]) rfl rfl (Nat.le_refl _)) (new := u8s (numB vs.length 2)) (fun h => (hV18.src (L := .row g15 (u8s [(fl + 16) % 256, t % 256]) :: (E18 ++ [])) (fun e he => List.mem_cons_of_mem _ (List.mem_append_left _ he)) (by rw [u8s_len, numB_len]; omega)).elim fun b1 h1 => h1.elim fun o1 h2 => ⟨b1, o1, h2.1, fun w hS => h2.2 _ _ w hS⟩) (by rw [u8s_len, numB_len]) (u8s_one _) (by omega) (.none rfl) rfl rfl ?_
   intro ad19 c19 E19 hV19 hr19
   rw [← u8s_app] at hV19
   refine WL.v (v_move rfl rfl) rfl ?_
   refine WL.appendL rfl rfl rfl Tryz.underlying37 Tryz.underlying37 sz_5 by_5 zero_5 rfl rfl hV19 (new := u8s vs) (fun h => (hC (by rw [u8s_len]; exact h)).elim fun b1 h1 => h1.elim fun o1 h2 => ⟨b1, o1, h2.1, fun w hS => hS.rng (fun _ h => h) _ _ _ h2.2⟩) (by rw [u8s_len, Nat.mul_one]) (u8s_one _) (by omega) (.none rfl) rfl rfl ?_
   intro ad21 c21 E21 hV21 hr21
   rw [← u8s_app, show [(fl + 16) % 256, t % 256] ++ numB vs.length 2 ++ vs = putE fl t vs by unfold putE; rw [if_pos (by omega), numB_one, numB_one]; rfl] at hV21
   have hk := hV21.toB
   rw [hk] at hV21 ⊢
   refine WL.v (v_assign rfl rfl) rfl <| WL.nt <| WC.ret <| WE.then_ret <| WE.ret1 (P := Tryz.prog) (.inl rfl) Tryz.results43 rfl <| ?_
   exact fun w' h => ⟨ad21, c21, E21, rfl, hV21, h.sub (List.sublist_append_left _ _)⟩
  ·
   refine WL.nt <| WC.cond_f rfl <| WC.skip <| WE.then_n <| WC.seq <| WC.region <| WL.v (v_move rfl rfl) rfl <| WL.v (v_conv rfl rfl Tryz.underlying5 Tryz.underlying3 (show _ = fl % 256 from w_u8m _)) rfl <| WL.v (v_move rfl rfl) rfl <| WL.v (v_conv rfl rfl Tryz.underlying5 Tryz.underlying3 (show _ = t % 256 from w_u8m _)) rfl <| ?_
   refine WL.v (v_move rfl rfl) rfl <| WL.v (v_len_slice rfl rfl Tryz.underlying37) rfl <| WL.v (v_conv rfl rfl Tryz.underlying5 Tryz.underlying3 (show _ = (vs.length : Int) % 256 from w_u8m _)) rfl <| ?_
   refine WL.buildSlice rfl rfl Tryz.underlying37 sz_5 zero_5 rfl (by decide) rfl (.none rfl) rfl rfl ?_
   intro g29 hg29
   refine WL.v (v_move rfl rfl) rfl ?_
   refine WL.appendL rfl rfl rfl Tryz.underlying37 Tryz.underlying37 sz_5 by_5 zero_5 rfl rfl (E := [.row g29 (u8s [fl % 256, t % 256, (vs.length : Int) % 256])]) (L0 := []) (Vec.row (k := 3) (s := 1) (c := 3) (xs := u8s [fl % 256, t % 256, (vs.length : Int) % 256]) rfl rfl (Nat.le_refl _)) (new := u8s vs) (fun h => (hC (by rw [u8s_len]; exact h)).elim fun b1 h1 => h1.elim fun o1 h2 => ⟨b1, o1, h2.1, fun w hS => hS.rng (fun _ h => h) _ _ _ h2.2⟩) (by rw [u8s_len, Nat.mul_one]) (u8s_one _) (by omega) (.none rfl) rfl rfl ?_
   intro ad31 c31 E31 hV31 hr31
   rw [← u8s_app, show [fl % 256, t % 256, (vs.length : Int) % 256] ++ vs = putE fl t vs by unfold putE; rw [if_neg (by omega), numB_one, numB_one, numB_one]; rfl] at hV31
   have hk := hV31.toB
   rw [hk] at hV31 ⊢
   refine WL.v (v_assign rfl rfl) rfl <| WL.nt <| WC.ret <| WE.ret1 (P := Tryz.prog) (.inl rfl) Tryz.results43 rfl <| ?_
   exact fun w' h => ⟨ad31, c31, E31, rfl, hV31, h.sub (List.sublist_append_left _ _)⟩
theorem chk_known {a : AtL} (h : ¬ (0 ≤ a.has ∧ a.has ≤ 510 ∧ a.has % 2 = 0)) : chkA a = false := by
  unfold chkA
  rw [show knownB a.has = false from decide_eq_false h, Bool.false_and, Bool.false_and]
theorem chk_ord {a : AtL} (h : ordB 8 a.others = false) : chkA a = false := by unfold chkA; rw [h, Bool.and_false]
theorem each1 (a : AtL) : eachB a 1 = if hasB a.has 1 then wiB a.origin 2 else decide (a.origin = 0) := rfl
theorem each2 (a : AtL) : eachB a 2 = if hasB a.has 2 then a.path.all segB else decide ((a.path.length : Int) = 0) := rfl
theorem each3 (a : AtL) : eachB a 3 = if hasB a.has 3 then hopB a.hop else decide (a.hop = 0) := rfl
theorem each4 (a : AtL) : eachB a 4 = if hasB a.has 4 then wiB a.med 4294967295 else decide (a.med = 0) := rfl
theorem each5 (a : AtL) : eachB a 5 = if hasB a.has 5 then wiB a.loc 4294967295 else decide (a.loc = 0) := rfl
theorem each6 (a : AtL) : eachB a 6 = true := by show (if hasB a.has 6 then true else true) = true; cases hasB a.has 6 <;> rfl
theorem each7 (a : AtL) : eachB a 7 = if hasB a.has 7 then wiB a.aas 65535 else decide (a.aas = 0 ∧ a.aid = 0) := rfl
theorem each8 (a : AtL) : eachB a 8 = if hasB a.has 8 then commsB a.comms else decide ((a.comms.length : Int) = 0) := rfl
theorem wiB_F {x m : Int} (h : ¬ (0 ≤ x ∧ x ≤ m)) : wiB x m = false := decide_eq_false h
theorem chk_e1 {a : AtL} (h : ¬ (0 ≤ a.origin ∧ a.origin ≤ 2)) : chkA a = false := chk_each (k := 1) (by omega) (by omega) (by rw [each1]; split <;> first | exact wiB_F h | exact decide_eq_false (by omega))
theorem chk_e4 {a : AtL} (h : ¬ (0 ≤ a.med ∧ a.med ≤ 4294967295)) : chkA a = false := chk_each (k := 4) (by omega) (by omega) (by rw [each4]; split <;> first | exact wiB_F h | exact decide_eq_false (by omega))
theorem chk_e5 {a : AtL} (h : ¬ (0 ≤ a.loc ∧ a.loc ≤ 4294967295)) : chkA a = false := chk_each (k := 5) (by omega) (by omega) (by rw [each5]; split <;> first | exact wiB_F h | exact decide_eq_false (by omega))
theorem chk_e7 {a : AtL} (h : ¬ (0 ≤ a.aas ∧ a.aas ≤ 65535)) : chkA a = false := chk_each (k := 7) (by omega) (by omega) (by rw [each7]; split <;> first | exact wiB_F h | exact decide_eq_false (by omega))
theorem chk_e8 {a : AtL} (h : 256 < a.comms.length) : chkA a = false := chk_each (k := 8) (by omega) (by omega) (by
  rw [each8]
  split
  · unfold commsB; rw [show decide (a.comms.length ≤ 256) = false from decide_eq_false (by omega), Bool.and_false]
  · exact decide_eq_false (by omega))
theorem chk_z1 {a : AtL} (h : hasB a.has 1 = false) (h2 : a.origin ≠ 0) : chkA a = false := chk_each (k := 1) (by omega) (by omega) (by rw [each1, h]; exact decide_eq_false h2)
theorem chk_z2 {a : AtL} (h : hasB a.has 2 = false) (h2 : (a.path.length : Int) > 0) : chkA a = false := chk_each (k := 2) (by omega) (by omega) (by rw [each2, h]; exact decide_eq_false (by omega))
theorem chk_z3 {a : AtL} (h : hasB a.has 3 = false) (h2 : a.hop ≠ 0) : chkA a = false := chk_each (k := 3) (by omega) (by omega) (by rw [each3, h]; exact decide_eq_false h2)
theorem chk_h3 {a : AtL} (h : hasB a.has 3 = true) (h2 : hopB a.hop = false) : chkA a = false := chk_each (k := 3) (by omega) (by omega) (by rw [each3, h]; exact h2)
theorem chk_z4 {a : AtL} (h : hasB a.has 4 = false) (h2 : a.med ≠ 0) : chkA a = false := chk_each (k := 4) (by omega) (by omega) (by rw [each4, h]; exact decide_eq_false h2)
theorem chk_z5 {a : AtL} (h : hasB a.has 5 = false) (h2 : a.loc ≠ 0) : chkA a = false := chk_each (k := 5) (by omega) (by omega) (by rw [each5, h]; exact decide_eq_false h2)
theorem chk_z7 {a : AtL} (h : hasB a.has 7 = false) (h2 : a.aas ≠ 0) : chkA a = false := chk_each (k := 7) (by omega) (by omega) (by rw [each7, h]; exact decide_eq_false (by omega))
theorem chk_z7b {a : AtL} (h : hasB a.has 7 = false) (h2 : a.aid ≠ 0) : chkA a = false := chk_each (k := 7) (by omega) (by omega) (by rw [each7, h]; exact decide_eq_false (by omega))
theorem chk_z8 {a : AtL} (h : hasB a.has 8 = false) (h2 : (a.comms.length : Int) > 0) : chkA a = false := chk_each (k := 8) (by omega) (by omega) (by rw [each8, h]; exact decide_eq_false (by omega))
theorem chk_p2 {a : AtL} (hz : hasB a.has 2 = false → a.path.length = 0) {k : Nat} {s : SegL} (hs : a.path[k]? = some s) (h : segB s = false) : chkA a = false := chk_each (k := 2) (by omega) (by omega) (by
  rw [each2]
  split
  · exact not_all hs h
  · rename_i h0
    have := hz (by simpa using h0)
    have := (List.getElem?_eq_some_iff.1 hs).1
    omega)
theorem chk_c8 {a : AtL} (hz : hasB a.has 8 = false → a.comms.length = 0) {k : Nat} {x : Int} (hs : a.comms[k]? = some x) (h : ¬ (0 ≤ x ∧ x ≤ 4294967295)) : chkA a = false := chk_each (k := 8) (by omega) (by omega) (by
  rw [each8]
  split
  · unfold commsB; rw [not_all (p := fun x => wiB x 4294967295) hs (wiB_F h), Bool.false_and]
  · rename_i h0
    have := hz (by simpa using h0)
    have := (List.getElem?_eq_some_iff.1 hs).1
    omega)
theorem seg_F {s : SegL} (h : ¬ (1 ≤ s.asl.length ∧ s.asl.length ≤ 255)) : segB s = false := by unfold segB; rw [decide_eq_false h, Bool.false_and]
theorem seg_F2 {s : SegL} {k : Nat} {x : Int} (hx : s.asl[k]? = some x) (h : ¬ (1 ≤ x ∧ x ≤ 65535)) : segB s = false := by unfold segB; rw [not_all hx (decide_eq_false h), Bool.and_false]
theorem seg_T {s : SegL} (h1 : 1 ≤ s.asl.length ∧ s.asl.length ≤ 255) (h : ∀ (k : Nat) (x : Int), s.asl[k]? = some x → 1 ≤ x ∧ x ≤ 65535) : segB s = true := by
  unfold segB
  rw [decide_eq_true h1, Bool.true_and]
  exact List.all_eq_true.2 fun x hx => by
    obtain ⟨k, hk, e⟩ := List.getElem_of_mem hx
    exact decide_eq_true (h k x (by rw [← e, List.getElem?_eq_getElem]))
/-- What Right looks at last. -/
structure RtS where
  k : Nat
  last : Int
theorem chk_ok {a : AtL} (hk : 0 ≤ a.has ∧ a.has ≤ 510 ∧ a.has % 2 = 0) (h1 : 0 ≤ a.origin ∧ a.origin ≤ 2) (h4 : 0 ≤ a.med ∧ a.med ≤ 4294967295) (h5 : 0 ≤ a.loc ∧ a.loc ≤ 4294967295) (h7 : 0 ≤ a.aas ∧ a.aas ≤ 65535) (h8 : a.comms.length ≤ 256)
    (z : (hasB a.has 1 = false → a.origin = 0) ∧ (hasB a.has 2 = false → a.path.length = 0) ∧ (hasB a.has 4 = false → a.med = 0) ∧ (hasB a.has 5 = false → a.loc = 0) ∧ (hasB a.has 7 = false → a.aas = 0 ∧ a.aid = 0) ∧ (hasB a.has 8 = false → a.comms.length = 0))
    (z3 : (hasB a.has 3 = false → a.hop = 0) ∧ (hasB a.has 3 = true → hopB a.hop = true)) (hp : ∀ (k : Nat) (s : SegL), a.path[k]? = some s → segB s = true) (hc : ∀ (k : Nat) (x : Int), a.comms[k]? = some x → 0 ≤ x ∧ x ≤ 4294967295) (ho : ordB 8 a.others = true) : chkA a = true := by
  obtain ⟨z1, z2, z4, z5, z7, z8⟩ := z
  have e1 : eachB a 1 = true := by rw [each1]; split <;> first | exact decide_eq_true h1 | (rename_i h; exact decide_eq_true (z1 (by simpa using h)))
  have e2 : eachB a 2 = true := by
    rw [each2]
    split
    · exact List.all_eq_true.2 fun s hs => by obtain ⟨k, hk, e⟩ := List.getElem_of_mem hs; exact hp k s (by rw [← e, List.getElem?_eq_getElem])
    · rename_i h; exact decide_eq_true (by have := z2 (by simpa using h); omega)
  have e3 : eachB a 3 = true := by rw [each3]; split <;> first | (rename_i h; exact z3.2 h) | (rename_i h; exact decide_eq_true (z3.1 (by simpa using h)))
  have e4 : eachB a 4 = true := by rw [each4]; split <;> first | exact decide_eq_true h4 | (rename_i h; exact decide_eq_true (z4 (by simpa using h)))
  have e5 : eachB a 5 = true := by rw [each5]; split <;> first | exact decide_eq_true h5 | (rename_i h; exact decide_eq_true (z5 (by simpa using h)))
  have e7 : eachB a 7 = true := by rw [each7]; split <;> first | exact decide_eq_true h7 | (rename_i h; exact decide_eq_true (z7 (by simpa using h)))
  have e8 : eachB a 8 = true := by
    rw [each8]
    split
    · unfold commsB
      rw [show decide (a.comms.length ≤ 256) = true from decide_eq_true h8, Bool.and_true]
      exact List.all_eq_true.2 fun x hx => by obtain ⟨k, hk, e⟩ := List.getElem_of_mem hx; exact decide_eq_true (hc k x (by rw [← e, List.getElem?_eq_getElem]))
    · rename_i h; exact decide_eq_true (by have := z8 (by simpa using h); omega)
  unfold chkA
  rw [show knownB a.has = true from decide_eq_true hk, ho, Bool.true_and, Bool.and_true]
  show (eachB a 1 && (eachB a 2 && (eachB a 3 && (eachB a 4 && (eachB a 5 && (eachB a 6 && (eachB a 7 && (eachB a 8 && true)))))))) = true
  rw [e1, e2, e3, e4, e5, each6, e7, e8]
  rfl
set_option maxHeartbeats 8000000 in
theorem RRight06_c (w : World) (a : AtL) (hA : a.At w) (hI : a.In) : Calls Tryz.prog 41 #[.agg a.rcells.toArray] w fun e w' => e = .returned (.bool (chkA a)) ∧ Frm (fun _ => False) w w' := by
  have hop := hI.hop
  have haid := hI.aid
  unfold U32 at hop haid
  obtain ⟨hl1, hl2, hl3⟩ := hI.lens
  refine enter Tryz.func41 rfl Tryz.ntmps41 rfl (St.start (fun _ => False) w) ?_
  refine WC.seq <| WC.region <| WL.box rfl rfl rfl (.none rfl) rfl rfl <| ?_
  intro g1 hg1
  refine WL.v (v_assign rfl rfl) rfl <| WL.nt <| ?_
  refine WC.cut (fun _ : Unit => [(1, .pointer (some ⟨g1, 0, none⟩))]) (fun _ => [.row g1 a.rcells]) (fun _ => 0 ≤ a.has ∧ a.has ≤ 510 ∧ a.has % 2 = 0) ?_ ?_
  ·
   refine WC.seq <| WC.region <| WL.v (v_fieldAddr0 rfl rfl fld_48_0) rfl <| WL.v (v_load1 rfl rfl one_3 (cellAt rfl)) rfl <| ?_
   refine WL.test (v_lss rfl rfl rfl) (.none rfl) rfl rfl (fun h14 => ?_) (fun h14 => ?_)
   ·
    refine WL.v (v_move rfl rfl) rfl ?_
    iterate 4 refine WL.sk rfl ?_
    refine WL.v (v_pick_t rfl rfl rfl) rfl <| WL.v (v_move rfl rfl) rfl <| ?_
    iterate 3 refine WL.sk rfl ?_
    refine WL.v (v_pick_t rfl rfl rfl) rfl <| WL.nt <| WC.cond_t rfl <| WC.seq <| WC.region <| WL.v (v_assign rfl rfl) rfl <| WL.nt <| WC.ret <| WE.then_ret <| WE.ret1 (P := Tryz.prog) (.inl rfl) Tryz.results41 rfl <| ?_
    exact fun w' h => ⟨by rw [chk_known (by omega)], h.frm⟩
   ·
    refine WL.v (v_move rfl rfl) rfl <| WL.val (v_fieldAddr0 rfl rfl fld_48_0) (.some rfl rfl rfl) rfl rfl <| WL.val (v_load1 rfl rfl one_3 (cellAt rfl)) (.some rfl rfl rfl) rfl rfl <| ?_
    refine WL.val (v_rem rfl rfl rfl (by omega) (by omega)) (.some rfl rfl rfl) rfl rfl ?_
    refine WL.test (v_eql rfl rfl rfl) (.some rfl rfl rfl) rfl rfl (fun h19 => ?_) (fun h19 => ?_)
    ·
     refine WL.v (v_pick_f rfl rfl rfl) rfl <| WL.v (v_move rfl rfl) rfl <| ?_
     iterate 3 refine WL.sk rfl ?_
     refine WL.v (v_pick_t rfl rfl rfl) rfl <| WL.nt <| WC.cond_t rfl <| WC.seq <| WC.region <| WL.v (v_assign rfl rfl) rfl <| WL.nt <| WC.ret <| WE.then_ret <| WE.ret1 (P := Tryz.prog) (.inl rfl) Tryz.results41 rfl <| ?_
     exact fun w' h => ⟨by rw [chk_known (by omega)], h.frm⟩
    ·
     refine WL.v (v_pick_f rfl rfl rfl) rfl <| WL.v (v_move rfl rfl) rfl <| WL.val (v_fieldAddr0 rfl rfl fld_48_0) (.some rfl rfl rfl) rfl rfl <| WL.val (v_load1 rfl rfl one_3 (cellAt rfl)) (.some rfl rfl rfl) rfl rfl <| ?_
     refine WL.test (v_gtr rfl rfl rfl) (.some rfl rfl rfl) rfl rfl (fun h24 => ?_) (fun h24 => ?_)
     ·
      refine WL.v (v_pick_f rfl rfl rfl) rfl <| WL.nt <| WC.cond_t rfl <| WC.seq <| WC.region <| WL.v (v_assign rfl rfl) rfl <| WL.nt <| WC.ret <| WE.then_ret <| WE.ret1 (P := Tryz.prog) (.inl rfl) Tryz.results41 rfl <| ?_
      exact fun w' h => ⟨by rw [chk_known (by omega)], h.frm⟩
     ·
      refine WL.v (v_pick_f rfl rfl rfl) rfl <| WL.nt <| WC.cond_f rfl <| WC.skip <| ?_
      exact WE.mid () (by omega) (.cons rfl .nil) (.refl _)
  ·
   rintro _ hkn
   refine WC.seq <| WC.region <| WL.v (v_assign rfl rfl) rfl <| WL.nt <| ?_
   refine WC.cut (fun _ : Unit => [(3, .int .i64 4294967295), (1, .pointer (some ⟨g1, 0, none⟩))]) (fun _ => [.row g1 a.rcells]) (fun _ => (0 ≤ a.origin ∧ a.origin ≤ 2) ∧ (0 ≤ a.med ∧ a.med ≤ 4294967295) ∧ (0 ≤ a.loc ∧ a.loc ≤ 4294967295) ∧ (0 ≤ a.aas ∧ a.aas ≤ 65535) ∧ a.comms.length ≤ 256) ?_ ?_
   ·
    refine WC.seq <| WC.region <| WL.v (v_fieldAddr0 rfl rfl fld_48_1) rfl <| WL.v (v_load1 rfl rfl one_3 (cellAt rfl)) rfl <| WL.call rfl rfl ck_60 (.none rfl) rfl rfl <| ?_
    intro w hS
    refine Calls.then (RIn_c _ a.origin 0 2) hS ?_
    generalize hq28 : decide (0 ≤ a.origin ∧ a.origin ≤ 2) = b28
    cases b28
    ·
     refine WL.v (v_not rfl rfl rfl) rfl <| WL.v (v_move rfl rfl) rfl <| ?_
     iterate 4 refine WL.sk rfl ?_
     generalize hq34 : decide (0 ≤ a.med ∧ a.med ≤ 4294967295) = b34
     cases b34
     ·
      refine WL.sk rfl <| WL.v (v_pick_t rfl rfl rfl) rfl <| WL.v (v_move rfl rfl) rfl <| ?_
      iterate 4 refine WL.sk rfl ?_
      generalize hq41 : decide (0 ≤ a.loc ∧ a.loc ≤ 4294967295) = b41
      cases b41
      ·
       refine WL.sk rfl <| WL.v (v_pick_t rfl rfl rfl) rfl <| WL.v (v_move rfl rfl) rfl <| ?_
       iterate 3 refine WL.sk rfl ?_
       generalize hq47 : decide (0 ≤ a.aas ∧ a.aas ≤ 65535) = b47
       cases b47
       ·
        refine WL.sk rfl <| WL.v (v_pick_t rfl rfl rfl) rfl <| WL.v (v_move rfl rfl) rfl <| ?_
        iterate 4 refine WL.sk rfl ?_
        refine WL.v (v_pick_t rfl rfl rfl) rfl <| WL.nt <| WC.cond_t rfl <| WC.seq <| WC.region <| WL.v (v_assign rfl rfl) rfl <| WL.nt <| WC.ret <| WE.then_ret <| WE.ret1 (P := Tryz.prog) (.inl rfl) Tryz.results41 rfl <| ?_
        exact fun w' h => ⟨by rw [chk_e1 (of_decide_eq_false hq28)], h.frm⟩
       ·
        refine WL.sk rfl <| WL.v (v_pick_t rfl rfl rfl) rfl <| WL.v (v_move rfl rfl) rfl <| ?_
        iterate 4 refine WL.sk rfl ?_
        refine WL.v (v_pick_t rfl rfl rfl) rfl <| WL.nt <| WC.cond_t rfl <| WC.seq <| WC.region <| WL.v (v_assign rfl rfl) rfl <| WL.nt <| WC.ret <| WE.then_ret <| WE.ret1 (P := Tryz.prog) (.inl rfl) Tryz.results41 rfl <| ?_
        exact fun w' h => ⟨by rw [chk_e1 (of_decide_eq_false hq28)], h.frm⟩
      ·
       refine WL.sk rfl <| WL.v (v_pick_t rfl rfl rfl) rfl <| WL.v (v_move rfl rfl) rfl <| ?_
       iterate 3 refine WL.sk rfl ?_
       generalize hq47 : decide (0 ≤ a.aas ∧ a.aas ≤ 65535) = b47
       cases b47
       ·
        refine WL.sk rfl <| WL.v (v_pick_t rfl rfl rfl) rfl <| WL.v (v_move rfl rfl) rfl <| ?_
        iterate 4 refine WL.sk rfl ?_
        refine WL.v (v_pick_t rfl rfl rfl) rfl <| WL.nt <| WC.cond_t rfl <| WC.seq <| WC.region <| WL.v (v_assign rfl rfl) rfl <| WL.nt <| WC.ret <| WE.then_ret <| WE.ret1 (P := Tryz.prog) (.inl rfl) Tryz.results41 rfl <| ?_
        exact fun w' h => ⟨by rw [chk_e1 (of_decide_eq_false hq28)], h.frm⟩
       ·
        refine WL.sk rfl <| WL.v (v_pick_t rfl rfl rfl) rfl <| WL.v (v_move rfl rfl) rfl <| ?_
        iterate 4 refine WL.sk rfl ?_
        refine WL.v (v_pick_t rfl rfl rfl) rfl <| WL.nt <| WC.cond_t rfl <| WC.seq <| WC.region <| WL.v (v_assign rfl rfl) rfl <| WL.nt <| WC.ret <| WE.then_ret <| WE.ret1 (P := Tryz.prog) (.inl rfl) Tryz.results41 rfl <| ?_
        exact fun w' h => ⟨by rw [chk_e1 (of_decide_eq_false hq28)], h.frm⟩
     ·
      refine WL.sk rfl <| WL.v (v_pick_t rfl rfl rfl) rfl <| WL.v (v_move rfl rfl) rfl <| ?_
      iterate 4 refine WL.sk rfl ?_
      generalize hq41 : decide (0 ≤ a.loc ∧ a.loc ≤ 4294967295) = b41
      cases b41
      ·
       refine WL.sk rfl <| WL.v (v_pick_t rfl rfl rfl) rfl <| WL.v (v_move rfl rfl) rfl <| ?_
       iterate 3 refine WL.sk rfl ?_
       generalize hq47 : decide (0 ≤ a.aas ∧ a.aas ≤ 65535) = b47
       cases b47
       ·
        refine WL.sk rfl <| WL.v (v_pick_t rfl rfl rfl) rfl <| WL.v (v_move rfl rfl) rfl <| ?_
        iterate 4 refine WL.sk rfl ?_
        refine WL.v (v_pick_t rfl rfl rfl) rfl <| WL.nt <| WC.cond_t rfl <| WC.seq <| WC.region <| WL.v (v_assign rfl rfl) rfl <| WL.nt <| WC.ret <| WE.then_ret <| WE.ret1 (P := Tryz.prog) (.inl rfl) Tryz.results41 rfl <| ?_
        exact fun w' h => ⟨by rw [chk_e1 (of_decide_eq_false hq28)], h.frm⟩
       ·
        refine WL.sk rfl <| WL.v (v_pick_t rfl rfl rfl) rfl <| WL.v (v_move rfl rfl) rfl <| ?_
        iterate 4 refine WL.sk rfl ?_
        refine WL.v (v_pick_t rfl rfl rfl) rfl <| WL.nt <| WC.cond_t rfl <| WC.seq <| WC.region <| WL.v (v_assign rfl rfl) rfl <| WL.nt <| WC.ret <| WE.then_ret <| WE.ret1 (P := Tryz.prog) (.inl rfl) Tryz.results41 rfl <| ?_
        exact fun w' h => ⟨by rw [chk_e1 (of_decide_eq_false hq28)], h.frm⟩
      ·
       refine WL.sk rfl <| WL.v (v_pick_t rfl rfl rfl) rfl <| WL.v (v_move rfl rfl) rfl <| ?_
       iterate 3 refine WL.sk rfl ?_
       generalize hq47 : decide (0 ≤ a.aas ∧ a.aas ≤ 65535) = b47
       cases b47
       ·
        refine WL.sk rfl <| WL.v (v_pick_t rfl rfl rfl) rfl <| WL.v (v_move rfl rfl) rfl <| ?_
        iterate 4 refine WL.sk rfl ?_
        refine WL.v (v_pick_t rfl rfl rfl) rfl <| WL.nt <| WC.cond_t rfl <| WC.seq <| WC.region <| WL.v (v_assign rfl rfl) rfl <| WL.nt <| WC.ret <| WE.then_ret <| WE.ret1 (P := Tryz.prog) (.inl rfl) Tryz.results41 rfl <| ?_
        exact fun w' h => ⟨by rw [chk_e1 (of_decide_eq_false hq28)], h.frm⟩
       ·
        refine WL.sk rfl <| WL.v (v_pick_t rfl rfl rfl) rfl <| WL.v (v_move rfl rfl) rfl <| ?_
        iterate 4 refine WL.sk rfl ?_
        refine WL.v (v_pick_t rfl rfl rfl) rfl <| WL.nt <| WC.cond_t rfl <| WC.seq <| WC.region <| WL.v (v_assign rfl rfl) rfl <| WL.nt <| WC.ret <| WE.then_ret <| WE.ret1 (P := Tryz.prog) (.inl rfl) Tryz.results41 rfl <| ?_
        exact fun w' h => ⟨by rw [chk_e1 (of_decide_eq_false hq28)], h.frm⟩
    ·
     refine WL.v (v_not rfl rfl rfl) rfl <| WL.v (v_move rfl rfl) rfl <| WL.val (v_fieldAddr0 rfl rfl fld_48_4) (.some rfl rfl rfl) rfl rfl <| WL.val (v_load1 rfl rfl one_3 (cellAt rfl)) (.some rfl rfl rfl) rfl rfl <| WL.val (v_move rfl rfl) (.some rfl rfl rfl) rfl rfl <| WL.call rfl rfl ck_60 (.some rfl rfl rfl) rfl rfl <| ?_
     intro w hS
     refine Calls.then (RIn_c _ a.med 0 4294967295) hS ?_
     generalize hq34 : decide (0 ≤ a.med ∧ a.med ≤ 4294967295) = b34
     cases b34
     ·
      refine WL.val (v_not rfl rfl rfl) (.some rfl rfl rfl) rfl rfl <| WL.v (v_pick_f rfl rfl rfl) rfl <| WL.v (v_move rfl rfl) rfl <| ?_
      iterate 4 refine WL.sk rfl ?_
      generalize hq41 : decide (0 ≤ a.loc ∧ a.loc ≤ 4294967295) = b41
      cases b41
      ·
       refine WL.sk rfl <| WL.v (v_pick_t rfl rfl rfl) rfl <| WL.v (v_move rfl rfl) rfl <| ?_
       iterate 3 refine WL.sk rfl ?_
       generalize hq47 : decide (0 ≤ a.aas ∧ a.aas ≤ 65535) = b47
       cases b47
       ·
        refine WL.sk rfl <| WL.v (v_pick_t rfl rfl rfl) rfl <| WL.v (v_move rfl rfl) rfl <| ?_
        iterate 4 refine WL.sk rfl ?_
        refine WL.v (v_pick_t rfl rfl rfl) rfl <| WL.nt <| WC.cond_t rfl <| WC.seq <| WC.region <| WL.v (v_assign rfl rfl) rfl <| WL.nt <| WC.ret <| WE.then_ret <| WE.ret1 (P := Tryz.prog) (.inl rfl) Tryz.results41 rfl <| ?_
        exact fun w' h => ⟨by rw [chk_e4 (of_decide_eq_false hq34)], h.frm⟩
       ·
        refine WL.sk rfl <| WL.v (v_pick_t rfl rfl rfl) rfl <| WL.v (v_move rfl rfl) rfl <| ?_
        iterate 4 refine WL.sk rfl ?_
        refine WL.v (v_pick_t rfl rfl rfl) rfl <| WL.nt <| WC.cond_t rfl <| WC.seq <| WC.region <| WL.v (v_assign rfl rfl) rfl <| WL.nt <| WC.ret <| WE.then_ret <| WE.ret1 (P := Tryz.prog) (.inl rfl) Tryz.results41 rfl <| ?_
        exact fun w' h => ⟨by rw [chk_e4 (of_decide_eq_false hq34)], h.frm⟩
      ·
       refine WL.sk rfl <| WL.v (v_pick_t rfl rfl rfl) rfl <| WL.v (v_move rfl rfl) rfl <| ?_
       iterate 3 refine WL.sk rfl ?_
       generalize hq47 : decide (0 ≤ a.aas ∧ a.aas ≤ 65535) = b47
       cases b47
       ·
        refine WL.sk rfl <| WL.v (v_pick_t rfl rfl rfl) rfl <| WL.v (v_move rfl rfl) rfl <| ?_
        iterate 4 refine WL.sk rfl ?_
        refine WL.v (v_pick_t rfl rfl rfl) rfl <| WL.nt <| WC.cond_t rfl <| WC.seq <| WC.region <| WL.v (v_assign rfl rfl) rfl <| WL.nt <| WC.ret <| WE.then_ret <| WE.ret1 (P := Tryz.prog) (.inl rfl) Tryz.results41 rfl <| ?_
        exact fun w' h => ⟨by rw [chk_e4 (of_decide_eq_false hq34)], h.frm⟩
       ·
        refine WL.sk rfl <| WL.v (v_pick_t rfl rfl rfl) rfl <| WL.v (v_move rfl rfl) rfl <| ?_
        iterate 4 refine WL.sk rfl ?_
        refine WL.v (v_pick_t rfl rfl rfl) rfl <| WL.nt <| WC.cond_t rfl <| WC.seq <| WC.region <| WL.v (v_assign rfl rfl) rfl <| WL.nt <| WC.ret <| WE.then_ret <| WE.ret1 (P := Tryz.prog) (.inl rfl) Tryz.results41 rfl <| ?_
        exact fun w' h => ⟨by rw [chk_e4 (of_decide_eq_false hq34)], h.frm⟩
     ·
      refine WL.val (v_not rfl rfl rfl) (.some rfl rfl rfl) rfl rfl <| WL.v (v_pick_f rfl rfl rfl) rfl <| WL.v (v_move rfl rfl) rfl <| WL.val (v_fieldAddr0 rfl rfl fld_48_5) (.some rfl rfl rfl) rfl rfl <| WL.val (v_load1 rfl rfl one_3 (cellAt rfl)) (.some rfl rfl rfl) rfl rfl <| WL.val (v_move rfl rfl) (.some rfl rfl rfl) rfl rfl <| WL.call rfl rfl ck_60 (.some rfl rfl rfl) rfl rfl <| ?_
      intro w hS
      refine Calls.then (RIn_c _ a.loc 0 4294967295) hS ?_
      generalize hq41 : decide (0 ≤ a.loc ∧ a.loc ≤ 4294967295) = b41
      cases b41
      ·
       refine WL.val (v_not rfl rfl rfl) (.some rfl rfl rfl) rfl rfl <| WL.v (v_pick_f rfl rfl rfl) rfl <| WL.v (v_move rfl rfl) rfl <| ?_
       iterate 3 refine WL.sk rfl ?_
       generalize hq47 : decide (0 ≤ a.aas ∧ a.aas ≤ 65535) = b47
       cases b47
       ·
        refine WL.sk rfl <| WL.v (v_pick_t rfl rfl rfl) rfl <| WL.v (v_move rfl rfl) rfl <| ?_
        iterate 4 refine WL.sk rfl ?_
        refine WL.v (v_pick_t rfl rfl rfl) rfl <| WL.nt <| WC.cond_t rfl <| WC.seq <| WC.region <| WL.v (v_assign rfl rfl) rfl <| WL.nt <| WC.ret <| WE.then_ret <| WE.ret1 (P := Tryz.prog) (.inl rfl) Tryz.results41 rfl <| ?_
        exact fun w' h => ⟨by rw [chk_e5 (of_decide_eq_false hq41)], h.frm⟩
       ·
        refine WL.sk rfl <| WL.v (v_pick_t rfl rfl rfl) rfl <| WL.v (v_move rfl rfl) rfl <| ?_
        iterate 4 refine WL.sk rfl ?_
        refine WL.v (v_pick_t rfl rfl rfl) rfl <| WL.nt <| WC.cond_t rfl <| WC.seq <| WC.region <| WL.v (v_assign rfl rfl) rfl <| WL.nt <| WC.ret <| WE.then_ret <| WE.ret1 (P := Tryz.prog) (.inl rfl) Tryz.results41 rfl <| ?_
        exact fun w' h => ⟨by rw [chk_e5 (of_decide_eq_false hq41)], h.frm⟩
      ·
       refine WL.val (v_not rfl rfl rfl) (.some rfl rfl rfl) rfl rfl <| WL.v (v_pick_f rfl rfl rfl) rfl <| WL.v (v_move rfl rfl) rfl <| WL.val (v_fieldAddr0 rfl rfl fld_48_6) (.some rfl rfl rfl) rfl rfl <| WL.val (v_load1 rfl rfl one_3 (cellAt rfl)) (.some rfl rfl rfl) rfl rfl <| WL.call rfl rfl ck_60 (.some rfl rfl rfl) rfl rfl <| ?_
       intro w hS
       refine Calls.then (RIn_c _ a.aas 0 65535) hS ?_
       generalize hq47 : decide (0 ≤ a.aas ∧ a.aas ≤ 65535) = b47
       cases b47
       ·
        refine WL.val (v_not rfl rfl rfl) (.some rfl rfl rfl) rfl rfl <| WL.v (v_pick_f rfl rfl rfl) rfl <| WL.v (v_move rfl rfl) rfl <| ?_
        iterate 4 refine WL.sk rfl ?_
        refine WL.v (v_pick_t rfl rfl rfl) rfl <| WL.nt <| WC.cond_t rfl <| WC.seq <| WC.region <| WL.v (v_assign rfl rfl) rfl <| WL.nt <| WC.ret <| WE.then_ret <| WE.ret1 (P := Tryz.prog) (.inl rfl) Tryz.results41 rfl <| ?_
        exact fun w' h => ⟨by rw [chk_e7 (of_decide_eq_false hq47)], h.frm⟩
       ·
        refine WL.val (v_not rfl rfl rfl) (.some rfl rfl rfl) rfl rfl <| WL.v (v_pick_f rfl rfl rfl) rfl <| WL.v (v_move rfl rfl) rfl <| WL.val (v_fieldAddr0 rfl rfl fld_48_8) (.some rfl rfl rfl) rfl rfl <| WL.val (v_load1 rfl rfl one_27 (cellAt rfl)) (.some rfl rfl rfl) rfl rfl <| WL.val (v_len_slice rfl rfl Tryz.underlying27) (.some rfl rfl rfl) rfl rfl <| ?_
        refine WL.test (v_gtr rfl rfl rfl) (.some rfl rfl rfl) rfl rfl (fun h54 => ?_) (fun h54 => ?_)
        ·
         refine WL.v (v_pick_f rfl rfl rfl) rfl <| WL.nt <| WC.cond_t rfl <| WC.seq <| WC.region <| WL.v (v_assign rfl rfl) rfl <| WL.nt <| WC.ret <| WE.then_ret <| WE.ret1 (P := Tryz.prog) (.inl rfl) Tryz.results41 rfl <| ?_
         exact fun w' h => ⟨by rw [chk_e8 (by omega)], h.frm⟩
        ·
         refine WL.v (v_pick_f rfl rfl rfl) rfl <| WL.nt <| WC.cond_f rfl <| WC.skip <| ?_
         exact WE.mid () ⟨of_decide_eq_true hq28, of_decide_eq_true hq34, of_decide_eq_true hq41, of_decide_eq_true hq47, by omega⟩ (.cons rfl (.cons rfl .nil)) (.refl _)
   ·
    rintro _ ⟨hr1, hr4, hr5, hr7, hr8⟩
    refine WC.cut (fun _ : Unit => [(3, .int .i64 4294967295), (1, .pointer (some ⟨g1, 0, none⟩))]) (fun _ => [.row g1 a.rcells]) (fun _ => (hasB a.has 1 = false → a.origin = 0) ∧ (hasB a.has 2 = false → a.path.length = 0) ∧ (hasB a.has 4 = false → a.med = 0) ∧ (hasB a.has 5 = false → a.loc = 0) ∧ (hasB a.has 7 = false → a.aas = 0 ∧ a.aid = 0) ∧ (hasB a.has 8 = false → a.comms.length = 0)) ?_ ?_
    ·
     refine WC.seq <| WC.region <| ?_
     refine WL.cut 10 (fun b : Bool => [(65, .bool b), (3, .int .i64 4294967295), (1, .pointer (some ⟨g1, 0, none⟩))]) (fun _ => [.row g1 a.rcells]) (fun b => if b then chkA a = false else (hasB a.has 1 = false → a.origin = 0)) ?_ ?_
     ·
      refine WL.v (v_fieldAddr0 rfl rfl fld_48_0) rfl <| WL.v (v_load1 rfl rfl one_3 (cellAt rfl)) rfl <| WL.call rfl rfl ck_42 (.none rfl) rfl rfl <| ?_
      intro w hS
      refine Calls.then (RThere_c _ a.has 1 hkn.1 (by omega) (by omega)) hS ?_
      generalize hb1 : hasB a.has 1 = b58
      cases b58
      ·
       refine WL.v (v_not rfl rfl rfl) rfl <| WL.v (v_move rfl rfl) rfl <| WL.val (v_fieldAddr0 rfl rfl fld_48_1) (.some rfl rfl rfl) rfl rfl <| WL.val (v_load1 rfl rfl one_3 (cellAt rfl)) (.some rfl rfl rfl) rfl rfl <| ?_
       refine WL.test (v_neq rfl rfl rfl) (.some rfl rfl rfl) rfl rfl (fun h63 => ?_) (fun h63 => ?_)
       ·
        refine WL.v (v_pick_t rfl rfl rfl) rfl <| WL.v (v_move rfl rfl) rfl <| WL.nilC <| ?_
        exact WE.mid true (chk_z1 (by assumption) h63) (.cons rfl (.cons rfl (.cons rfl .nil))) (.refl _)
       ·
        refine WL.v (v_pick_t rfl rfl rfl) rfl <| WL.v (v_move rfl rfl) rfl <| WL.nilC <| ?_
        exact WE.mid false (show (_ = false → a.origin = 0) from fun e => by first | exact absurd e (by decide) | omega) (.cons rfl (.cons rfl (.cons rfl .nil))) (.refl _)
      ·
       refine WL.v (v_not rfl rfl rfl) rfl <| WL.v (v_move rfl rfl) rfl <| ?_
       iterate 3 refine WL.sk rfl ?_
       refine WL.v (v_pick_f rfl rfl rfl) rfl <| WL.v (v_move rfl rfl) rfl <| WL.nilC <| ?_
       exact WE.mid false (show (_ = false → a.origin = 0) from fun e => by first | exact absurd e (by decide) | omega) (.cons rfl (.cons rfl (.cons rfl .nil))) (.refl _)
     ·
      rintro (_ | _) hz1
      ·
       refine WL.cut 12 (fun b : Bool => [(77, .bool b), (3, .int .i64 4294967295), (1, .pointer (some ⟨g1, 0, none⟩))]) (fun _ => [.row g1 a.rcells]) (fun b => if b then chkA a = false else (hasB a.has 2 = false → a.path.length = 0)) ?_ ?_
       ·
        refine WL.val (v_fieldAddr0 rfl rfl fld_48_0) (.some rfl rfl rfl) rfl rfl <| WL.val (v_load1 rfl rfl one_3 (cellAt rfl)) (.some rfl rfl rfl) rfl rfl <| WL.call rfl rfl ck_42 (.some rfl rfl rfl) rfl rfl <| ?_
        intro w hS
        refine Calls.then (RThere_c _ a.has 2 hkn.1 (by omega) (by omega)) hS ?_
        generalize hb2 : hasB a.has 2 = b68
        cases b68
        ·
         refine WL.val (v_not rfl rfl rfl) (.some rfl rfl rfl) rfl rfl <| WL.val (v_move rfl rfl) (.some rfl rfl rfl) rfl rfl <| WL.val (v_fieldAddr0 rfl rfl fld_48_2) (.some rfl rfl rfl) rfl rfl <| WL.val (v_load1 rfl rfl one_45 (cellAt rfl)) (.some rfl rfl rfl) rfl rfl <| WL.val (v_len_slice rfl rfl Tryz.underlying45) (.some rfl rfl rfl) rfl rfl <| ?_
         refine WL.test (v_gtr rfl rfl rfl) (.some rfl rfl rfl) rfl rfl (fun h74 => ?_) (fun h74 => ?_)
         ·
          refine WL.val (v_pick_t rfl rfl rfl) (.some rfl rfl rfl) rfl rfl <| WL.v (v_pick_f rfl rfl rfl) rfl <| WL.v (v_move rfl rfl) rfl <| WL.nilC <| ?_
          exact WE.mid true (chk_z2 (by assumption) h74) (.cons rfl (.cons rfl (.cons rfl .nil))) (.refl _)
         ·
          refine WL.val (v_pick_t rfl rfl rfl) (.some rfl rfl rfl) rfl rfl <| WL.v (v_pick_f rfl rfl rfl) rfl <| WL.v (v_move rfl rfl) rfl <| WL.nilC <| ?_
          exact WE.mid false (show (_ = false → a.path.length = 0) from fun e => by first | exact absurd e (by decide) | omega) (.cons rfl (.cons rfl (.cons rfl .nil))) (.refl _)
        ·
         refine WL.val (v_not rfl rfl rfl) (.some rfl rfl rfl) rfl rfl <| WL.val (v_move rfl rfl) (.some rfl rfl rfl) rfl rfl <| ?_
         iterate 4 refine WL.sk rfl ?_
         refine WL.val (v_pick_f rfl rfl rfl) (.some rfl rfl rfl) rfl rfl <| WL.v (v_pick_f rfl rfl rfl) rfl <| WL.v (v_move rfl rfl) rfl <| WL.nilC <| ?_
         exact WE.mid false (show (_ = false → a.path.length = 0) from fun e => by first | exact absurd e (by decide) | omega) (.cons rfl (.cons rfl (.cons rfl .nil))) (.refl _)
       ·
        rintro (_ | _) hz2
        ·
         refine WL.cut 11 (fun b : Bool => [(88, .bool b), (3, .int .i64 4294967295), (1, .pointer (some ⟨g1, 0, none⟩))]) (fun _ => [.row g1 a.rcells]) (fun b => if b then chkA a = false else (hasB a.has 4 = false → a.med = 0)) ?_ ?_
         ·
          refine WL.val (v_fieldAddr0 rfl rfl fld_48_0) (.some rfl rfl rfl) rfl rfl <| WL.val (v_load1 rfl rfl one_3 (cellAt rfl)) (.some rfl rfl rfl) rfl rfl <| WL.call rfl rfl ck_42 (.some rfl rfl rfl) rfl rfl <| ?_
          intro w hS
          refine Calls.then (RThere_c _ a.has 4 hkn.1 (by omega) (by omega)) hS ?_
          generalize hb4 : hasB a.has 4 = b80
          cases b80
          ·
           refine WL.val (v_not rfl rfl rfl) (.some rfl rfl rfl) rfl rfl <| WL.val (v_move rfl rfl) (.some rfl rfl rfl) rfl rfl <| WL.val (v_fieldAddr0 rfl rfl fld_48_4) (.some rfl rfl rfl) rfl rfl <| WL.val (v_load1 rfl rfl one_3 (cellAt rfl)) (.some rfl rfl rfl) rfl rfl <| ?_
           refine WL.test (v_neq rfl rfl rfl) (.some rfl rfl rfl) rfl rfl (fun h85 => ?_) (fun h85 => ?_)
           ·
            refine WL.val (v_pick_t rfl rfl rfl) (.some rfl rfl rfl) rfl rfl <| WL.v (v_pick_f rfl rfl rfl) rfl <| WL.v (v_move rfl rfl) rfl <| WL.nilC <| ?_
            exact WE.mid true (chk_z4 (by assumption) h85) (.cons rfl (.cons rfl (.cons rfl .nil))) (.refl _)
           ·
            refine WL.val (v_pick_t rfl rfl rfl) (.some rfl rfl rfl) rfl rfl <| WL.v (v_pick_f rfl rfl rfl) rfl <| WL.v (v_move rfl rfl) rfl <| WL.nilC <| ?_
            exact WE.mid false (show (_ = false → a.med = 0) from fun e => by first | exact absurd e (by decide) | omega) (.cons rfl (.cons rfl (.cons rfl .nil))) (.refl _)
          ·
           refine WL.val (v_not rfl rfl rfl) (.some rfl rfl rfl) rfl rfl <| WL.val (v_move rfl rfl) (.some rfl rfl rfl) rfl rfl <| ?_
           iterate 3 refine WL.sk rfl ?_
           refine WL.val (v_pick_f rfl rfl rfl) (.some rfl rfl rfl) rfl rfl <| WL.v (v_pick_f rfl rfl rfl) rfl <| WL.v (v_move rfl rfl) rfl <| WL.nilC <| ?_
           exact WE.mid false (show (_ = false → a.med = 0) from fun e => by first | exact absurd e (by decide) | omega) (.cons rfl (.cons rfl (.cons rfl .nil))) (.refl _)
         ·
          rintro (_ | _) hz4
          ·
           refine WL.cut 11 (fun b : Bool => [(99, .bool b), (3, .int .i64 4294967295), (1, .pointer (some ⟨g1, 0, none⟩))]) (fun _ => [.row g1 a.rcells]) (fun b => if b then chkA a = false else (hasB a.has 5 = false → a.loc = 0)) ?_ ?_
           ·
            refine WL.val (v_fieldAddr0 rfl rfl fld_48_0) (.some rfl rfl rfl) rfl rfl <| WL.val (v_load1 rfl rfl one_3 (cellAt rfl)) (.some rfl rfl rfl) rfl rfl <| WL.call rfl rfl ck_42 (.some rfl rfl rfl) rfl rfl <| ?_
            intro w hS
            refine Calls.then (RThere_c _ a.has 5 hkn.1 (by omega) (by omega)) hS ?_
            generalize hb5 : hasB a.has 5 = b91
            cases b91
            ·
             refine WL.val (v_not rfl rfl rfl) (.some rfl rfl rfl) rfl rfl <| WL.val (v_move rfl rfl) (.some rfl rfl rfl) rfl rfl <| WL.val (v_fieldAddr0 rfl rfl fld_48_5) (.some rfl rfl rfl) rfl rfl <| WL.val (v_load1 rfl rfl one_3 (cellAt rfl)) (.some rfl rfl rfl) rfl rfl <| ?_
             refine WL.test (v_neq rfl rfl rfl) (.some rfl rfl rfl) rfl rfl (fun h96 => ?_) (fun h96 => ?_)
             ·
              refine WL.val (v_pick_t rfl rfl rfl) (.some rfl rfl rfl) rfl rfl <| WL.v (v_pick_f rfl rfl rfl) rfl <| WL.v (v_move rfl rfl) rfl <| WL.nilC <| ?_
              exact WE.mid true (chk_z5 (by assumption) h96) (.cons rfl (.cons rfl (.cons rfl .nil))) (.refl _)
             ·
              refine WL.val (v_pick_t rfl rfl rfl) (.some rfl rfl rfl) rfl rfl <| WL.v (v_pick_f rfl rfl rfl) rfl <| WL.v (v_move rfl rfl) rfl <| WL.nilC <| ?_
              exact WE.mid false (show (_ = false → a.loc = 0) from fun e => by first | exact absurd e (by decide) | omega) (.cons rfl (.cons rfl (.cons rfl .nil))) (.refl _)
            ·
             refine WL.val (v_not rfl rfl rfl) (.some rfl rfl rfl) rfl rfl <| WL.val (v_move rfl rfl) (.some rfl rfl rfl) rfl rfl <| ?_
             iterate 3 refine WL.sk rfl ?_
             refine WL.val (v_pick_f rfl rfl rfl) (.some rfl rfl rfl) rfl rfl <| WL.v (v_pick_f rfl rfl rfl) rfl <| WL.v (v_move rfl rfl) rfl <| WL.nilC <| ?_
             exact WE.mid false (show (_ = false → a.loc = 0) from fun e => by first | exact absurd e (by decide) | omega) (.cons rfl (.cons rfl (.cons rfl .nil))) (.refl _)
           ·
            rintro (_ | _) hz5
            ·
             refine WL.cut 16 (fun b : Bool => [(115, .bool b), (3, .int .i64 4294967295), (1, .pointer (some ⟨g1, 0, none⟩))]) (fun _ => [.row g1 a.rcells]) (fun b => if b then chkA a = false else (hasB a.has 7 = false → a.aas = 0 ∧ a.aid = 0)) ?_ ?_
             ·
              refine WL.val (v_fieldAddr0 rfl rfl fld_48_0) (.some rfl rfl rfl) rfl rfl <| WL.val (v_load1 rfl rfl one_3 (cellAt rfl)) (.some rfl rfl rfl) rfl rfl <| WL.call rfl rfl ck_42 (.some rfl rfl rfl) rfl rfl <| ?_
              intro w hS
              refine Calls.then (RThere_c _ a.has 7 hkn.1 (by omega) (by omega)) hS ?_
              generalize hb7 : hasB a.has 7 = b102
              cases b102
              ·
               refine WL.val (v_not rfl rfl rfl) (.some rfl rfl rfl) rfl rfl <| WL.val (v_move rfl rfl) (.some rfl rfl rfl) rfl rfl <| WL.val (v_fieldAddr0 rfl rfl fld_48_6) (.some rfl rfl rfl) rfl rfl <| WL.val (v_load1 rfl rfl one_3 (cellAt rfl)) (.some rfl rfl rfl) rfl rfl <| ?_
               refine WL.test (v_neq rfl rfl rfl) (.some rfl rfl rfl) rfl rfl (fun h107 => ?_) (fun h107 => ?_)
               ·
                refine WL.val (v_move rfl rfl) (.some rfl rfl rfl) rfl rfl ?_
                iterate 3 refine WL.sk rfl ?_
                refine WL.val (v_pick_t rfl rfl rfl) (.some rfl rfl rfl) rfl rfl <| WL.val (v_pick_t rfl rfl rfl) (.some rfl rfl rfl) rfl rfl <| WL.v (v_pick_f rfl rfl rfl) rfl <| WL.v (v_move rfl rfl) rfl <| WL.nilC <| ?_
                exact WE.mid true (chk_z7 (by assumption) h107) (.cons rfl (.cons rfl (.cons rfl .nil))) (.refl _)
               ·
                refine WL.val (v_move rfl rfl) (.some rfl rfl rfl) rfl rfl <| WL.val (v_fieldAddr0 rfl rfl fld_48_7) (.some rfl rfl rfl) rfl rfl <| WL.val (v_load1 rfl rfl one_3 (cellAt rfl)) (.some rfl rfl rfl) rfl rfl <| ?_
                refine WL.test (v_neq rfl rfl rfl) (.some rfl rfl rfl) rfl rfl (fun h111 => ?_) (fun h111 => ?_)
                ·
                 refine WL.val (v_pick_f rfl rfl rfl) (.some rfl rfl rfl) rfl rfl <| WL.val (v_pick_t rfl rfl rfl) (.some rfl rfl rfl) rfl rfl <| WL.v (v_pick_f rfl rfl rfl) rfl <| WL.v (v_move rfl rfl) rfl <| WL.nilC <| ?_
                 exact WE.mid true (chk_z7b (by assumption) h111) (.cons rfl (.cons rfl (.cons rfl .nil))) (.refl _)
                ·
                 refine WL.val (v_pick_f rfl rfl rfl) (.some rfl rfl rfl) rfl rfl <| WL.val (v_pick_t rfl rfl rfl) (.some rfl rfl rfl) rfl rfl <| WL.v (v_pick_f rfl rfl rfl) rfl <| WL.v (v_move rfl rfl) rfl <| WL.nilC <| ?_
                 exact WE.mid false (show (_ = false → a.aas = 0 ∧ a.aid = 0) from fun e => by first | exact absurd e (by decide) | omega) (.cons rfl (.cons rfl (.cons rfl .nil))) (.refl _)
              ·
               refine WL.val (v_not rfl rfl rfl) (.some rfl rfl rfl) rfl rfl <| WL.val (v_move rfl rfl) (.some rfl rfl rfl) rfl rfl <| ?_
               iterate 8 refine WL.sk rfl ?_
               refine WL.val (v_pick_f rfl rfl rfl) (.some rfl rfl rfl) rfl rfl <| WL.v (v_pick_f rfl rfl rfl) rfl <| WL.v (v_move rfl rfl) rfl <| WL.nilC <| ?_
               exact WE.mid false (show (_ = false → a.aas = 0 ∧ a.aid = 0) from fun e => by first | exact absurd e (by decide) | omega) (.cons rfl (.cons rfl (.cons rfl .nil))) (.refl _)
             ·
              rintro (_ | _) hz7
              ·
               refine WL.val (v_fieldAddr0 rfl rfl fld_48_0) (.some rfl rfl rfl) rfl rfl <| WL.val (v_load1 rfl rfl one_3 (cellAt rfl)) (.some rfl rfl rfl) rfl rfl <| WL.call rfl rfl ck_42 (.some rfl rfl rfl) rfl rfl <| ?_
               intro w hS
               refine Calls.then (RThere_c _ a.has 8 hkn.1 (by omega) (by omega)) hS ?_
               generalize hb8 : hasB a.has 8 = b118
               cases b118
               ·
                refine WL.val (v_not rfl rfl rfl) (.some rfl rfl rfl) rfl rfl <| WL.val (v_move rfl rfl) (.some rfl rfl rfl) rfl rfl <| WL.val (v_fieldAddr0 rfl rfl fld_48_8) (.some rfl rfl rfl) rfl rfl <| WL.val (v_load1 rfl rfl one_27 (cellAt rfl)) (.some rfl rfl rfl) rfl rfl <| WL.val (v_len_slice rfl rfl Tryz.underlying27) (.some rfl rfl rfl) rfl rfl <| ?_
                refine WL.test (v_gtr rfl rfl rfl) (.some rfl rfl rfl) rfl rfl (fun h124 => ?_) (fun h124 => ?_)
                ·
                 refine WL.val (v_pick_t rfl rfl rfl) (.some rfl rfl rfl) rfl rfl <| WL.v (v_pick_f rfl rfl rfl) rfl <| WL.nt <| WC.cond_t rfl <| WC.seq <| WC.region <| WL.v (v_assign rfl rfl) rfl <| WL.nt <| WC.ret <| WE.then_ret <| ?_
                 refine WE.ret1 (P := Tryz.prog) (.inl rfl) Tryz.results41 rfl ?_
                 exact fun w' h => ⟨by rw [chk_z8 hb8 h124], h.frm⟩
                ·
                 refine WL.val (v_pick_t rfl rfl rfl) (.some rfl rfl rfl) rfl rfl <| WL.v (v_pick_f rfl rfl rfl) rfl <| WL.nt <| WC.cond_f rfl <| WC.skip <| ?_
                 exact WE.mid () ⟨hz1, hz2, hz4, hz5, hz7, fun e => by first | exact absurd e (by decide) | omega⟩ (.cons rfl (.cons rfl .nil)) (.refl _)
               ·
                refine WL.val (v_not rfl rfl rfl) (.some rfl rfl rfl) rfl rfl <| WL.val (v_move rfl rfl) (.some rfl rfl rfl) rfl rfl <| ?_
                iterate 4 refine WL.sk rfl ?_
                refine WL.val (v_pick_f rfl rfl rfl) (.some rfl rfl rfl) rfl rfl <| WL.v (v_pick_f rfl rfl rfl) rfl <| WL.nt <| WC.cond_f rfl <| WC.skip <| ?_
                exact WE.mid () ⟨hz1, hz2, hz4, hz5, hz7, fun e => by first | exact absurd e (by decide) | omega⟩ (.cons rfl (.cons rfl .nil)) (.refl _)
              ·
               iterate 3 refine WL.sk rfl ?_
               generalize hb8 : hasB a.has 8 = b118
               cases b118
               ·
                iterate 7 refine WL.sk rfl ?_
                refine WL.v (v_pick_t rfl rfl rfl) rfl <| WL.nt <| WC.cond_t rfl <| WC.seq <| WC.region <| WL.v (v_assign rfl rfl) rfl <| WL.nt <| WC.ret <| WE.then_ret <| WE.ret1 (P := Tryz.prog) (.inl rfl) Tryz.results41 rfl <| ?_
                exact fun w' h => ⟨by rw [hz7], h.frm⟩
               ·
                iterate 7 refine WL.sk rfl ?_
                refine WL.v (v_pick_t rfl rfl rfl) rfl <| WL.nt <| WC.cond_t rfl <| WC.seq <| WC.region <| WL.v (v_assign rfl rfl) rfl <| WL.nt <| WC.ret <| WE.then_ret <| WE.ret1 (P := Tryz.prog) (.inl rfl) Tryz.results41 rfl <| ?_
                exact fun w' h => ⟨by rw [hz7], h.frm⟩
            ·
             iterate 3 refine WL.sk rfl ?_
             generalize hb7 : hasB a.has 7 = b102
             cases b102
             ·
              iterate 11 refine WL.sk rfl ?_
              refine WL.v (v_pick_t rfl rfl rfl) rfl <| WL.v (v_move rfl rfl) rfl <| ?_
              iterate 3 refine WL.sk rfl ?_
              generalize hb8 : hasB a.has 8 = b118
              cases b118
              ·
               iterate 7 refine WL.sk rfl ?_
               refine WL.v (v_pick_t rfl rfl rfl) rfl <| WL.nt <| WC.cond_t rfl <| WC.seq <| WC.region <| WL.v (v_assign rfl rfl) rfl <| WL.nt <| WC.ret <| WE.then_ret <| WE.ret1 (P := Tryz.prog) (.inl rfl) Tryz.results41 rfl <| ?_
               exact fun w' h => ⟨by rw [hz5], h.frm⟩
              ·
               iterate 7 refine WL.sk rfl ?_
               refine WL.v (v_pick_t rfl rfl rfl) rfl <| WL.nt <| WC.cond_t rfl <| WC.seq <| WC.region <| WL.v (v_assign rfl rfl) rfl <| WL.nt <| WC.ret <| WE.then_ret <| WE.ret1 (P := Tryz.prog) (.inl rfl) Tryz.results41 rfl <| ?_
               exact fun w' h => ⟨by rw [hz5], h.frm⟩
             ·
              iterate 11 refine WL.sk rfl ?_
              refine WL.v (v_pick_t rfl rfl rfl) rfl <| WL.v (v_move rfl rfl) rfl <| ?_
              iterate 3 refine WL.sk rfl ?_
              generalize hb8 : hasB a.has 8 = b118
              cases b118
              ·
               iterate 7 refine WL.sk rfl ?_
               refine WL.v (v_pick_t rfl rfl rfl) rfl <| WL.nt <| WC.cond_t rfl <| WC.seq <| WC.region <| WL.v (v_assign rfl rfl) rfl <| WL.nt <| WC.ret <| WE.then_ret <| WE.ret1 (P := Tryz.prog) (.inl rfl) Tryz.results41 rfl <| ?_
               exact fun w' h => ⟨by rw [hz5], h.frm⟩
              ·
               iterate 7 refine WL.sk rfl ?_
               refine WL.v (v_pick_t rfl rfl rfl) rfl <| WL.nt <| WC.cond_t rfl <| WC.seq <| WC.region <| WL.v (v_assign rfl rfl) rfl <| WL.nt <| WC.ret <| WE.then_ret <| WE.ret1 (P := Tryz.prog) (.inl rfl) Tryz.results41 rfl <| ?_
               exact fun w' h => ⟨by rw [hz5], h.frm⟩
          ·
           iterate 3 refine WL.sk rfl ?_
           generalize hb5 : hasB a.has 5 = b91
           cases b91
           ·
            iterate 6 refine WL.sk rfl ?_
            refine WL.v (v_pick_t rfl rfl rfl) rfl <| WL.v (v_move rfl rfl) rfl <| ?_
            iterate 3 refine WL.sk rfl ?_
            generalize hb7 : hasB a.has 7 = b102
            cases b102
            ·
             iterate 11 refine WL.sk rfl ?_
             refine WL.v (v_pick_t rfl rfl rfl) rfl <| WL.v (v_move rfl rfl) rfl <| ?_
             iterate 3 refine WL.sk rfl ?_
             generalize hb8 : hasB a.has 8 = b118
             cases b118
             ·
              iterate 7 refine WL.sk rfl ?_
              refine WL.v (v_pick_t rfl rfl rfl) rfl <| WL.nt <| WC.cond_t rfl <| WC.seq <| WC.region <| WL.v (v_assign rfl rfl) rfl <| WL.nt <| WC.ret <| WE.then_ret <| WE.ret1 (P := Tryz.prog) (.inl rfl) Tryz.results41 rfl <| ?_
              exact fun w' h => ⟨by rw [hz4], h.frm⟩
             ·
              iterate 7 refine WL.sk rfl ?_
              refine WL.v (v_pick_t rfl rfl rfl) rfl <| WL.nt <| WC.cond_t rfl <| WC.seq <| WC.region <| WL.v (v_assign rfl rfl) rfl <| WL.nt <| WC.ret <| WE.then_ret <| WE.ret1 (P := Tryz.prog) (.inl rfl) Tryz.results41 rfl <| ?_
              exact fun w' h => ⟨by rw [hz4], h.frm⟩
            ·
             iterate 11 refine WL.sk rfl ?_
             refine WL.v (v_pick_t rfl rfl rfl) rfl <| WL.v (v_move rfl rfl) rfl <| ?_
             iterate 3 refine WL.sk rfl ?_
             generalize hb8 : hasB a.has 8 = b118
             cases b118
             ·
              iterate 7 refine WL.sk rfl ?_
              refine WL.v (v_pick_t rfl rfl rfl) rfl <| WL.nt <| WC.cond_t rfl <| WC.seq <| WC.region <| WL.v (v_assign rfl rfl) rfl <| WL.nt <| WC.ret <| WE.then_ret <| WE.ret1 (P := Tryz.prog) (.inl rfl) Tryz.results41 rfl <| ?_
              exact fun w' h => ⟨by rw [hz4], h.frm⟩
             ·
              iterate 7 refine WL.sk rfl ?_
              refine WL.v (v_pick_t rfl rfl rfl) rfl <| WL.nt <| WC.cond_t rfl <| WC.seq <| WC.region <| WL.v (v_assign rfl rfl) rfl <| WL.nt <| WC.ret <| WE.then_ret <| WE.ret1 (P := Tryz.prog) (.inl rfl) Tryz.results41 rfl <| ?_
              exact fun w' h => ⟨by rw [hz4], h.frm⟩
           ·
            iterate 6 refine WL.sk rfl ?_
            refine WL.v (v_pick_t rfl rfl rfl) rfl <| WL.v (v_move rfl rfl) rfl <| ?_
            iterate 3 refine WL.sk rfl ?_
            generalize hb7 : hasB a.has 7 = b102
            cases b102
            ·
             iterate 11 refine WL.sk rfl ?_
             refine WL.v (v_pick_t rfl rfl rfl) rfl <| WL.v (v_move rfl rfl) rfl <| ?_
             iterate 3 refine WL.sk rfl ?_
             generalize hb8 : hasB a.has 8 = b118
             cases b118
             ·
              iterate 7 refine WL.sk rfl ?_
              refine WL.v (v_pick_t rfl rfl rfl) rfl <| WL.nt <| WC.cond_t rfl <| WC.seq <| WC.region <| WL.v (v_assign rfl rfl) rfl <| WL.nt <| WC.ret <| WE.then_ret <| WE.ret1 (P := Tryz.prog) (.inl rfl) Tryz.results41 rfl <| ?_
              exact fun w' h => ⟨by rw [hz4], h.frm⟩
             ·
              iterate 7 refine WL.sk rfl ?_
              refine WL.v (v_pick_t rfl rfl rfl) rfl <| WL.nt <| WC.cond_t rfl <| WC.seq <| WC.region <| WL.v (v_assign rfl rfl) rfl <| WL.nt <| WC.ret <| WE.then_ret <| WE.ret1 (P := Tryz.prog) (.inl rfl) Tryz.results41 rfl <| ?_
              exact fun w' h => ⟨by rw [hz4], h.frm⟩
            ·
             iterate 11 refine WL.sk rfl ?_
             refine WL.v (v_pick_t rfl rfl rfl) rfl <| WL.v (v_move rfl rfl) rfl <| ?_
             iterate 3 refine WL.sk rfl ?_
             generalize hb8 : hasB a.has 8 = b118
             cases b118
             ·
              iterate 7 refine WL.sk rfl ?_
              refine WL.v (v_pick_t rfl rfl rfl) rfl <| WL.nt <| WC.cond_t rfl <| WC.seq <| WC.region <| WL.v (v_assign rfl rfl) rfl <| WL.nt <| WC.ret <| WE.then_ret <| WE.ret1 (P := Tryz.prog) (.inl rfl) Tryz.results41 rfl <| ?_
              exact fun w' h => ⟨by rw [hz4], h.frm⟩
             ·
              iterate 7 refine WL.sk rfl ?_
              refine WL.v (v_pick_t rfl rfl rfl) rfl <| WL.nt <| WC.cond_t rfl <| WC.seq <| WC.region <| WL.v (v_assign rfl rfl) rfl <| WL.nt <| WC.ret <| WE.then_ret <| WE.ret1 (P := Tryz.prog) (.inl rfl) Tryz.results41 rfl <| ?_
              exact fun w' h => ⟨by rw [hz4], h.frm⟩
        ·
         iterate 3 refine WL.sk rfl ?_
         generalize hb4 : hasB a.has 4 = b80
         cases b80
         ·
          iterate 6 refine WL.sk rfl ?_
          refine WL.v (v_pick_t rfl rfl rfl) rfl <| WL.v (v_move rfl rfl) rfl <| ?_
          iterate 3 refine WL.sk rfl ?_
          generalize hb5 : hasB a.has 5 = b91
          cases b91
          ·
           iterate 6 refine WL.sk rfl ?_
           refine WL.v (v_pick_t rfl rfl rfl) rfl <| WL.v (v_move rfl rfl) rfl <| ?_
           iterate 3 refine WL.sk rfl ?_
           generalize hb7 : hasB a.has 7 = b102
           cases b102
           ·
            iterate 11 refine WL.sk rfl ?_
            refine WL.v (v_pick_t rfl rfl rfl) rfl <| WL.v (v_move rfl rfl) rfl <| ?_
            iterate 3 refine WL.sk rfl ?_
            generalize hb8 : hasB a.has 8 = b118
            cases b118
            ·
             iterate 7 refine WL.sk rfl ?_
             refine WL.v (v_pick_t rfl rfl rfl) rfl <| WL.nt <| WC.cond_t rfl <| WC.seq <| WC.region <| WL.v (v_assign rfl rfl) rfl <| WL.nt <| WC.ret <| WE.then_ret <| WE.ret1 (P := Tryz.prog) (.inl rfl) Tryz.results41 rfl <| ?_
             exact fun w' h => ⟨by rw [hz2], h.frm⟩
            ·
             iterate 7 refine WL.sk rfl ?_
             refine WL.v (v_pick_t rfl rfl rfl) rfl <| WL.nt <| WC.cond_t rfl <| WC.seq <| WC.region <| WL.v (v_assign rfl rfl) rfl <| WL.nt <| WC.ret <| WE.then_ret <| WE.ret1 (P := Tryz.prog) (.inl rfl) Tryz.results41 rfl <| ?_
             exact fun w' h => ⟨by rw [hz2], h.frm⟩
           ·
            iterate 11 refine WL.sk rfl ?_
            refine WL.v (v_pick_t rfl rfl rfl) rfl <| WL.v (v_move rfl rfl) rfl <| ?_
            iterate 3 refine WL.sk rfl ?_
            generalize hb8 : hasB a.has 8 = b118
            cases b118
            ·
             iterate 7 refine WL.sk rfl ?_
             refine WL.v (v_pick_t rfl rfl rfl) rfl <| WL.nt <| WC.cond_t rfl <| WC.seq <| WC.region <| WL.v (v_assign rfl rfl) rfl <| WL.nt <| WC.ret <| WE.then_ret <| WE.ret1 (P := Tryz.prog) (.inl rfl) Tryz.results41 rfl <| ?_
             exact fun w' h => ⟨by rw [hz2], h.frm⟩
            ·
             iterate 7 refine WL.sk rfl ?_
             refine WL.v (v_pick_t rfl rfl rfl) rfl <| WL.nt <| WC.cond_t rfl <| WC.seq <| WC.region <| WL.v (v_assign rfl rfl) rfl <| WL.nt <| WC.ret <| WE.then_ret <| WE.ret1 (P := Tryz.prog) (.inl rfl) Tryz.results41 rfl <| ?_
             exact fun w' h => ⟨by rw [hz2], h.frm⟩
          ·
           iterate 6 refine WL.sk rfl ?_
           refine WL.v (v_pick_t rfl rfl rfl) rfl <| WL.v (v_move rfl rfl) rfl <| ?_
           iterate 3 refine WL.sk rfl ?_
           generalize hb7 : hasB a.has 7 = b102
           cases b102
           ·
            iterate 11 refine WL.sk rfl ?_
            refine WL.v (v_pick_t rfl rfl rfl) rfl <| WL.v (v_move rfl rfl) rfl <| ?_
            iterate 3 refine WL.sk rfl ?_
            generalize hb8 : hasB a.has 8 = b118
            cases b118
            ·
             iterate 7 refine WL.sk rfl ?_
             refine WL.v (v_pick_t rfl rfl rfl) rfl <| WL.nt <| WC.cond_t rfl <| WC.seq <| WC.region <| WL.v (v_assign rfl rfl) rfl <| WL.nt <| WC.ret <| WE.then_ret <| WE.ret1 (P := Tryz.prog) (.inl rfl) Tryz.results41 rfl <| ?_
             exact fun w' h => ⟨by rw [hz2], h.frm⟩
            ·
             iterate 7 refine WL.sk rfl ?_
             refine WL.v (v_pick_t rfl rfl rfl) rfl <| WL.nt <| WC.cond_t rfl <| WC.seq <| WC.region <| WL.v (v_assign rfl rfl) rfl <| WL.nt <| WC.ret <| WE.then_ret <| WE.ret1 (P := Tryz.prog) (.inl rfl) Tryz.results41 rfl <| ?_
             exact fun w' h => ⟨by rw [hz2], h.frm⟩
           ·
            iterate 11 refine WL.sk rfl ?_
            refine WL.v (v_pick_t rfl rfl rfl) rfl <| WL.v (v_move rfl rfl) rfl <| ?_
            iterate 3 refine WL.sk rfl ?_
            generalize hb8 : hasB a.has 8 = b118
            cases b118
            ·
             iterate 7 refine WL.sk rfl ?_
             refine WL.v (v_pick_t rfl rfl rfl) rfl <| WL.nt <| WC.cond_t rfl <| WC.seq <| WC.region <| WL.v (v_assign rfl rfl) rfl <| WL.nt <| WC.ret <| WE.then_ret <| WE.ret1 (P := Tryz.prog) (.inl rfl) Tryz.results41 rfl <| ?_
             exact fun w' h => ⟨by rw [hz2], h.frm⟩
            ·
             iterate 7 refine WL.sk rfl ?_
             refine WL.v (v_pick_t rfl rfl rfl) rfl <| WL.nt <| WC.cond_t rfl <| WC.seq <| WC.region <| WL.v (v_assign rfl rfl) rfl <| WL.nt <| WC.ret <| WE.then_ret <| WE.ret1 (P := Tryz.prog) (.inl rfl) Tryz.results41 rfl <| ?_
             exact fun w' h => ⟨by rw [hz2], h.frm⟩
         ·
          iterate 6 refine WL.sk rfl ?_
          refine WL.v (v_pick_t rfl rfl rfl) rfl <| WL.v (v_move rfl rfl) rfl <| ?_
          iterate 3 refine WL.sk rfl ?_
          generalize hb5 : hasB a.has 5 = b91
          cases b91
          ·
           iterate 6 refine WL.sk rfl ?_
           refine WL.v (v_pick_t rfl rfl rfl) rfl <| WL.v (v_move rfl rfl) rfl <| ?_
           iterate 3 refine WL.sk rfl ?_
           generalize hb7 : hasB a.has 7 = b102
           cases b102
           ·
            iterate 11 refine WL.sk rfl ?_
            refine WL.v (v_pick_t rfl rfl rfl) rfl <| WL.v (v_move rfl rfl) rfl <| ?_
            iterate 3 refine WL.sk rfl ?_
            generalize hb8 : hasB a.has 8 = b118
            cases b118
            ·
             iterate 7 refine WL.sk rfl ?_
             refine WL.v (v_pick_t rfl rfl rfl) rfl <| WL.nt <| WC.cond_t rfl <| WC.seq <| WC.region <| WL.v (v_assign rfl rfl) rfl <| WL.nt <| WC.ret <| WE.then_ret <| WE.ret1 (P := Tryz.prog) (.inl rfl) Tryz.results41 rfl <| ?_
             exact fun w' h => ⟨by rw [hz2], h.frm⟩
            ·
             iterate 7 refine WL.sk rfl ?_
             refine WL.v (v_pick_t rfl rfl rfl) rfl <| WL.nt <| WC.cond_t rfl <| WC.seq <| WC.region <| WL.v (v_assign rfl rfl) rfl <| WL.nt <| WC.ret <| WE.then_ret <| WE.ret1 (P := Tryz.prog) (.inl rfl) Tryz.results41 rfl <| ?_
             exact fun w' h => ⟨by rw [hz2], h.frm⟩
           ·
            iterate 11 refine WL.sk rfl ?_
            refine WL.v (v_pick_t rfl rfl rfl) rfl <| WL.v (v_move rfl rfl) rfl <| ?_
            iterate 3 refine WL.sk rfl ?_
            generalize hb8 : hasB a.has 8 = b118
            cases b118
            ·
             iterate 7 refine WL.sk rfl ?_
             refine WL.v (v_pick_t rfl rfl rfl) rfl <| WL.nt <| WC.cond_t rfl <| WC.seq <| WC.region <| WL.v (v_assign rfl rfl) rfl <| WL.nt <| WC.ret <| WE.then_ret <| WE.ret1 (P := Tryz.prog) (.inl rfl) Tryz.results41 rfl <| ?_
             exact fun w' h => ⟨by rw [hz2], h.frm⟩
            ·
             iterate 7 refine WL.sk rfl ?_
             refine WL.v (v_pick_t rfl rfl rfl) rfl <| WL.nt <| WC.cond_t rfl <| WC.seq <| WC.region <| WL.v (v_assign rfl rfl) rfl <| WL.nt <| WC.ret <| WE.then_ret <| WE.ret1 (P := Tryz.prog) (.inl rfl) Tryz.results41 rfl <| ?_
             exact fun w' h => ⟨by rw [hz2], h.frm⟩
          ·
           iterate 6 refine WL.sk rfl ?_
           refine WL.v (v_pick_t rfl rfl rfl) rfl <| WL.v (v_move rfl rfl) rfl <| ?_
           iterate 3 refine WL.sk rfl ?_
           generalize hb7 : hasB a.has 7 = b102
           cases b102
           ·
            iterate 11 refine WL.sk rfl ?_
            refine WL.v (v_pick_t rfl rfl rfl) rfl <| WL.v (v_move rfl rfl) rfl <| ?_
            iterate 3 refine WL.sk rfl ?_
            generalize hb8 : hasB a.has 8 = b118
            cases b118
            ·
             iterate 7 refine WL.sk rfl ?_
             refine WL.v (v_pick_t rfl rfl rfl) rfl <| WL.nt <| WC.cond_t rfl <| WC.seq <| WC.region <| WL.v (v_assign rfl rfl) rfl <| WL.nt <| WC.ret <| WE.then_ret <| WE.ret1 (P := Tryz.prog) (.inl rfl) Tryz.results41 rfl <| ?_
             exact fun w' h => ⟨by rw [hz2], h.frm⟩
            ·
             iterate 7 refine WL.sk rfl ?_
             refine WL.v (v_pick_t rfl rfl rfl) rfl <| WL.nt <| WC.cond_t rfl <| WC.seq <| WC.region <| WL.v (v_assign rfl rfl) rfl <| WL.nt <| WC.ret <| WE.then_ret <| WE.ret1 (P := Tryz.prog) (.inl rfl) Tryz.results41 rfl <| ?_
             exact fun w' h => ⟨by rw [hz2], h.frm⟩
           ·
            iterate 11 refine WL.sk rfl ?_
            refine WL.v (v_pick_t rfl rfl rfl) rfl <| WL.v (v_move rfl rfl) rfl <| ?_
            iterate 3 refine WL.sk rfl ?_
            generalize hb8 : hasB a.has 8 = b118
            cases b118
            ·
             iterate 7 refine WL.sk rfl ?_
             refine WL.v (v_pick_t rfl rfl rfl) rfl <| WL.nt <| WC.cond_t rfl <| WC.seq <| WC.region <| WL.v (v_assign rfl rfl) rfl <| WL.nt <| WC.ret <| WE.then_ret <| WE.ret1 (P := Tryz.prog) (.inl rfl) Tryz.results41 rfl <| ?_
             exact fun w' h => ⟨by rw [hz2], h.frm⟩
            ·
             iterate 7 refine WL.sk rfl ?_
             refine WL.v (v_pick_t rfl rfl rfl) rfl <| WL.nt <| WC.cond_t rfl <| WC.seq <| WC.region <| WL.v (v_assign rfl rfl) rfl <| WL.nt <| WC.ret <| WE.then_ret <| WE.ret1 (P := Tryz.prog) (.inl rfl) Tryz.results41 rfl <| ?_
             exact fun w' h => ⟨by rw [hz2], h.frm⟩
      ·
       iterate 3 refine WL.sk rfl ?_
       generalize hb2 : hasB a.has 2 = b68
       cases b68
       ·
        iterate 7 refine WL.sk rfl ?_
        refine WL.v (v_pick_t rfl rfl rfl) rfl <| WL.v (v_move rfl rfl) rfl <| ?_
        iterate 3 refine WL.sk rfl ?_
        generalize hb4 : hasB a.has 4 = b80
        cases b80
        ·
         iterate 6 refine WL.sk rfl ?_
         refine WL.v (v_pick_t rfl rfl rfl) rfl <| WL.v (v_move rfl rfl) rfl <| ?_
         iterate 3 refine WL.sk rfl ?_
         generalize hb5 : hasB a.has 5 = b91
         cases b91
         ·
          iterate 6 refine WL.sk rfl ?_
          refine WL.v (v_pick_t rfl rfl rfl) rfl <| WL.v (v_move rfl rfl) rfl <| ?_
          iterate 3 refine WL.sk rfl ?_
          generalize hb7 : hasB a.has 7 = b102
          cases b102
          ·
           iterate 11 refine WL.sk rfl ?_
           refine WL.v (v_pick_t rfl rfl rfl) rfl <| WL.v (v_move rfl rfl) rfl <| ?_
           iterate 3 refine WL.sk rfl ?_
           generalize hb8 : hasB a.has 8 = b118
           cases b118
           ·
            iterate 7 refine WL.sk rfl ?_
            refine WL.v (v_pick_t rfl rfl rfl) rfl <| WL.nt <| WC.cond_t rfl <| WC.seq <| WC.region <| WL.v (v_assign rfl rfl) rfl <| WL.nt <| WC.ret <| WE.then_ret <| WE.ret1 (P := Tryz.prog) (.inl rfl) Tryz.results41 rfl <| ?_
            exact fun w' h => ⟨by rw [hz1], h.frm⟩
           ·
            iterate 7 refine WL.sk rfl ?_
            refine WL.v (v_pick_t rfl rfl rfl) rfl <| WL.nt <| WC.cond_t rfl <| WC.seq <| WC.region <| WL.v (v_assign rfl rfl) rfl <| WL.nt <| WC.ret <| WE.then_ret <| WE.ret1 (P := Tryz.prog) (.inl rfl) Tryz.results41 rfl <| ?_
            exact fun w' h => ⟨by rw [hz1], h.frm⟩
          ·
           iterate 11 refine WL.sk rfl ?_
           refine WL.v (v_pick_t rfl rfl rfl) rfl <| WL.v (v_move rfl rfl) rfl <| ?_
           iterate 3 refine WL.sk rfl ?_
           generalize hb8 : hasB a.has 8 = b118
           cases b118
           ·
            iterate 7 refine WL.sk rfl ?_
            refine WL.v (v_pick_t rfl rfl rfl) rfl <| WL.nt <| WC.cond_t rfl <| WC.seq <| WC.region <| WL.v (v_assign rfl rfl) rfl <| WL.nt <| WC.ret <| WE.then_ret <| WE.ret1 (P := Tryz.prog) (.inl rfl) Tryz.results41 rfl <| ?_
            exact fun w' h => ⟨by rw [hz1], h.frm⟩
           ·
            iterate 7 refine WL.sk rfl ?_
            refine WL.v (v_pick_t rfl rfl rfl) rfl <| WL.nt <| WC.cond_t rfl <| WC.seq <| WC.region <| WL.v (v_assign rfl rfl) rfl <| WL.nt <| WC.ret <| WE.then_ret <| WE.ret1 (P := Tryz.prog) (.inl rfl) Tryz.results41 rfl <| ?_
            exact fun w' h => ⟨by rw [hz1], h.frm⟩
         ·
          iterate 6 refine WL.sk rfl ?_
          refine WL.v (v_pick_t rfl rfl rfl) rfl <| WL.v (v_move rfl rfl) rfl <| ?_
          iterate 3 refine WL.sk rfl ?_
          generalize hb7 : hasB a.has 7 = b102
          cases b102
          ·
           iterate 11 refine WL.sk rfl ?_
           refine WL.v (v_pick_t rfl rfl rfl) rfl <| WL.v (v_move rfl rfl) rfl <| ?_
           iterate 3 refine WL.sk rfl ?_
           generalize hb8 : hasB a.has 8 = b118
           cases b118
           ·
            iterate 7 refine WL.sk rfl ?_
            refine WL.v (v_pick_t rfl rfl rfl) rfl <| WL.nt <| WC.cond_t rfl <| WC.seq <| WC.region <| WL.v (v_assign rfl rfl) rfl <| WL.nt <| WC.ret <| WE.then_ret <| WE.ret1 (P := Tryz.prog) (.inl rfl) Tryz.results41 rfl <| ?_
            exact fun w' h => ⟨by rw [hz1], h.frm⟩
           ·
            iterate 7 refine WL.sk rfl ?_
            refine WL.v (v_pick_t rfl rfl rfl) rfl <| WL.nt <| WC.cond_t rfl <| WC.seq <| WC.region <| WL.v (v_assign rfl rfl) rfl <| WL.nt <| WC.ret <| WE.then_ret <| WE.ret1 (P := Tryz.prog) (.inl rfl) Tryz.results41 rfl <| ?_
            exact fun w' h => ⟨by rw [hz1], h.frm⟩
          ·
           iterate 11 refine WL.sk rfl ?_
           refine WL.v (v_pick_t rfl rfl rfl) rfl <| WL.v (v_move rfl rfl) rfl <| ?_
           iterate 3 refine WL.sk rfl ?_
           generalize hb8 : hasB a.has 8 = b118
           cases b118
           ·
            iterate 7 refine WL.sk rfl ?_
            refine WL.v (v_pick_t rfl rfl rfl) rfl <| WL.nt <| WC.cond_t rfl <| WC.seq <| WC.region <| WL.v (v_assign rfl rfl) rfl <| WL.nt <| WC.ret <| WE.then_ret <| WE.ret1 (P := Tryz.prog) (.inl rfl) Tryz.results41 rfl <| ?_
            exact fun w' h => ⟨by rw [hz1], h.frm⟩
           ·
            iterate 7 refine WL.sk rfl ?_
            refine WL.v (v_pick_t rfl rfl rfl) rfl <| WL.nt <| WC.cond_t rfl <| WC.seq <| WC.region <| WL.v (v_assign rfl rfl) rfl <| WL.nt <| WC.ret <| WE.then_ret <| WE.ret1 (P := Tryz.prog) (.inl rfl) Tryz.results41 rfl <| ?_
            exact fun w' h => ⟨by rw [hz1], h.frm⟩
        ·
         iterate 6 refine WL.sk rfl ?_
         refine WL.v (v_pick_t rfl rfl rfl) rfl <| WL.v (v_move rfl rfl) rfl <| ?_
         iterate 3 refine WL.sk rfl ?_
         generalize hb5 : hasB a.has 5 = b91
         cases b91
         ·
          iterate 6 refine WL.sk rfl ?_
          refine WL.v (v_pick_t rfl rfl rfl) rfl <| WL.v (v_move rfl rfl) rfl <| ?_
          iterate 3 refine WL.sk rfl ?_
          generalize hb7 : hasB a.has 7 = b102
          cases b102
          ·
           iterate 11 refine WL.sk rfl ?_
           refine WL.v (v_pick_t rfl rfl rfl) rfl <| WL.v (v_move rfl rfl) rfl <| ?_
           iterate 3 refine WL.sk rfl ?_
           generalize hb8 : hasB a.has 8 = b118
           cases b118
           ·
            iterate 7 refine WL.sk rfl ?_
            refine WL.v (v_pick_t rfl rfl rfl) rfl <| WL.nt <| WC.cond_t rfl <| WC.seq <| WC.region <| WL.v (v_assign rfl rfl) rfl <| WL.nt <| WC.ret <| WE.then_ret <| WE.ret1 (P := Tryz.prog) (.inl rfl) Tryz.results41 rfl <| ?_
            exact fun w' h => ⟨by rw [hz1], h.frm⟩
           ·
            iterate 7 refine WL.sk rfl ?_
            refine WL.v (v_pick_t rfl rfl rfl) rfl <| WL.nt <| WC.cond_t rfl <| WC.seq <| WC.region <| WL.v (v_assign rfl rfl) rfl <| WL.nt <| WC.ret <| WE.then_ret <| WE.ret1 (P := Tryz.prog) (.inl rfl) Tryz.results41 rfl <| ?_
            exact fun w' h => ⟨by rw [hz1], h.frm⟩
          ·
           iterate 11 refine WL.sk rfl ?_
           refine WL.v (v_pick_t rfl rfl rfl) rfl <| WL.v (v_move rfl rfl) rfl <| ?_
           iterate 3 refine WL.sk rfl ?_
           generalize hb8 : hasB a.has 8 = b118
           cases b118
           ·
            iterate 7 refine WL.sk rfl ?_
            refine WL.v (v_pick_t rfl rfl rfl) rfl <| WL.nt <| WC.cond_t rfl <| WC.seq <| WC.region <| WL.v (v_assign rfl rfl) rfl <| WL.nt <| WC.ret <| WE.then_ret <| WE.ret1 (P := Tryz.prog) (.inl rfl) Tryz.results41 rfl <| ?_
            exact fun w' h => ⟨by rw [hz1], h.frm⟩
           ·
            iterate 7 refine WL.sk rfl ?_
            refine WL.v (v_pick_t rfl rfl rfl) rfl <| WL.nt <| WC.cond_t rfl <| WC.seq <| WC.region <| WL.v (v_assign rfl rfl) rfl <| WL.nt <| WC.ret <| WE.then_ret <| WE.ret1 (P := Tryz.prog) (.inl rfl) Tryz.results41 rfl <| ?_
            exact fun w' h => ⟨by rw [hz1], h.frm⟩
         ·
          iterate 6 refine WL.sk rfl ?_
          refine WL.v (v_pick_t rfl rfl rfl) rfl <| WL.v (v_move rfl rfl) rfl <| ?_
          iterate 3 refine WL.sk rfl ?_
          generalize hb7 : hasB a.has 7 = b102
          cases b102
          ·
           iterate 11 refine WL.sk rfl ?_
           refine WL.v (v_pick_t rfl rfl rfl) rfl <| WL.v (v_move rfl rfl) rfl <| ?_
           iterate 3 refine WL.sk rfl ?_
           generalize hb8 : hasB a.has 8 = b118
           cases b118
           ·
            iterate 7 refine WL.sk rfl ?_
            refine WL.v (v_pick_t rfl rfl rfl) rfl <| WL.nt <| WC.cond_t rfl <| WC.seq <| WC.region <| WL.v (v_assign rfl rfl) rfl <| WL.nt <| WC.ret <| WE.then_ret <| WE.ret1 (P := Tryz.prog) (.inl rfl) Tryz.results41 rfl <| ?_
            exact fun w' h => ⟨by rw [hz1], h.frm⟩
           ·
            iterate 7 refine WL.sk rfl ?_
            refine WL.v (v_pick_t rfl rfl rfl) rfl <| WL.nt <| WC.cond_t rfl <| WC.seq <| WC.region <| WL.v (v_assign rfl rfl) rfl <| WL.nt <| WC.ret <| WE.then_ret <| WE.ret1 (P := Tryz.prog) (.inl rfl) Tryz.results41 rfl <| ?_
            exact fun w' h => ⟨by rw [hz1], h.frm⟩
          ·
           iterate 11 refine WL.sk rfl ?_
           refine WL.v (v_pick_t rfl rfl rfl) rfl <| WL.v (v_move rfl rfl) rfl <| ?_
           iterate 3 refine WL.sk rfl ?_
           generalize hb8 : hasB a.has 8 = b118
           cases b118
           ·
            iterate 7 refine WL.sk rfl ?_
            refine WL.v (v_pick_t rfl rfl rfl) rfl <| WL.nt <| WC.cond_t rfl <| WC.seq <| WC.region <| WL.v (v_assign rfl rfl) rfl <| WL.nt <| WC.ret <| WE.then_ret <| WE.ret1 (P := Tryz.prog) (.inl rfl) Tryz.results41 rfl <| ?_
            exact fun w' h => ⟨by rw [hz1], h.frm⟩
           ·
            iterate 7 refine WL.sk rfl ?_
            refine WL.v (v_pick_t rfl rfl rfl) rfl <| WL.nt <| WC.cond_t rfl <| WC.seq <| WC.region <| WL.v (v_assign rfl rfl) rfl <| WL.nt <| WC.ret <| WE.then_ret <| WE.ret1 (P := Tryz.prog) (.inl rfl) Tryz.results41 rfl <| ?_
            exact fun w' h => ⟨by rw [hz1], h.frm⟩
       ·
        iterate 7 refine WL.sk rfl ?_
        refine WL.v (v_pick_t rfl rfl rfl) rfl <| WL.v (v_move rfl rfl) rfl <| ?_
        iterate 3 refine WL.sk rfl ?_
        generalize hb4 : hasB a.has 4 = b80
        cases b80
        ·
         iterate 6 refine WL.sk rfl ?_
         refine WL.v (v_pick_t rfl rfl rfl) rfl <| WL.v (v_move rfl rfl) rfl <| ?_
         iterate 3 refine WL.sk rfl ?_
         generalize hb5 : hasB a.has 5 = b91
         cases b91
         ·
          iterate 6 refine WL.sk rfl ?_
          refine WL.v (v_pick_t rfl rfl rfl) rfl <| WL.v (v_move rfl rfl) rfl <| ?_
          iterate 3 refine WL.sk rfl ?_
          generalize hb7 : hasB a.has 7 = b102
          cases b102
          ·
           iterate 11 refine WL.sk rfl ?_
           refine WL.v (v_pick_t rfl rfl rfl) rfl <| WL.v (v_move rfl rfl) rfl <| ?_
           iterate 3 refine WL.sk rfl ?_
           generalize hb8 : hasB a.has 8 = b118
           cases b118
           ·
            iterate 7 refine WL.sk rfl ?_
            refine WL.v (v_pick_t rfl rfl rfl) rfl <| WL.nt <| WC.cond_t rfl <| WC.seq <| WC.region <| WL.v (v_assign rfl rfl) rfl <| WL.nt <| WC.ret <| WE.then_ret <| WE.ret1 (P := Tryz.prog) (.inl rfl) Tryz.results41 rfl <| ?_
            exact fun w' h => ⟨by rw [hz1], h.frm⟩
           ·
            iterate 7 refine WL.sk rfl ?_
            refine WL.v (v_pick_t rfl rfl rfl) rfl <| WL.nt <| WC.cond_t rfl <| WC.seq <| WC.region <| WL.v (v_assign rfl rfl) rfl <| WL.nt <| WC.ret <| WE.then_ret <| WE.ret1 (P := Tryz.prog) (.inl rfl) Tryz.results41 rfl <| ?_
            exact fun w' h => ⟨by rw [hz1], h.frm⟩
          ·
           iterate 11 refine WL.sk rfl ?_
           refine WL.v (v_pick_t rfl rfl rfl) rfl <| WL.v (v_move rfl rfl) rfl <| ?_
           iterate 3 refine WL.sk rfl ?_
           generalize hb8 : hasB a.has 8 = b118
           cases b118
           ·
            iterate 7 refine WL.sk rfl ?_
            refine WL.v (v_pick_t rfl rfl rfl) rfl <| WL.nt <| WC.cond_t rfl <| WC.seq <| WC.region <| WL.v (v_assign rfl rfl) rfl <| WL.nt <| WC.ret <| WE.then_ret <| WE.ret1 (P := Tryz.prog) (.inl rfl) Tryz.results41 rfl <| ?_
            exact fun w' h => ⟨by rw [hz1], h.frm⟩
           ·
            iterate 7 refine WL.sk rfl ?_
            refine WL.v (v_pick_t rfl rfl rfl) rfl <| WL.nt <| WC.cond_t rfl <| WC.seq <| WC.region <| WL.v (v_assign rfl rfl) rfl <| WL.nt <| WC.ret <| WE.then_ret <| WE.ret1 (P := Tryz.prog) (.inl rfl) Tryz.results41 rfl <| ?_
            exact fun w' h => ⟨by rw [hz1], h.frm⟩
         ·
          iterate 6 refine WL.sk rfl ?_
          refine WL.v (v_pick_t rfl rfl rfl) rfl <| WL.v (v_move rfl rfl) rfl <| ?_
          iterate 3 refine WL.sk rfl ?_
          generalize hb7 : hasB a.has 7 = b102
          cases b102
          ·
           iterate 11 refine WL.sk rfl ?_
           refine WL.v (v_pick_t rfl rfl rfl) rfl <| WL.v (v_move rfl rfl) rfl <| ?_
           iterate 3 refine WL.sk rfl ?_
           generalize hb8 : hasB a.has 8 = b118
           cases b118
           ·
            iterate 7 refine WL.sk rfl ?_
            refine WL.v (v_pick_t rfl rfl rfl) rfl <| WL.nt <| WC.cond_t rfl <| WC.seq <| WC.region <| WL.v (v_assign rfl rfl) rfl <| WL.nt <| WC.ret <| WE.then_ret <| WE.ret1 (P := Tryz.prog) (.inl rfl) Tryz.results41 rfl <| ?_
            exact fun w' h => ⟨by rw [hz1], h.frm⟩
           ·
            iterate 7 refine WL.sk rfl ?_
            refine WL.v (v_pick_t rfl rfl rfl) rfl <| WL.nt <| WC.cond_t rfl <| WC.seq <| WC.region <| WL.v (v_assign rfl rfl) rfl <| WL.nt <| WC.ret <| WE.then_ret <| WE.ret1 (P := Tryz.prog) (.inl rfl) Tryz.results41 rfl <| ?_
            exact fun w' h => ⟨by rw [hz1], h.frm⟩
          ·
           iterate 11 refine WL.sk rfl ?_
           refine WL.v (v_pick_t rfl rfl rfl) rfl <| WL.v (v_move rfl rfl) rfl <| ?_
           iterate 3 refine WL.sk rfl ?_
           generalize hb8 : hasB a.has 8 = b118
           cases b118
           ·
            iterate 7 refine WL.sk rfl ?_
            refine WL.v (v_pick_t rfl rfl rfl) rfl <| WL.nt <| WC.cond_t rfl <| WC.seq <| WC.region <| WL.v (v_assign rfl rfl) rfl <| WL.nt <| WC.ret <| WE.then_ret <| WE.ret1 (P := Tryz.prog) (.inl rfl) Tryz.results41 rfl <| ?_
            exact fun w' h => ⟨by rw [hz1], h.frm⟩
           ·
            iterate 7 refine WL.sk rfl ?_
            refine WL.v (v_pick_t rfl rfl rfl) rfl <| WL.nt <| WC.cond_t rfl <| WC.seq <| WC.region <| WL.v (v_assign rfl rfl) rfl <| WL.nt <| WC.ret <| WE.then_ret <| WE.ret1 (P := Tryz.prog) (.inl rfl) Tryz.results41 rfl <| ?_
            exact fun w' h => ⟨by rw [hz1], h.frm⟩
        ·
         iterate 6 refine WL.sk rfl ?_
         refine WL.v (v_pick_t rfl rfl rfl) rfl <| WL.v (v_move rfl rfl) rfl <| ?_
         iterate 3 refine WL.sk rfl ?_
         generalize hb5 : hasB a.has 5 = b91
         cases b91
         ·
          iterate 6 refine WL.sk rfl ?_
          refine WL.v (v_pick_t rfl rfl rfl) rfl <| WL.v (v_move rfl rfl) rfl <| ?_
          iterate 3 refine WL.sk rfl ?_
          generalize hb7 : hasB a.has 7 = b102
          cases b102
          ·
           iterate 11 refine WL.sk rfl ?_
           refine WL.v (v_pick_t rfl rfl rfl) rfl <| WL.v (v_move rfl rfl) rfl <| ?_
           iterate 3 refine WL.sk rfl ?_
           generalize hb8 : hasB a.has 8 = b118
           cases b118
           ·
            iterate 7 refine WL.sk rfl ?_
            refine WL.v (v_pick_t rfl rfl rfl) rfl <| WL.nt <| WC.cond_t rfl <| WC.seq <| WC.region <| WL.v (v_assign rfl rfl) rfl <| WL.nt <| WC.ret <| WE.then_ret <| WE.ret1 (P := Tryz.prog) (.inl rfl) Tryz.results41 rfl <| ?_
            exact fun w' h => ⟨by rw [hz1], h.frm⟩
           ·
            iterate 7 refine WL.sk rfl ?_
            refine WL.v (v_pick_t rfl rfl rfl) rfl <| WL.nt <| WC.cond_t rfl <| WC.seq <| WC.region <| WL.v (v_assign rfl rfl) rfl <| WL.nt <| WC.ret <| WE.then_ret <| WE.ret1 (P := Tryz.prog) (.inl rfl) Tryz.results41 rfl <| ?_
            exact fun w' h => ⟨by rw [hz1], h.frm⟩
          ·
           iterate 11 refine WL.sk rfl ?_
           refine WL.v (v_pick_t rfl rfl rfl) rfl <| WL.v (v_move rfl rfl) rfl <| ?_
           iterate 3 refine WL.sk rfl ?_
           generalize hb8 : hasB a.has 8 = b118
           cases b118
           ·
            iterate 7 refine WL.sk rfl ?_
            refine WL.v (v_pick_t rfl rfl rfl) rfl <| WL.nt <| WC.cond_t rfl <| WC.seq <| WC.region <| WL.v (v_assign rfl rfl) rfl <| WL.nt <| WC.ret <| WE.then_ret <| WE.ret1 (P := Tryz.prog) (.inl rfl) Tryz.results41 rfl <| ?_
            exact fun w' h => ⟨by rw [hz1], h.frm⟩
           ·
            iterate 7 refine WL.sk rfl ?_
            refine WL.v (v_pick_t rfl rfl rfl) rfl <| WL.nt <| WC.cond_t rfl <| WC.seq <| WC.region <| WL.v (v_assign rfl rfl) rfl <| WL.nt <| WC.ret <| WE.then_ret <| WE.ret1 (P := Tryz.prog) (.inl rfl) Tryz.results41 rfl <| ?_
            exact fun w' h => ⟨by rw [hz1], h.frm⟩
         ·
          iterate 6 refine WL.sk rfl ?_
          refine WL.v (v_pick_t rfl rfl rfl) rfl <| WL.v (v_move rfl rfl) rfl <| ?_
          iterate 3 refine WL.sk rfl ?_
          generalize hb7 : hasB a.has 7 = b102
          cases b102
          ·
           iterate 11 refine WL.sk rfl ?_
           refine WL.v (v_pick_t rfl rfl rfl) rfl <| WL.v (v_move rfl rfl) rfl <| ?_
           iterate 3 refine WL.sk rfl ?_
           generalize hb8 : hasB a.has 8 = b118
           cases b118
           ·
            iterate 7 refine WL.sk rfl ?_
            refine WL.v (v_pick_t rfl rfl rfl) rfl <| WL.nt <| WC.cond_t rfl <| WC.seq <| WC.region <| WL.v (v_assign rfl rfl) rfl <| WL.nt <| WC.ret <| WE.then_ret <| WE.ret1 (P := Tryz.prog) (.inl rfl) Tryz.results41 rfl <| ?_
            exact fun w' h => ⟨by rw [hz1], h.frm⟩
           ·
            iterate 7 refine WL.sk rfl ?_
            refine WL.v (v_pick_t rfl rfl rfl) rfl <| WL.nt <| WC.cond_t rfl <| WC.seq <| WC.region <| WL.v (v_assign rfl rfl) rfl <| WL.nt <| WC.ret <| WE.then_ret <| WE.ret1 (P := Tryz.prog) (.inl rfl) Tryz.results41 rfl <| ?_
            exact fun w' h => ⟨by rw [hz1], h.frm⟩
          ·
           iterate 11 refine WL.sk rfl ?_
           refine WL.v (v_pick_t rfl rfl rfl) rfl <| WL.v (v_move rfl rfl) rfl <| ?_
           iterate 3 refine WL.sk rfl ?_
           generalize hb8 : hasB a.has 8 = b118
           cases b118
           ·
            iterate 7 refine WL.sk rfl ?_
            refine WL.v (v_pick_t rfl rfl rfl) rfl <| WL.nt <| WC.cond_t rfl <| WC.seq <| WC.region <| WL.v (v_assign rfl rfl) rfl <| WL.nt <| WC.ret <| WE.then_ret <| WE.ret1 (P := Tryz.prog) (.inl rfl) Tryz.results41 rfl <| ?_
            exact fun w' h => ⟨by rw [hz1], h.frm⟩
           ·
            iterate 7 refine WL.sk rfl ?_
            refine WL.v (v_pick_t rfl rfl rfl) rfl <| WL.nt <| WC.cond_t rfl <| WC.seq <| WC.region <| WL.v (v_assign rfl rfl) rfl <| WL.nt <| WC.ret <| WE.then_ret <| WE.ret1 (P := Tryz.prog) (.inl rfl) Tryz.results41 rfl <| ?_
            exact fun w' h => ⟨by rw [hz1], h.frm⟩
    ·
     rintro _ hz
     refine WC.cut (fun _ : Unit => [(3, .int .i64 4294967295), (1, .pointer (some ⟨g1, 0, none⟩))]) (fun _ => [.row g1 a.rcells]) (fun _ => (hasB a.has 3 = false → a.hop = 0) ∧ (hasB a.has 3 = true → hopB a.hop = true)) ?_ ?_
     ·
      refine WC.seq <| WC.region <| WL.v (v_fieldAddr0 rfl rfl fld_48_0) rfl <| WL.v (v_load1 rfl rfl one_3 (cellAt rfl)) rfl <| WL.call rfl rfl ck_42 (.none rfl) rfl rfl <| ?_
      intro w hS
      refine Calls.then (RThere_c _ a.has 3 hkn.1 (by omega) (by omega)) hS ?_
      generalize hb3 : hasB a.has 3 = b129
      cases b129
      ·
       refine WL.v (v_move rfl rfl) rfl ?_
       iterate 4 refine WL.sk rfl ?_
       refine WL.v (v_pick_f rfl rfl rfl) rfl <| WL.v (v_move rfl rfl) rfl <| WL.val (v_fieldAddr0 rfl rfl fld_48_0) (.some rfl rfl rfl) rfl rfl <| WL.val (v_load1 rfl rfl one_3 (cellAt rfl)) (.some rfl rfl rfl) rfl rfl <| WL.call rfl rfl ck_42 (.some rfl rfl rfl) rfl rfl <| ?_
       intro w hS
       refine Calls.then (by have := RThere_c w a.has 3 hkn.1 (by omega) (by omega); rw [hb3] at this; exact this) hS ?_
       refine WL.val (v_not rfl rfl rfl) (.some rfl rfl rfl) rfl rfl <| WL.val (v_move rfl rfl) (.some rfl rfl rfl) rfl rfl <| WL.val (v_fieldAddr0 rfl rfl fld_48_3) (.some rfl rfl rfl) rfl rfl <| WL.val (v_load1 rfl rfl one_3 (cellAt rfl)) (.some rfl rfl rfl) rfl rfl <| ?_
       refine WL.test (v_neq rfl rfl rfl) (.some rfl rfl rfl) rfl rfl (fun h144 => ?_) (fun h144 => ?_)
       ·
        refine WL.val (v_pick_t rfl rfl rfl) (.some rfl rfl rfl) rfl rfl <| WL.v (v_pick_f rfl rfl rfl) rfl <| WL.nt <| WC.cond_t rfl <| WC.seq <| WC.region <| WL.v (v_assign rfl rfl) rfl <| WL.nt <| WC.ret <| WE.then_ret <| ?_
        refine WE.ret1 (P := Tryz.prog) (.inl rfl) Tryz.results41 rfl ?_
        exact fun w' h => ⟨by rw [chk_z3 hb3 h144], h.frm⟩
       ·
        refine WL.val (v_pick_t rfl rfl rfl) (.some rfl rfl rfl) rfl rfl <| WL.v (v_pick_f rfl rfl rfl) rfl <| WL.nt <| WC.cond_f rfl <| WC.skip <| ?_
        exact WE.mid () ⟨fun _ => by omega, fun e => absurd e (by decide)⟩ (.cons rfl (.cons rfl .nil)) (.refl _)
      ·
       refine WL.v (v_move rfl rfl) rfl <| WL.val (v_fieldAddr0 rfl rfl fld_48_3) (.some rfl rfl rfl) rfl rfl <| WL.val (v_load1 rfl rfl one_3 (cellAt rfl)) (.some rfl rfl rfl) rfl rfl <| WL.call rfl rfl ck_61 (.some rfl rfl rfl) rfl rfl <| ?_
       intro w hS
       refine Calls.then (RHop_c _ a.hop hop.1 hop.2) hS ?_
       generalize hh3 : hopB a.hop = b133
       cases b133
       ·
        refine WL.val (v_not rfl rfl rfl) (.some rfl rfl rfl) rfl rfl <| WL.v (v_pick_t rfl rfl rfl) rfl <| WL.v (v_move rfl rfl) rfl <| ?_
        iterate 9 refine WL.sk rfl ?_
        refine WL.v (v_pick_t rfl rfl rfl) rfl <| WL.nt <| WC.cond_t rfl <| WC.seq <| WC.region <| WL.v (v_assign rfl rfl) rfl <| WL.nt <| WC.ret <| WE.then_ret <| WE.ret1 (P := Tryz.prog) (.inl rfl) Tryz.results41 rfl <| ?_
        exact fun w' h => ⟨by rw [chk_h3 hb3 hh3], h.frm⟩
       ·
        refine WL.val (v_not rfl rfl rfl) (.some rfl rfl rfl) rfl rfl <| WL.v (v_pick_t rfl rfl rfl) rfl <| WL.v (v_move rfl rfl) rfl <| WL.val (v_fieldAddr0 rfl rfl fld_48_0) (.some rfl rfl rfl) rfl rfl <| WL.val (v_load1 rfl rfl one_3 (cellAt rfl)) (.some rfl rfl rfl) rfl rfl <| WL.call rfl rfl ck_42 (.some rfl rfl rfl) rfl rfl <| ?_
        intro w hS
        refine Calls.then (by have := RThere_c w a.has 3 hkn.1 (by omega) (by omega); rw [hb3] at this; exact this) hS ?_
        refine WL.val (v_not rfl rfl rfl) (.some rfl rfl rfl) rfl rfl <| WL.val (v_move rfl rfl) (.some rfl rfl rfl) rfl rfl <| ?_
        iterate 3 refine WL.sk rfl ?_
        refine WL.val (v_pick_f rfl rfl rfl) (.some rfl rfl rfl) rfl rfl <| WL.v (v_pick_f rfl rfl rfl) rfl <| WL.nt <| WC.cond_f rfl <| WC.skip <| ?_
        exact WE.mid () ⟨fun e => absurd e (by decide), fun _ => rfl⟩ (.cons rfl (.cons rfl .nil)) (.refl _)
     ·
      rintro _ hz3
      refine WC.seq <| WC.seq <| WC.region <| WL.v (v_fieldAddr0 rfl rfl fld_48_2) rfl <| WL.v (v_load1 rfl rfl one_45 (cellAt rfl)) rfl <| WL.v (v_len_slice rfl rfl Tryz.underlying45) rfl <| WL.v (v_move rfl rfl) rfl <| WL.nt <| WC.block <| ?_
      refine WC.loop (fun k : Nat => [(150, .int .i64 k), (149, .int .i64 a.path.length), (148, .slice a.pad a.path.length a.pc), (3, .int .i64 4294967295), (1, .pointer (some ⟨g1, 0, none⟩))]) (fun _ => [.row g1 a.rcells]) (fun k => k ≤ a.path.length ∧ ∀ j s, j < k → a.path[j]? = some s → segB s = true) (fun k => a.path.length - k) 0 ⟨Nat.zero_le _, fun j s h => by omega⟩ (.cons rfl (.cons rfl (.cons rfl (.cons rfl (.cons rfl .nil))))) (.refl _) ?_
      rintro k ⟨hk, hsk⟩
      refine WC.seq <| WC.region <| ?_
      refine WL.test (v_lss rfl rfl rfl) (.none rfl) rfl rfl (fun h151 => ?_) (fun h151 => ?_)
      ·
       refine WL.nt <| WC.seq <| WC.cond_t rfl <| WC.skip <| WE.then_n <| WC.seq <| WC.block <| WC.seq <| WC.region <| ?_
       obtain ⟨s, hs⟩ : ∃ s, a.path[k]? = some s := ⟨a.path[k]'(by omega), List.getElem?_eq_getElem _⟩
       obtain ⟨b1, o1, e1, r1⟩ := hA.path k s hs
       have hsI := hI.segs s (List.mem_of_getElem? hs)
       have hsC := hA.segs s (List.mem_of_getElem? hs)
       refine WL.v ((v_indexAddr (b := b1) (off := o1) (lo := k) rfl (by show some (Value.slice a.pad _ _) = _; rw [e1]) rfl Tryz.underlying45 sz_96 rfl (by omega))) rfl ?_
       refine WL.v ((v_loadN (cs := s.cells) rfl rfl many_96 rfl (rgIn (fun h => h) r1))) rfl <| WL.alloc rfl zero_96 (.none rfl) rfl rfl <| ?_
       intro g5 hg5
       refine WL.storeW rfl rfl rfl rfl many_96 rfl rfl (.none rfl) rfl <| WL.as (L' := .row g5 s.cells :: [.row g1 a.rcells]) rfl <| WL.nt <| WC.seq <| WC.seq <| WC.region <| WL.v (v_fieldAddr0 rfl rfl fld_96_1) rfl <| WL.v (v_load1 rfl rfl one_27 (cellAt rfl)) rfl <| WL.v (v_len_slice rfl rfl Tryz.underlying27) rfl <| WL.call rfl rfl ck_60 (.none rfl) rfl rfl <| ?_
       intro w hS
       refine Calls.then (RIn_c _ s.asl.length 1 255) hS ?_
       generalize hq157 : decide (1 ≤ (s.asl.length : Int) ∧ (s.asl.length : Int) ≤ 255) = b157
       cases b157
       ·
        refine WL.v (v_not rfl rfl rfl) rfl <| WL.nt <| WC.cond_t rfl <| WC.seq <| WC.region <| WL.v (v_assign rfl rfl) rfl <| WL.nt <| WC.ret <| WE.then_ret <| WE.block_ret <| ?_
        refine WE.then_ret <| WE.then_ret <| WE.block_ret <| WE.then_ret <| WE.ret1 (P := Tryz.prog) (.inl rfl) Tryz.results41 rfl <| ?_
        have h0 := of_decide_eq_false hq157
        exact fun w' h => ⟨by rw [chk_p2 hz.2.1 hs (seg_F (by omega))], h.frm⟩
       ·
        refine WL.v (v_not rfl rfl rfl) rfl <| WL.nt <| WC.cond_f rfl <| WC.skip <| WE.then_n <| WC.seq <| WC.region <| ?_
        have h157 := of_decide_eq_true hq157
        refine WL.v (v_fieldAddr0 rfl rfl fld_96_1) rfl <| WL.v (v_load1 rfl rfl one_27 (cellAt rfl)) rfl <| WL.v (v_len_slice rfl rfl Tryz.underlying27) rfl <| WL.v (v_move rfl rfl) rfl <| WL.nt <| WC.block <| ?_
        refine WC.loop (fun i : Nat => [(162, .int .i64 i), (161, .int .i64 s.asl.length), (160, .slice s.ad s.asl.length s.cap), (150, .int .i64 k), (149, .int .i64 a.path.length), (148, .slice a.pad a.path.length a.pc), (3, .int .i64 4294967295), (1, .pointer (some ⟨g1, 0, none⟩))]) (fun _ => .row g5 s.cells :: [.row g1 a.rcells]) (fun i => i ≤ s.asl.length ∧ ∀ j x, j < i → s.asl[j]? = some x → 1 ≤ x ∧ x ≤ 65535) (fun i => s.asl.length - i) 0 ⟨Nat.zero_le _, fun j x h => by omega⟩ (.cons rfl (.cons rfl (.cons rfl (.cons rfl (.cons rfl (.cons rfl (.cons rfl (.cons rfl .nil)))))))) (.refl _) ?_
        rintro i ⟨hi, hxi⟩
        refine WC.seq <| WC.region <| ?_
        refine WL.test (v_lss rfl rfl rfl) (.none rfl) rfl rfl (fun h163 => ?_) (fun h163 => ?_)
        ·
         refine WL.nt <| WC.seq <| WC.cond_t rfl <| WC.skip <| WE.then_n <| WC.seq <| WC.block <| WC.seq <| WC.region <| ?_
         obtain ⟨x, hx⟩ : ∃ x, s.asl[i]? = some x := ⟨s.asl[i]'(by omega), List.getElem?_eq_getElem _⟩
         obtain ⟨b1, o1, e1, r1⟩ := hsC (by rw [i64s_len]; omega)
         refine WL.v ((v_indexAddr (b := b1) (off := o1) (lo := i) rfl (by show some (Value.slice s.ad _ _) = _; rw [e1]) rfl Tryz.underlying27 sz_3 rfl (by omega))) rfl ?_
         refine WL.v (v_load1 rfl rfl one_3 (cellOld (fun h => h) (rgOne r1 (i64s_get hx)))) rfl <| WL.v (v_assign rfl rfl) rfl <| WL.nt <| WC.seq <| WC.region <| WL.v (v_move rfl rfl) rfl <| WL.call rfl rfl ck_60 (.none rfl) rfl rfl <| ?_
         intro w hS
         refine Calls.then (RIn_c _ x 1 65535) hS ?_
         generalize hq167 : decide (1 ≤ x ∧ x ≤ 65535) = b167
         cases b167
         ·
          refine WL.v (v_not rfl rfl rfl) rfl <| WL.nt <| WC.cond_t rfl <| WC.seq <| WC.region <| WL.v (v_assign rfl rfl) rfl <| WL.nt <| WC.ret <| WE.block_ret <| WE.then_ret <| ?_
          refine WE.then_ret <| WE.block_ret <| WE.block_ret <| WE.then_ret <| WE.then_ret <| WE.block_ret <| WE.then_ret <| WE.ret1 (P := Tryz.prog) (.inl rfl) Tryz.results41 rfl <| ?_
          exact fun w' h => ⟨by rw [chk_p2 hz.2.1 hs (seg_F2 hx (of_decide_eq_false hq167))], h.frm⟩
         ·
          refine WL.v (v_not rfl rfl rfl) rfl <| WL.nt <| WC.cond_f rfl <| WC.skip <| WE.block_n <| WE.then_n <| WC.region <| ?_
          refine WL.v (v_add rfl rfl rfl (show _ = ((i + 1 : Nat) : Int) from (w_i64 (by omega) (by omega)).trans (by omega))) rfl ?_
          refine WL.v (v_move rfl rfl) rfl <| WL.nil <| ?_
          exact WE.next (i + 1) (by omega) ⟨by omega, fun j y hj hy => by
          rcases Nat.lt_or_ge j i with h | h
          · exact hxi j y h hy
          · obtain rfl : j = i := by omega
            rw [hx] at hy; cases hy; exact of_decide_eq_true hq167⟩ (.cons rfl (.cons rfl (.cons rfl (.cons rfl (.cons rfl (.cons rfl (.cons rfl (.cons rfl .nil)))))))) (.refl _)
        ·
         refine WL.nt <| WC.seq <| WC.cond_f rfl <| WC.exit <| WE.then_exit <| WE.then_exit <| WE.block_hit <| WE.block_n <| WE.then_n <| WC.region <| ?_
         refine WL.v (v_add rfl rfl rfl (show _ = ((k + 1 : Nat) : Int) from (w_i64 (by omega) (by omega)).trans (by omega))) rfl ?_
         refine WL.v (v_move rfl rfl) rfl <| WL.nil <| ?_
         exact WE.next (k + 1) (by omega) ⟨by omega, fun j y hj hy => by
         rcases Nat.lt_or_ge j k with h | h
         · exact hsk j y h hy
         · obtain rfl : j = k := by omega
           rw [hs] at hy; cases hy; exact seg_T (by omega) fun j x hx => hxi j x (by have := (List.getElem?_eq_some_iff.1 hx).1; omega) hx⟩ (.cons rfl (.cons rfl (.cons rfl (.cons rfl (.cons rfl .nil))))) (.cons _ (.refl _))
      ·
       refine WL.nt <| WC.seq <| WC.cond_f rfl <| WC.exit <| WE.then_exit <| WE.then_exit <| WE.block_hit <| WE.then_n <| WC.seq <| WC.seq <| ?_
       refine WC.region ?_
       have hpath : ∀ (k : Nat) (s : SegL), a.path[k]? = some s → segB s = true := (fun j s hs => hsk j s (by have := (List.getElem?_eq_some_iff.1 hs).1; omega) hs)
       refine WL.v (v_fieldAddr0 rfl rfl fld_48_8) rfl <| WL.v (v_load1 rfl rfl one_27 (cellAt rfl)) rfl <| WL.v (v_len_slice rfl rfl Tryz.underlying27) rfl <| WL.v (v_move rfl rfl) rfl <| WL.nt <| WC.block <| ?_
       refine WC.loop (fun k : Nat => [(174, .int .i64 k), (173, .int .i64 a.comms.length), (172, .slice a.cad a.comms.length a.cc), (3, .int .i64 4294967295), (1, .pointer (some ⟨g1, 0, none⟩))]) (fun _ => [.row g1 a.rcells]) (fun k => k ≤ a.comms.length ∧ ∀ j x, j < k → a.comms[j]? = some x → 0 ≤ x ∧ x ≤ 4294967295) (fun k => a.comms.length - k) 0 ⟨Nat.zero_le _, fun j s h => by omega⟩ (.cons rfl (.cons rfl (.cons rfl (.cons rfl (.cons rfl .nil))))) (.refl _) ?_
       rintro k ⟨hk, hxk⟩
       refine WC.seq <| WC.region <| ?_
       refine WL.test (v_lss rfl rfl rfl) (.none rfl) rfl rfl (fun h175 => ?_) (fun h175 => ?_)
       ·
        refine WL.nt <| WC.seq <| WC.cond_t rfl <| WC.skip <| WE.then_n <| WC.seq <| WC.block <| WC.seq <| WC.region <| ?_
        obtain ⟨x, hx⟩ : ∃ s, a.comms[k]? = some s := ⟨a.comms[k]'(by omega), List.getElem?_eq_getElem _⟩
        obtain ⟨b1, o1, e1, r1⟩ := hA.comms (by rw [i64s_len]; omega)
        refine WL.v ((v_indexAddr (b := b1) (off := o1) (lo := k) rfl (by show some (Value.slice a.cad _ _) = _; rw [e1]) rfl Tryz.underlying27 sz_3 rfl (by omega))) rfl ?_
        refine WL.v (v_load1 rfl rfl one_3 (cellOld (fun h => h) (rgOne r1 (i64s_get hx)))) rfl <| WL.v (v_assign rfl rfl) rfl <| WL.nt <| WC.seq <| WC.region <| WL.v (v_move rfl rfl) rfl <| WL.v (v_move rfl rfl) rfl <| WL.call rfl rfl ck_60 (.none rfl) rfl rfl <| ?_
        intro w hS
        refine Calls.then (RIn_c _ x 0 4294967295) hS ?_
        generalize hq180 : decide (0 ≤ x ∧ x ≤ 4294967295) = b180
        cases b180
        ·
         refine WL.v (v_not rfl rfl rfl) rfl <| WL.nt <| WC.cond_t rfl <| WC.seq <| WC.region <| WL.v (v_assign rfl rfl) rfl <| WL.nt <| WC.ret <| WE.block_ret <| WE.then_ret <| ?_
         refine WE.then_ret <| WE.block_ret <| WE.then_ret <| WE.ret1 (P := Tryz.prog) (.inl rfl) Tryz.results41 rfl <| ?_
         exact fun w' h => ⟨by rw [chk_c8 hz.2.2.2.2.2 hx (of_decide_eq_false hq180)], h.frm⟩
        ·
         refine WL.v (v_not rfl rfl rfl) rfl <| WL.nt <| WC.cond_f rfl <| WC.skip <| WE.block_n <| WE.then_n <| WC.region <| ?_
         refine WL.v (v_add rfl rfl rfl (show _ = ((k + 1 : Nat) : Int) from (w_i64 (by omega) (by omega)).trans (by omega))) rfl ?_
         refine WL.v (v_move rfl rfl) rfl <| WL.nil <| ?_
         exact WE.next (k + 1) (by omega) ⟨by omega, fun j y hj hy => by
         rcases Nat.lt_or_ge j k with h | h
         · exact hxk j y h hy
         · obtain rfl : j = k := by omega
           rw [hx] at hy; cases hy; exact of_decide_eq_true hq180⟩ (.cons rfl (.cons rfl (.cons rfl (.cons rfl (.cons rfl .nil))))) (.refl _)
       ·
        refine WL.nt <| WC.seq <| WC.cond_f rfl <| WC.exit <| WE.then_exit <| WE.then_exit <| WE.block_hit <| WE.then_n <| WC.seq <| WC.seq <| ?_
        refine WC.region ?_
        have hcoms : ∀ (k : Nat) (x : Int), a.comms[k]? = some x → 0 ≤ x ∧ x ≤ 4294967295 := (fun j s hs => hxk j s (by have := (List.getElem?_eq_some_iff.1 hs).1; omega) hs)
        refine WL.v (v_fieldAddr0 rfl rfl fld_48_9) rfl <| WL.v (v_load1 rfl rfl one_46 (cellAt rfl)) rfl <| WL.v (v_len_slice rfl rfl Tryz.underlying46) rfl <| WL.v (v_move rfl rfl) rfl <| WL.nt <| WC.block <| WC.loop (fun y : RtS => [(186, .int .i64 y.k), (185, .int .i64 a.others.length), (184, .slice a.oad a.others.length a.oc), (3, .int .i64 4294967295), (1, .pointer (some ⟨g1, 0, none⟩))]) (fun _ => [.row g1 a.rcells]) (fun y => y.k ≤ a.others.length ∧ 8 ≤ y.last ∧ (y.k = 0 → y.last = 8) ∧ (0 < y.k → ∃ o, a.others[y.k - 1]? = some o ∧ o.ty = y.last) ∧ ordB 8 a.others = ordB y.last (a.others.drop y.k)) (fun y => a.others.length - y.k) ⟨0, 8⟩ ⟨Nat.zero_le _, Int.le_refl _, fun _ => rfl, fun h => absurd h (Nat.lt_irrefl 0), rfl⟩ (.cons rfl (.cons rfl (.cons rfl (.cons rfl (.cons rfl .nil))))) (.refl _) <| ?_
        rintro ⟨k, last⟩ ⟨hk, h8, hk0, hk1, hord⟩
        dsimp only at hk h8 hk0 hk1 hord
        dsimp only
        refine WC.seq <| WC.region <| ?_
        refine WL.test (v_lss rfl rfl rfl) (.none rfl) rfl rfl (fun h187 => ?_) (fun h187 => ?_)
        ·
         refine WL.nt <| WC.seq <| WC.cond_t rfl <| WC.skip <| WE.then_n <| WC.seq <| WC.block <| WC.seq <| WC.region <| WL.v (v_move rfl rfl) rfl <| ?_
         obtain ⟨o, ho⟩ : ∃ s, a.others[k]? = some s := ⟨a.others[k]'(by omega), List.getElem?_eq_getElem _⟩
         obtain ⟨b1, o1, e1, r1⟩ := hA.oths k o ho
         have hoI := (hI.oths o (List.mem_of_getElem? ho)).1
         have hst : ordB 8 a.others = (decide (last < o.ty ∧ o.ty ≤ 255) && ordB o.ty (a.others.drop (k + 1))) := (by rw [hord, drop_cons' ho]; rfl)
         refine WL.v ((v_indexAddr (b := b1) (off := o1) (lo := k) rfl (by show some (Value.slice a.oad _ _) = _; rw [e1]) rfl Tryz.underlying46 sz_97 rfl (by omega))) rfl ?_
         refine WL.v ((v_loadN (cs := o.cells) rfl rfl many_97 rfl (rgIn (fun h => h) r1))) rfl <| WL.alloc rfl zero_97 (.none rfl) rfl rfl <| ?_
         intro g11 hg11
         refine WL.v (v_assign rfl rfl) rfl <| WL.storeW rfl rfl rfl rfl many_97 rfl rfl (.none rfl) rfl <| WL.as (L' := .row g11 o.cells :: [.row g1 a.rcells]) rfl <| WL.nt <| WC.seq <| ?_
         refine WC.quiet mixed (by kernel_rfl) ?_
         refine WQ.val (v_fieldAddr0 rfl rfl fld_97_0) (.none rfl) rfl rfl <| WQ.val (v_load1 rfl rfl one_3 (cellAt rfl)) (.none rfl) rfl rfl <| WQ.call _ rfl rfl ck_60 (.none rfl) rfl rfl (fun w hS => Calls.still (RIn_c _ o.ty 9 255) hS) <| ?_
         generalize hq193 : decide (9 ≤ o.ty ∧ o.ty ≤ 255) = b193
         cases b193
         ·
          refine WQ.val (v_not rfl rfl rfl) (.none rfl) rfl rfl <| WQ.val (v_move rfl rfl) (.none rfl) rfl rfl <| ?_
          iterate 7 refine WQ.skip rfl rfl rfl rfl rfl rfl ?_
          skip
          iterate 7 refine WQ.skip rfl rfl rfl rfl rfl rfl ?_
          refine WQ.val (v_pick_t rfl rfl rfl) (.none rfl) rfl rfl <| WQ.nil <| WE.then_n <| WC.cond_t rfl <| WC.seq <| WC.region <| WL.v (v_assign rfl rfl) rfl <| WL.nt <| WC.ret <| WE.block_ret <| ?_
          refine WE.then_ret <| WE.then_ret <| WE.block_ret <| WE.then_ret <| WE.ret1 (P := Tryz.prog) (.inl rfl) Tryz.results41 rfl <| ?_
          have h0 := of_decide_eq_false hq193
          exact fun w' h => ⟨by rw [chk_ord (by rw [hst, decide_eq_false (by omega), Bool.false_and])], h.frm⟩
         ·
          refine WQ.val (v_not rfl rfl rfl) (.none rfl) rfl rfl <| WQ.val (v_move rfl rfl) (.none rfl) rfl rfl <| WQ.val (v_move rfl rfl) (.some rfl rfl rfl) rfl rfl <| ?_
          refine WQ.test (v_gtr rfl rfl rfl) (.some rfl rfl rfl) rfl rfl (fun h197 => ?_) (fun h197 => ?_)
          ·
           refine WQ.val (v_move rfl rfl) (.some rfl rfl rfl) rfl rfl <| WQ.val (v_fieldAddr0 rfl rfl fld_48_9) (.some rfl rfl rfl) rfl rfl <| WQ.val (v_load1 rfl rfl one_46 (cellAt rfl)) (.some rfl rfl rfl) rfl rfl <| WQ.val (v_move rfl rfl) (.some rfl rfl rfl) rfl rfl <| ?_
           refine WQ.val (v_sub rfl rfl rfl (show _ = ((k - 1 : Nat) : Int) from (w_i64 (by omega) (by omega)).trans (by omega))) (.some rfl rfl rfl) rfl rfl ?_
           obtain ⟨o2, ho2, hty⟩ := hk1 (by omega)
           obtain ⟨b2, o3, e2, r2⟩ := hA.oths (k - 1) o2 ho2
           refine WQ.val ((v_indexAddr (b := b2) (off := o3) (lo := k - 1) rfl (by show some (Value.slice a.oad _ _) = _; rw [e2]) rfl Tryz.underlying46 sz_97 rfl (by omega))) (.some rfl rfl rfl) rfl rfl ?_
           refine WQ.val (v_fieldAddr rfl rfl fld_97_0) (.some rfl rfl rfl) rfl rfl ?_
           refine WQ.val (v_load1 rfl rfl one_3 (cellOld (v := .int .i64 last) (fun h => h) (by have := r2 0 _ rfl; rw [hty] at this; exact this))) (.some rfl rfl rfl) rfl rfl ?_
           refine WQ.val (v_fieldAddr0 rfl rfl fld_97_0) (.some rfl rfl rfl) rfl rfl <| WQ.val (v_load1 rfl rfl one_3 (cellAt rfl)) (.some rfl rfl rfl) rfl rfl <| ?_
           refine WQ.test (v_geq rfl rfl rfl) (.some rfl rfl rfl) rfl rfl (fun h208 => ?_) (fun h208 => ?_)
           ·
            refine WQ.val (v_pick_t rfl rfl rfl) (.some rfl rfl rfl) rfl rfl <| WQ.val (v_pick_f rfl rfl rfl) (.none rfl) rfl rfl <| WQ.nil <| WE.then_n <| WC.cond_t rfl <| WC.seq <| WC.region <| WL.v (v_assign rfl rfl) rfl <| WL.nt <| WC.ret <| ?_
            refine WE.block_ret <| WE.then_ret <| WE.then_ret <| WE.block_ret <| WE.then_ret <| WE.ret1 (P := Tryz.prog) (.inl rfl) Tryz.results41 rfl <| ?_
            exact fun w' h => ⟨by rw [chk_ord (by rw [hst, decide_eq_false (by omega), Bool.false_and])], h.frm⟩
           ·
            refine WQ.val (v_pick_t rfl rfl rfl) (.some rfl rfl rfl) rfl rfl <| WQ.val (v_pick_f rfl rfl rfl) (.none rfl) rfl rfl <| WQ.nil <| WE.then_n <| WC.cond_f rfl <| WC.skip <| WE.block_n <| WE.then_n <| WC.region <| ?_
            refine WL.v (v_add rfl rfl rfl (show _ = ((k + 1 : Nat) : Int) from (w_i64 (by omega) (by omega)).trans (by omega))) rfl ?_
            refine WL.v (v_move rfl rfl) rfl <| WL.nil <| ?_
            have h0 := of_decide_eq_true hq193
            exact WE.next ⟨k + 1, o.ty⟩ (by dsimp only; omega) ⟨by dsimp only; omega, by dsimp only; omega, fun h => by dsimp only at h; omega, fun _ => ⟨o, ho, rfl⟩, by dsimp only; rw [hst, decide_eq_true (by omega), Bool.true_and]⟩ (.cons rfl (.cons rfl (.cons rfl (.cons rfl (.cons rfl .nil))))) (.cons _ (.refl _))
          ·
           refine WQ.val (v_move rfl rfl) (.some rfl rfl rfl) rfl rfl ?_
           iterate 4 refine WQ.skip rfl rfl rfl rfl rfl rfl ?_
           skip
           iterate 6 refine WQ.skip rfl rfl rfl rfl rfl rfl ?_
           refine WQ.val (v_pick_f rfl rfl rfl) (.some rfl rfl rfl) rfl rfl <| WQ.val (v_pick_f rfl rfl rfl) (.none rfl) rfl rfl <| WQ.nil <| WE.then_n <| WC.cond_f rfl <| WC.skip <| WE.block_n <| WE.then_n <| WC.region <| ?_
           refine WL.v (v_add rfl rfl rfl (show _ = ((k + 1 : Nat) : Int) from (w_i64 (by omega) (by omega)).trans (by omega))) rfl ?_
           refine WL.v (v_move rfl rfl) rfl <| WL.nil <| ?_
           have h0 := of_decide_eq_true hq193
           exact WE.next ⟨k + 1, o.ty⟩ (by dsimp only; omega) ⟨by dsimp only; omega, by dsimp only; omega, fun h => by dsimp only at h; omega, fun _ => ⟨o, ho, rfl⟩, by dsimp only; rw [hst, decide_eq_true (by omega), Bool.true_and]⟩ (.cons rfl (.cons rfl (.cons rfl (.cons rfl (.cons rfl .nil))))) (.cons _ (.refl _))
        ·
         refine WL.nt <| WC.seq <| WC.cond_f rfl <| WC.exit <| WE.then_exit <| WE.then_exit <| WE.block_hit <| WE.then_n <| WC.seq <| WC.region <| ?_
         refine WL.v (v_assign rfl rfl) rfl <| WL.nt <| WC.ret <| WE.ret1 (P := Tryz.prog) (.inl rfl) Tryz.results41 rfl <| ?_
         have ho8 : ordB 8 a.others = true := (by rw [hord, List.drop_eq_nil_of_le (by omega)]; rfl)
         exact fun w' h => ⟨by rw [chk_ok hkn hr1 hr4 hr5 hr7 hr8 hz hz3 hpath hcoms ho8], h.frm⟩
end Go.Proofs.YtpjbofodllhjbaaGreatDoor
/- The reference's attributes: Encode (printed by gen/wrc.py). -/
namespace Go.Proofs.YtpjbofodllhjbaaGreatDoor
open Go.RowKit

def preE (a : AtL) (t : Nat) : List Int := (List.range' 1 t).flatMap (knownE a)
theorem preE_succ (a : AtL) (t : Nat) : preE a (t + 1) = preE a t ++ knownE a (t + 1) := by
  unfold preE
  rw [List.range'_concat, List.flatMap_append, Nat.one_mul, Nat.add_comm 1 t, List.flatMap_cons, List.flatMap_nil, List.append_nil]
theorem knownE_T {a : AtL} {t : Nat} {v : List Int} (h : hasB a.has t = true) (hv : valE a t = v) : knownE a t = putE (flagI t) t v := by unfold knownE; rw [if_pos h, hv]
theorem knownE_F {a : AtL} {t : Nat} (h : hasB a.has t = false) : knownE a t = [] := by unfold knownE; rw [h]; rfl
theorem chk_facts {a : AtL} (h : chkA a = true) : (0 ≤ a.has ∧ a.has ≤ 510) ∧ (∀ k, 1 ≤ k → k ≤ 8 → eachB a k = true) ∧ ordB 8 a.others = true := by
  unfold chkA at h
  rw [Bool.and_eq_true, Bool.and_eq_true] at h
  obtain ⟨⟨h1, h2⟩, h3⟩ := h
  have h4 := of_decide_eq_true h1
  exact ⟨⟨h4.1, h4.2.1⟩, fun k k1 k8 => List.all_eq_true.1 h2 k (by rw [List.mem_range'_1]; omega), h3⟩
theorem ordB_b : ∀ (last : Int) (os : List OthL), 0 ≤ last → ordB last os = true → ∀ o ∈ os, 0 ≤ o.ty ∧ o.ty ≤ 255
  | _, [], _, _, o, h => by cases h
  | last, x :: os, h0, hh, o, ho => by
    unfold ordB at hh
    rw [Bool.and_eq_true] at hh
    have h1 := of_decide_eq_true hh.1
    rcases List.mem_cons.1 ho with rfl | ho
    · omega
    · exact ordB_b x.ty os (by omega) hh.2 o ho
theorem segE_cons (s : SegL) : segE s = [if s.set then 1 else 2] ++ [(s.asl.length : Int) % 256] ++ s.asl.flatMap fun x => numB x 2 := by
  unfold segE
  rw [numB_one, numB_one]
  cases s.set <;> rfl
def othsE (os : List OthL) : List Int := os.flatMap fun o => putE 224 o.ty o.val
theorem othsE_snoc (os : List OthL) (o : OthL) : othsE (os ++ [o]) = othsE os ++ putE 224 o.ty o.val := by unfold othsE; rw [List.flatMap_append, List.flatMap_cons, List.flatMap_nil, List.append_nil]
theorem bodyA_eq (a : AtL) : bodyA a = preE a 8 ++ othsE a.others := rfl
theorem putE_le (fl t : Int) (vs : List Int) : (putE fl t vs).length ≤ vs.length + 4 := by rw [putE_len]; split <;> omega
theorem flat2_len (m : Nat) (xs : List Int) : (xs.flatMap fun x => numB x m).length = m * xs.length := by
  induction xs with
  | nil => rfl
  | cons x xs ih => rw [List.flatMap_cons, List.length_append, ih, numB_len, List.length_cons, Nat.mul_add, Nat.mul_one, Nat.add_comm]
theorem flat2_snoc (m : Nat) (xs : List Int) (x : Int) : ((xs ++ [x]).flatMap fun x => numB x m) = (xs.flatMap fun x => numB x m) ++ numB x m := by rw [List.flatMap_append, List.flatMap_cons, List.flatMap_nil, List.append_nil]
theorem segsE_snoc (ss : List SegL) (s : SegL) : (ss ++ [s]).flatMap segE = ss.flatMap segE ++ segE s := by rw [List.flatMap_append, List.flatMap_cons, List.flatMap_nil, List.append_nil]
/-- A slice of bytes grown, and its blocks. -/
structure OutS where
  k : Nat
  ad : Option Addr
  c : Nat
  xs : List Int
  E : List Ent
theorem Vec.srcE {s k c : Nat} {ad : Option Addr} {xs : List Value} {E : List Ent} (hV : Vec s ad k c xs E) (n : Nat) (hn : n = xs.length) {p : Nat → Prop} {w0 : World} {L : List Ent} (hm : ∀ e ∈ E, e ∈ L) (h : 0 < n) : ∃ b o, ad = some ⟨b, o, none⟩ ∧ ∀ w, St p w0 w L → w.rangeAt b o xs := by
  obtain ⟨b, o, e, hr⟩ := hV.src hm (by omega)
  exact ⟨b, o, e, fun w hS => hr _ _ w hS⟩
set_option maxHeartbeats 8000000 in
theorem REnc06_c (w0 : World) (a : AtL) (hA : a.At w0) (hI : a.In) (hpl : a.path.length ≤ 1000) (hol : a.others.length ≤ 100) : Calls Tryz.prog 22 #[.agg a.rcells.toArray] w0 fun e w' => ResB w0 w' (encE a) (bodyA a) e := by
  have hop := hI.hop
  have haid := hI.aid
  unfold U32 at hop haid
  obtain ⟨hl1, hl2, hl3⟩ := hI.lens
  have f1 : flagI 1 = 64 := rfl
  have f2 : flagI 2 = 64 := rfl
  have f3 : flagI 3 = 64 := rfl
  have f4 : flagI 4 = 128 := rfl
  have f5 : flagI 5 = 64 := rfl
  have f6 : flagI 6 = 64 := rfl
  have f7 : flagI 7 = 192 := rfl
  have f8 : flagI 8 = 192 := rfl
  refine enter Tryz.func22 rfl Tryz.ntmps22 rfl (St.start (fun _ => False) w0) ?_
  refine WC.seq <| WC.region <| WL.box rfl rfl rfl (.none rfl) rfl rfl <| ?_
  intro g1 hg1
  refine WL.v (v_assign rfl rfl) rfl <| WL.v (v_assign rfl rfl) rfl <| WL.nt <| WC.seq <| WC.seq <| WC.region <| WL.v (v_loadN rfl rfl many_48 rfl allAt) rfl <| WL.call rfl rfl ck_41 (.none rfl) rfl rfl <| ?_
  intro w hS
  refine Calls.then (RRight06_c w a (hA.st hS) hI) hS ?_
  generalize hc : chkA a = b16
  cases b16
  ·
   refine WL.v (v_not rfl rfl rfl) rfl <| WL.nt <| WC.cond_t rfl <| WC.seq <| WC.region <| WL.v (v_assign rfl rfl) rfl <| WL.v (v_assign rfl rfl) rfl <| WL.nt <| WC.ret <| WE.then_ret <| ?_
   refine WE.ret2 (P := Tryz.prog) (.inl rfl) Tryz.results22 rfl rfl ?_
   exact fun w' h => ResB.bad (by unfold encE; rw [hc]; rfl) (by decide) h
  ·
   refine WL.v (v_not rfl rfl rfl) rfl <| WL.nt <| WC.cond_f rfl <| WC.skip <| WE.then_n <| WC.seq <| WC.region <| ?_
   obtain ⟨hkn, hea, hor⟩ := chk_facts hc
   have e1 := hea 1 (by omega) (by omega)
   have e2 := hea 2 (by omega) (by omega)
   have e4 := hea 4 (by omega) (by omega)
   have e5 := hea 5 (by omega) (by omega)
   have e7 := hea 7 (by omega) (by omega)
   have e8 := hea 8 (by omega) (by omega)
   rw [each1] at e1
   rw [each2] at e2
   rw [each4] at e4
   rw [each5] at e5
   rw [each7] at e7
   rw [each8] at e8
   have hN0 : (preE a 0).length = 0 := rfl
   refine WL.buildSlice rfl rfl Tryz.underlying37 sz_5 zero_5 rfl (by decide) rfl (.none rfl) rfl rfl ?_
   intro g18 hg18
   refine WL.as (L' := .row g18 [] :: [.row g1 a.rcells]) rfl <| WL.v (v_assign rfl rfl) rfl <| WL.nt <| ?_
   refine WC.cut (fun y : OutS => [(4, .slice y.ad (preE a 1).length y.c), (1, .pointer (some ⟨g1, 0, none⟩))]) (fun y => y.E ++ [.row g1 a.rcells]) (fun y => BV y.ad y.c (preE a 1) y.E ∧ (preE a 1).length ≤ 10) ?_ ?_
   ·
    refine WC.seq <| WC.region <| WL.v (v_fieldAddr0 rfl rfl fld_48_0) rfl <| WL.v (v_load1 rfl rfl one_3 (cellAt rfl)) rfl <| WL.call rfl rfl ck_42 (.none rfl) rfl rfl <| ?_
    intro w hS
    refine Calls.then (RThere_c _ a.has 1 hkn.1 (by omega) (by omega)) hS ?_
    generalize hb1 : hasB a.has 1 = b21
    cases b21
    ·
     refine WL.nt <| WC.cond_f rfl <| WC.skip <| ?_
     have epre : preE a 1 = preE a 0 := (by rw [preE_succ, knownE_F hb1, List.append_nil])
     exact WE.mid ⟨0, (some ⟨g18, 0, none⟩), 0, [], [.row g18 []]⟩ ⟨by dsimp only; rw [epre]; exact (show BV (some ⟨g18, 0, none⟩) 0 (preE a 0) [.row g18 []] from Vec.row (k := 0) rfl rfl (Nat.le_refl _)), by rw [epre]; show 0 ≤ 10; omega⟩ (.eq rfl (by dsimp only; rw [epre]; rfl) (.cons rfl .nil)) (.refl _)
    ·
     refine WL.nt <| WC.cond_t rfl <| WC.region <| ?_
     have hw1 : 0 ≤ a.origin ∧ a.origin ≤ 2 := (by rw [hb1] at e1; exact of_decide_eq_true e1)
     refine WL.v (v_move rfl rfl) rfl <| WL.v (v_fieldAddr0 rfl rfl fld_48_1) rfl <| WL.v (v_load1 rfl rfl one_3 (cellAt rfl)) rfl <| WL.call rfl rfl ck_44 (.none rfl) rfl rfl <| ?_
     intro w1 hS
     refine (RBytes06_c w1 a.origin 1 (by omega) (by omega) (by omega)).mono ?_
     rintro e w' ⟨adB, cadB, EadB, rfl, hVadB, hS'⟩
     refine ⟨_, _, rfl, hS.join hS', ?_⟩
     refine WL.call rfl rfl ck_43 (.none rfl) rfl rfl ?_
     intro w1 hS
     have hc := RLay_c w1 64 1 adB cadB (numB a.origin 1) (by omega) (by omega) (Vec.cellsAt hVadB fun e he => hS.holds e (List.mem_append_left _ he)) (by rw [numB_len]; omega)
     rw [numB_len] at hc
     refine hc.mono ?_
     rintro e w' ⟨adL, cL, EL, rfl, hVL, hS'⟩
     refine ⟨_, _, rfl, hS.join hS', ?_⟩
     refine WL.to (L' := [.row g18 []] ++ (EL ++ (EadB ++ [.row g1 a.rcells]))) (fun w hS => hS.permC (by intro c h1 h2 h3 e; simp only [h1, h2, h3]; omega)) ?_
     have hplt := putE_le 64 1 (numB a.origin 1)
     have hnbl := numB_len (a.origin) 1
     refine WL.appendL rfl rfl rfl Tryz.underlying37 Tryz.underlying37 sz_5 by_5 zero_5 rfl rfl (show BV (some ⟨g18, 0, none⟩) 0 (preE a 0) [.row g18 []] from Vec.row (k := 0) rfl rfl (Nat.le_refl _)) (new := u8s (putE 64 1 (numB a.origin 1))) (hVL.srcE _ (by rw [u8s_len]) (fun e he => List.mem_append_right _ (List.mem_append_left _ he))) (by rw [u8s_len, Nat.mul_one]) (u8s_one _) (by omega) (.none rfl) rfl rfl ?_
     intro ad27 c27 E27 hV27 hr27
     rw [← u8s_app] at hV27
     have hk := hV27.toB
     rw [hk] at hV27 ⊢
     have epre : preE a 1 = preE a 0 ++ putE 64 1 (numB a.origin 1) := (by rw [preE_succ, knownE_T hb1 (v := numB a.origin 1) rfl, f1]; rfl)
     have elen := congrArg List.length epre
     rw [List.length_append] at elen
     rw [← epre] at hV27 ⊢
     refine WL.v (v_assign rfl rfl) rfl <| WL.nil <| ?_
     exact WE.mid ⟨0, ad27, c27, [], E27⟩ ⟨hV27, by omega⟩ (.cons rfl (.cons rfl .nil)) (List.Sublist.append_left (by repeat (first | exact List.Sublist.refl _ | refine List.sublist_append_of_sublist_right ?_)) _)
   ·
    rintro ⟨_, ad1, c1, _, E1⟩ ⟨hV1, hN1⟩
    dsimp only at hV1 hN1
    dsimp only
    refine WC.cut (fun y : OutS => [(4, .slice y.ad (preE a 2).length y.c), (1, .pointer (some ⟨g1, 0, none⟩))]) (fun y => y.E ++ [.row g1 a.rcells]) (fun y => BV y.ad y.c (preE a 2) y.E ∧ (preE a 2).length ≤ 700000) ?_ ?_
    ·
     refine WC.seq <| WC.region <| WL.v (v_fieldAddr0 rfl rfl fld_48_0) rfl <| WL.v (v_load1 rfl rfl one_3 (cellAt rfl)) rfl <| WL.call rfl rfl ck_42 (.none rfl) rfl rfl <| ?_
     intro w hS
     refine Calls.then (RThere_c _ a.has 2 hkn.1 (by omega) (by omega)) hS ?_
     generalize hb2 : hasB a.has 2 = b30
     cases b30
     ·
      refine WL.nt <| WC.cond_f rfl <| WC.skip <| ?_
      have epre : preE a 2 = preE a 1 := (by rw [preE_succ, knownE_F hb2, List.append_nil])
      exact WE.mid ⟨0, ad1, c1, [], E1⟩ ⟨by dsimp only; rw [epre]; exact hV1, by rw [epre]; omega⟩ (.eq rfl (by dsimp only; rw [epre]) (.cons rfl .nil)) (.refl _)
     ·
      refine WL.nt <| WC.cond_t rfl <| WC.seq <| WC.region <| ?_
      refine WL.buildSlice rfl rfl Tryz.underlying37 sz_5 zero_5 rfl (by decide) rfl (.none rfl) rfl rfl ?_
      intro g31 hg31
      have hgp : a.path.all segB = true := (by rw [hb2] at e2; exact e2)
      refine WL.v (v_assign rfl rfl) rfl <| WL.nt <| WC.seq <| WC.seq <| WC.region <| WL.v (v_fieldAddr0 rfl rfl fld_48_2) rfl <| WL.v (v_load1 rfl rfl one_45 (cellAt rfl)) rfl <| WL.v (v_len_slice rfl rfl Tryz.underlying45) rfl <| WL.v (v_move rfl rfl) rfl <| WL.nt <| ?_
      refine WC.block <| WC.loop (fun y : OutS => [(35, .int .i64 y.k), (34, .int .i64 a.path.length), (33, .slice a.pad a.path.length a.pc), (5, .slice y.ad y.xs.length y.c), (4, .slice ad1 (preE a 1).length c1), (1, .pointer (some ⟨g1, 0, none⟩))]) (fun y => y.E ++ (E1 ++ [.row g1 a.rcells])) (fun y => y.k ≤ a.path.length ∧ y.xs = (a.path.take y.k).flatMap segE ∧ BV y.ad y.c y.xs y.E ∧ y.xs.length ≤ 600 * y.k) (fun y => a.path.length - y.k) ⟨0, some ⟨g31, 0, none⟩, 0, [], [.row g31 []]⟩ ⟨Nat.zero_le _, rfl, Vec.row (k := 0) rfl rfl (Nat.le_refl _), Nat.zero_le _⟩ (.cons rfl (.cons rfl (.cons rfl (.cons rfl (.cons rfl (.cons rfl .nil)))))) (.refl _) <| ?_
      rintro ⟨k, ad, c, xs, E⟩ ⟨hk, hxs, hV, hxl⟩
      dsimp only at hk hxs hV hxl
      dsimp only
      refine WC.seq <| WC.region <| ?_
      refine WL.test (v_lss rfl rfl rfl) (.none rfl) rfl rfl (fun h36 => ?_) (fun h36 => ?_)
      ·
       refine WL.nt <| WC.seq <| WC.cond_t rfl <| WC.skip <| WE.then_n <| WC.seq <| WC.block <| WC.seq <| WC.region <| ?_
       obtain ⟨s, hs⟩ : ∃ s, a.path[k]? = some s := ⟨a.path[k]'(by omega), List.getElem?_eq_getElem _⟩
       obtain ⟨b1, o1, ea1, r1⟩ := hA.path k s hs
       have hsI := hI.segs s (List.mem_of_getElem? hs)
       have hsC := hA.segs s (List.mem_of_getElem? hs)
       have hsg := List.all_eq_true.1 hgp s (List.mem_of_getElem? hs)
       unfold segB at hsg
       rw [Bool.and_eq_true] at hsg
       have hsl := of_decide_eq_true hsg.1
       refine WL.v ((v_indexAddr (b := b1) (off := o1) (lo := k) rfl (by show some (Value.slice a.pad _ _) = _; rw [ea1]) rfl Tryz.underlying45 sz_96 rfl (by omega))) rfl ?_
       refine WL.v ((v_loadN (cs := s.cells) rfl rfl many_96 rfl (rgIn (fun h => h) r1))) rfl <| WL.alloc rfl zero_96 (.none rfl) rfl rfl <| ?_
       intro g7 hg7
       refine WL.storeW rfl rfl rfl rfl many_96 rfl rfl (.none rfl) rfl <| WL.as (L' := .row g7 s.cells :: (E ++ (E1 ++ [.row g1 a.rcells]))) rfl <| WL.nt <| ?_
       refine WC.cut (fun y : OutS => [(35, .int .i64 k), (34, .int .i64 a.path.length), (33, .slice a.pad a.path.length a.pc), (7, .pointer (some ⟨g7, 0, none⟩)), (5, .slice y.ad y.xs.length y.c), (4, .slice ad1 (preE a 1).length c1), (1, .pointer (some ⟨g1, 0, none⟩))]) (fun y => y.E ++ (.row g7 s.cells :: (E1 ++ [.row g1 a.rcells]))) (fun y => y.xs = (a.path.take k).flatMap segE ++ [if s.set then 1 else 2] ∧ BV y.ad y.c y.xs y.E) ?_ ?_
       ·
        refine WC.seq <| WC.region <| WL.v (v_fieldAddr0 rfl rfl fld_96_0) rfl <| WL.v (v_load1 rfl rfl one_4 (cellAt (v := .bool s.set) rfl)) rfl <| ?_
        generalize hset : s.set = b40
        cases b40
        ·
         refine WL.nt <| WC.cond_f rfl <| WC.region <| WL.v (v_move rfl rfl) rfl <| ?_
         refine WL.buildSlice rfl rfl Tryz.underlying37 sz_5 zero_5 rfl (by decide) rfl (.none rfl) rfl rfl ?_
         intro g45 hg45
         refine WL.as (L' := .row g45 (u8s [2]) :: (.row g7 s.cells :: (E ++ (E1 ++ [.row g1 a.rcells])))) (by first | rfl | (rw [hset]; rfl)) ?_
         refine WL.to (L' := E ++ (.row g45 (u8s [2]) :: (.row g7 s.cells :: (E1 ++ [.row g1 a.rcells])))) (fun w hS => hS.permC (by intro c h1 h2 h3 e; simp only [h1, h2, h3]; omega)) ?_
         refine WL.appendL rfl rfl rfl Tryz.underlying37 Tryz.underlying37 sz_5 by_5 zero_5 rfl rfl hV (new := u8s [2]) (fun _ => ⟨g45, 0, rfl, fun w hS => allAt (g := g45) w hS⟩) rfl rfl (by omega) (.none rfl) rfl rfl ?_
         intro ad46 c46 E46 hV46 hr46
         rw [← u8s_app] at hV46
         have hk2 := hV46.toB
         rw [hk2] at hV46 ⊢
         refine WL.v (v_assign rfl rfl) rfl <| WL.nil <| ?_
         exact WE.mid ⟨0, ad46, c46, xs ++ [2], E46⟩ ⟨by dsimp only; rw [hxs]; rfl, hV46⟩ (.cons rfl (.cons rfl (.cons rfl (.cons rfl (.cons rfl (.cons rfl (.cons rfl .nil))))))) (List.Sublist.append_left (.cons _ (.refl _)) _)
        ·
         refine WL.nt <| WC.cond_t rfl <| WC.region <| WL.v (v_move rfl rfl) rfl <| ?_
         refine WL.buildSlice rfl rfl Tryz.underlying37 sz_5 zero_5 rfl (by decide) rfl (.none rfl) rfl rfl ?_
         intro g42 hg42
         refine WL.as (L' := .row g42 (u8s [1]) :: (.row g7 s.cells :: (E ++ (E1 ++ [.row g1 a.rcells])))) (by first | rfl | (rw [hset]; rfl)) ?_
         refine WL.to (L' := E ++ (.row g42 (u8s [1]) :: (.row g7 s.cells :: (E1 ++ [.row g1 a.rcells])))) (fun w hS => hS.permC (by intro c h1 h2 h3 e; simp only [h1, h2, h3]; omega)) ?_
         refine WL.appendL rfl rfl rfl Tryz.underlying37 Tryz.underlying37 sz_5 by_5 zero_5 rfl rfl hV (new := u8s [1]) (fun _ => ⟨g42, 0, rfl, fun w hS => allAt (g := g42) w hS⟩) rfl rfl (by omega) (.none rfl) rfl rfl ?_
         intro ad43 c43 E43 hV43 hr43
         rw [← u8s_app] at hV43
         have hk2 := hV43.toB
         rw [hk2] at hV43 ⊢
         refine WL.v (v_assign rfl rfl) rfl <| WL.nil <| ?_
         exact WE.mid ⟨0, ad43, c43, xs ++ [1], E43⟩ ⟨by dsimp only; rw [hxs]; rfl, hV43⟩ (.cons rfl (.cons rfl (.cons rfl (.cons rfl (.cons rfl (.cons rfl (.cons rfl .nil))))))) (List.Sublist.append_left (.cons _ (.refl _)) _)
       ·
        rintro ⟨_, ad, c, ys, E⟩ ⟨hys, hV⟩
        dsimp only at hys hV
        dsimp only
        have hyl : ys.length ≤ 600 * k + 1 := (by rw [hys, List.length_append, ← hxs]; show _ + 1 ≤ _; omega)
        refine WC.seq <| WC.region <| WL.v (v_move rfl rfl) rfl <| WL.v (v_fieldAddr0 rfl rfl fld_96_1) rfl <| WL.v (v_load1 rfl rfl one_27 (cellAt (v := .slice s.ad s.asl.length s.cap) rfl)) rfl <| WL.v (v_len_slice rfl rfl Tryz.underlying27) rfl <| WL.v (v_conv rfl rfl Tryz.underlying5 Tryz.underlying3 (show _ = (s.asl.length : Int) % 256 from w_u8m _)) rfl <| ?_
        refine WL.buildSlice rfl rfl Tryz.underlying37 sz_5 zero_5 rfl (by decide) rfl (.none rfl) rfl rfl ?_
        intro g52 hg52
        refine WL.as (L' := .row g52 (u8s [(s.asl.length : Int) % 256]) :: (E ++ (.row g7 s.cells :: (E1 ++ [.row g1 a.rcells])))) rfl ?_
        refine WL.to (L' := E ++ (.row g52 (u8s [(s.asl.length : Int) % 256]) :: (.row g7 s.cells :: (E1 ++ [.row g1 a.rcells])))) (fun w hS => hS.permC (by intro c h1 h2 h3 e; simp only [h1, h2, h3]; omega)) ?_
        refine WL.appendL rfl rfl rfl Tryz.underlying37 Tryz.underlying37 sz_5 by_5 zero_5 rfl rfl hV (new := u8s [(s.asl.length : Int) % 256]) (fun _ => ⟨g52, 0, rfl, fun w hS => allAt (g := g52) w hS⟩) rfl rfl (by omega) (.none rfl) rfl rfl ?_
        intro ad53 c53 E53 hV53 hr53
        rw [← u8s_app] at hV53
        have hk2 := hV53.toB
        rw [hk2] at hV53 ⊢
        refine WL.v (v_assign rfl rfl) rfl <| WL.nt <| WC.seq <| WC.region <| WL.v (v_fieldAddr0 rfl rfl fld_96_1) rfl <| WL.v (v_load1 rfl rfl one_27 (cellAt (v := .slice s.ad s.asl.length s.cap) rfl)) rfl <| WL.v (v_len_slice rfl rfl Tryz.underlying27) rfl <| WL.v (v_move rfl rfl) rfl <| WL.nt <| WC.block <| ?_
        refine WC.loop (fun y : OutS => [(57, .int .i64 y.k), (56, .int .i64 s.asl.length), (55, .slice s.ad s.asl.length s.cap), (35, .int .i64 k), (34, .int .i64 a.path.length), (33, .slice a.pad a.path.length a.pc), (7, .pointer (some ⟨g7, 0, none⟩)), (5, .slice y.ad y.xs.length y.c), (4, .slice ad1 (preE a 1).length c1), (1, .pointer (some ⟨g1, 0, none⟩))]) (fun y => y.E ++ (.row g7 s.cells :: (E1 ++ [.row g1 a.rcells]))) (fun y => y.k ≤ s.asl.length ∧ y.xs = ys ++ [(s.asl.length : Int) % 256] ++ ((s.asl.take y.k).flatMap fun x => numB x 2) ∧ BV y.ad y.c y.xs y.E) (fun y => s.asl.length - y.k) ⟨0, ad53, c53, ys ++ [(s.asl.length : Int) % 256], E53⟩ ⟨Nat.zero_le _, (List.append_nil _).symm, hV53⟩ (.cons rfl (.cons rfl (.cons rfl (.cons rfl (.cons rfl (.cons rfl (.cons rfl (.cons rfl (.cons rfl (.cons rfl .nil)))))))))) (List.Sublist.append_left (.cons _ (.refl _)) _) ?_
        rintro ⟨i, ad, c, zs, E⟩ ⟨hi, hzs, hV⟩
        dsimp only at hi hzs hV
        dsimp only
        have hzl : zs.length = ys.length + 1 + 2 * i := (by rw [hzs, List.length_append, List.length_append, flat2_len, List.length_take, Nat.min_eq_left hi]; rfl)
        refine WC.seq <| WC.region <| ?_
        refine WL.test (v_lss rfl rfl rfl) (.none rfl) rfl rfl (fun h58 => ?_) (fun h58 => ?_)
        ·
         refine WL.nt <| WC.seq <| WC.cond_t rfl <| WC.skip <| WE.then_n <| WC.seq <| WC.block <| WC.seq <| WC.region <| ?_
         obtain ⟨x, hx⟩ : ∃ x, s.asl[i]? = some x := ⟨s.asl[i]'(by omega), List.getElem?_eq_getElem _⟩
         obtain ⟨b1, o1, ea1, r1⟩ := hsC (by rw [i64s_len]; omega)
         have hxb := of_decide_eq_true (List.all_eq_true.1 hsg.2 x (List.mem_of_getElem? hx))
         refine WL.v ((v_indexAddr (b := b1) (off := o1) (lo := i) rfl (by show some (Value.slice s.ad _ _) = _; rw [ea1]) rfl Tryz.underlying27 sz_3 rfl (by omega))) rfl ?_
         refine WL.v (v_load1 rfl rfl one_3 (cellOld (fun h => h) (rgOne r1 (i64s_get hx)))) rfl <| WL.v (v_assign rfl rfl) rfl <| WL.nt <| WC.region <| WL.v (v_move rfl rfl) rfl <| WL.v (v_move rfl rfl) rfl <| WL.call rfl rfl ck_44 (.none rfl) rfl rfl <| ?_
         intro w1 hS
         refine (RBytes06_c w1 x 2 (by omega) (by omega) (by omega)).mono ?_
         rintro e w' ⟨adB, cadB, EadB, rfl, hVadB, hS'⟩
         refine ⟨_, _, rfl, hS.join hS', ?_⟩
         refine WL.to (L' := E ++ (EadB ++ (.row g7 s.cells :: (E1 ++ [.row g1 a.rcells])))) (fun w hS => hS.permC (by intro c h1 h2 h3 e; simp only [h1, h2, h3]; omega)) ?_
         refine WL.appendL rfl rfl rfl Tryz.underlying37 Tryz.underlying37 sz_5 by_5 zero_5 rfl rfl hV (new := u8s (numB x 2)) (hVadB.srcE _ (by rw [u8s_len, numB_len]) (fun e he => List.mem_append_right _ (List.mem_append_left _ he))) (by rw [u8s_len, numB_len]) (u8s_one _) (by omega) (.none rfl) rfl rfl ?_
         intro ad64 c64 E64 hV64 hr64
         rw [← u8s_app] at hV64
         have hk2 := hV64.toB
         rw [hk2] at hV64 ⊢
         refine WL.v (v_assign rfl rfl) rfl <| WL.nil <| WE.block_n <| WE.then_n <| WC.region <| ?_
         refine WL.v (v_add rfl rfl rfl (show _ = ((i + 1 : Nat) : Int) from (w_i64 (by omega) (by omega)).trans (by omega))) rfl ?_
         refine WL.v (v_move rfl rfl) rfl <| WL.nil <| ?_
         exact WE.next ⟨i + 1, ad64, c64, zs ++ numB x 2, E64⟩ (by dsimp only; omega) ⟨by dsimp only; omega, by dsimp only; rw [take_succ_get hx, flat2_snoc, hzs, List.append_assoc], hV64⟩ (.cons rfl (.cons rfl (.cons rfl (.cons rfl (.cons rfl (.cons rfl (.cons rfl (.cons rfl (.cons rfl (.cons rfl .nil)))))))))) (List.Sublist.append_left (List.sublist_append_right _ _) _)
        ·
         refine WL.nt <| WC.seq <| WC.cond_f rfl <| WC.exit <| WE.then_exit <| WE.then_exit <| WE.block_hit <| WE.block_n <| WE.then_n <| WC.region <| ?_
         refine WL.v (v_add rfl rfl rfl (show _ = ((k + 1 : Nat) : Int) from (w_i64 (by omega) (by omega)).trans (by omega))) rfl ?_
         refine WL.v (v_move rfl rfl) rfl <| WL.nil <| ?_
         have hii : i = s.asl.length := (by omega)
         exact WE.next ⟨k + 1, ad, c, zs, E⟩ (by dsimp only; omega) ⟨by dsimp only; omega, by dsimp only; rw [take_succ_get hs, segsE_snoc, segE_cons, hzs, hys, hii, List.take_length]; simp only [List.append_assoc], hV, by dsimp only; omega⟩ (.cons rfl (.cons rfl (.cons rfl (.cons rfl (.cons rfl (.cons rfl .nil)))))) (List.Sublist.append_left (.cons _ (.refl _)) _)
      ·
       refine WL.nt <| WC.seq <| WC.cond_f rfl <| WC.exit <| WE.then_exit <| WE.then_exit <| WE.block_hit <| WE.then_n <| WC.region <| ?_
       have hkk : k = a.path.length := (by omega)
       rw [hkk, List.take_length] at hxs
       refine WL.v (v_move rfl rfl) rfl <| WL.v (v_move rfl rfl) rfl <| WL.call rfl rfl ck_43 (.none rfl) rfl rfl <| ?_
       intro w1 hS
       refine (RLay_c w1 64 2 ad c xs (by omega) (by omega) (Vec.cellsAt hV fun e he => hS.holds e (List.mem_append_left _ he)) (by omega)).mono ?_
       rintro e w' ⟨adL, cL, EL, rfl, hVL, hS'⟩
       refine ⟨_, _, rfl, hS.join hS', ?_⟩
       refine WL.to (L' := E1 ++ (EL ++ (E ++ [.row g1 a.rcells]))) (fun w hS => hS.permC (by intro c h1 h2 h3 e; simp only [h1, h2, h3]; omega)) ?_
       have hplt := putE_le 64 2 (xs)
       refine WL.appendL rfl rfl rfl Tryz.underlying37 Tryz.underlying37 sz_5 by_5 zero_5 rfl rfl hV1 (new := u8s (putE 64 2 (xs))) (hVL.srcE _ (by rw [u8s_len]) (fun e he => List.mem_append_right _ (List.mem_append_left _ he))) (by rw [u8s_len, Nat.mul_one]) (u8s_one _) (by omega) (.none rfl) rfl rfl ?_
       intro ad70 c70 E70 hV70 hr70
       rw [← u8s_app] at hV70
       have hk := hV70.toB
       rw [hk] at hV70 ⊢
       have epre : preE a 2 = preE a 1 ++ putE 64 2 (xs) := (by rw [preE_succ, knownE_T hb2 (v := xs) (by rw [hxs]; rfl), f2]; rfl)
       have elen := congrArg List.length epre
       rw [List.length_append] at elen
       rw [← epre] at hV70 ⊢
       refine WL.v (v_assign rfl rfl) rfl <| WL.nil <| ?_
       exact WE.mid ⟨0, ad70, c70, [], E70⟩ ⟨hV70, by omega⟩ (.cons rfl (.cons rfl .nil)) (List.Sublist.append_left (by repeat (first | exact List.Sublist.refl _ | refine List.sublist_append_of_sublist_right ?_)) _)
    ·
     rintro ⟨_, ad2, c2, _, E2⟩ ⟨hV2, hN2⟩
     dsimp only at hV2 hN2
     dsimp only
     refine WC.cut (fun y : OutS => [(4, .slice y.ad (preE a 3).length y.c), (1, .pointer (some ⟨g1, 0, none⟩))]) (fun y => y.E ++ [.row g1 a.rcells]) (fun y => BV y.ad y.c (preE a 3) y.E ∧ (preE a 3).length ≤ 700010) ?_ ?_
     ·
      refine WC.seq <| WC.region <| WL.v (v_fieldAddr0 rfl rfl fld_48_0) rfl <| WL.v (v_load1 rfl rfl one_3 (cellAt rfl)) rfl <| WL.call rfl rfl ck_42 (.none rfl) rfl rfl <| ?_
      intro w hS
      refine Calls.then (RThere_c _ a.has 3 hkn.1 (by omega) (by omega)) hS ?_
      generalize hb3 : hasB a.has 3 = b73
      cases b73
      ·
       refine WL.nt <| WC.cond_f rfl <| WC.skip <| ?_
       have epre : preE a 3 = preE a 2 := (by rw [preE_succ, knownE_F hb3, List.append_nil])
       exact WE.mid ⟨0, ad2, c2, [], E2⟩ ⟨by dsimp only; rw [epre]; exact hV2, by rw [epre]; omega⟩ (.eq rfl (by dsimp only; rw [epre]) (.cons rfl .nil)) (.refl _)
      ·
       refine WL.nt <| WC.cond_t rfl <| WC.region <| ?_
       skip
       refine WL.v (v_move rfl rfl) rfl <| WL.v (v_fieldAddr0 rfl rfl fld_48_3) rfl <| WL.v (v_load1 rfl rfl one_3 (cellAt rfl)) rfl <| WL.call rfl rfl ck_44 (.none rfl) rfl rfl <| ?_
       intro w1 hS
       refine (RBytes06_c w1 a.hop 4 (by omega) (by omega) (by omega)).mono ?_
       rintro e w' ⟨adB, cadB, EadB, rfl, hVadB, hS'⟩
       refine ⟨_, _, rfl, hS.join hS', ?_⟩
       refine WL.call rfl rfl ck_43 (.none rfl) rfl rfl ?_
       intro w1 hS
       have hc := RLay_c w1 64 3 adB cadB (numB a.hop 4) (by omega) (by omega) (Vec.cellsAt hVadB fun e he => hS.holds e (List.mem_append_left _ he)) (by rw [numB_len]; omega)
       rw [numB_len] at hc
       refine hc.mono ?_
       rintro e w' ⟨adL, cL, EL, rfl, hVL, hS'⟩
       refine ⟨_, _, rfl, hS.join hS', ?_⟩
       refine WL.to (L' := E2 ++ (EL ++ (EadB ++ [.row g1 a.rcells]))) (fun w hS => hS.permC (by intro c h1 h2 h3 e; simp only [h1, h2, h3]; omega)) ?_
       have hplt := putE_le 64 3 (numB a.hop 4)
       have hnbl := numB_len (a.hop) 4
       refine WL.appendL rfl rfl rfl Tryz.underlying37 Tryz.underlying37 sz_5 by_5 zero_5 rfl rfl hV2 (new := u8s (putE 64 3 (numB a.hop 4))) (hVL.srcE _ (by rw [u8s_len]) (fun e he => List.mem_append_right _ (List.mem_append_left _ he))) (by rw [u8s_len, Nat.mul_one]) (u8s_one _) (by omega) (.none rfl) rfl rfl ?_
       intro ad79 c79 E79 hV79 hr79
       rw [← u8s_app] at hV79
       have hk := hV79.toB
       rw [hk] at hV79 ⊢
       have epre : preE a 3 = preE a 2 ++ putE 64 3 (numB a.hop 4) := (by rw [preE_succ, knownE_T hb3 (v := numB a.hop 4) rfl, f3]; rfl)
       have elen := congrArg List.length epre
       rw [List.length_append] at elen
       rw [← epre] at hV79 ⊢
       refine WL.v (v_assign rfl rfl) rfl <| WL.nil <| ?_
       exact WE.mid ⟨0, ad79, c79, [], E79⟩ ⟨hV79, by omega⟩ (.cons rfl (.cons rfl .nil)) (List.Sublist.append_left (by repeat (first | exact List.Sublist.refl _ | refine List.sublist_append_of_sublist_right ?_)) _)
     ·
      rintro ⟨_, ad3, c3, _, E3⟩ ⟨hV3, hN3⟩
      dsimp only at hV3 hN3
      dsimp only
      refine WC.cut (fun y : OutS => [(4, .slice y.ad (preE a 4).length y.c), (1, .pointer (some ⟨g1, 0, none⟩))]) (fun y => y.E ++ [.row g1 a.rcells]) (fun y => BV y.ad y.c (preE a 4) y.E ∧ (preE a 4).length ≤ 700020) ?_ ?_
      ·
       refine WC.seq <| WC.region <| WL.v (v_fieldAddr0 rfl rfl fld_48_0) rfl <| WL.v (v_load1 rfl rfl one_3 (cellAt rfl)) rfl <| WL.call rfl rfl ck_42 (.none rfl) rfl rfl <| ?_
       intro w hS
       refine Calls.then (RThere_c _ a.has 4 hkn.1 (by omega) (by omega)) hS ?_
       generalize hb4 : hasB a.has 4 = b82
       cases b82
       ·
        refine WL.nt <| WC.cond_f rfl <| WC.skip <| ?_
        have epre : preE a 4 = preE a 3 := (by rw [preE_succ, knownE_F hb4, List.append_nil])
        exact WE.mid ⟨0, ad3, c3, [], E3⟩ ⟨by dsimp only; rw [epre]; exact hV3, by rw [epre]; omega⟩ (.eq rfl (by dsimp only; rw [epre]) (.cons rfl .nil)) (.refl _)
       ·
        refine WL.nt <| WC.cond_t rfl <| WC.region <| ?_
        have hw4 : 0 ≤ a.med ∧ a.med ≤ 4294967295 := (by rw [hb4] at e4; exact of_decide_eq_true e4)
        refine WL.v (v_move rfl rfl) rfl <| WL.v (v_fieldAddr0 rfl rfl fld_48_4) rfl <| WL.v (v_load1 rfl rfl one_3 (cellAt rfl)) rfl <| WL.call rfl rfl ck_44 (.none rfl) rfl rfl <| ?_
        intro w1 hS
        refine (RBytes06_c w1 a.med 4 (by omega) (by omega) (by omega)).mono ?_
        rintro e w' ⟨adB, cadB, EadB, rfl, hVadB, hS'⟩
        refine ⟨_, _, rfl, hS.join hS', ?_⟩
        refine WL.call rfl rfl ck_43 (.none rfl) rfl rfl ?_
        intro w1 hS
        have hc := RLay_c w1 128 4 adB cadB (numB a.med 4) (by omega) (by omega) (Vec.cellsAt hVadB fun e he => hS.holds e (List.mem_append_left _ he)) (by rw [numB_len]; omega)
        rw [numB_len] at hc
        refine hc.mono ?_
        rintro e w' ⟨adL, cL, EL, rfl, hVL, hS'⟩
        refine ⟨_, _, rfl, hS.join hS', ?_⟩
        refine WL.to (L' := E3 ++ (EL ++ (EadB ++ [.row g1 a.rcells]))) (fun w hS => hS.permC (by intro c h1 h2 h3 e; simp only [h1, h2, h3]; omega)) ?_
        have hplt := putE_le 128 4 (numB a.med 4)
        have hnbl := numB_len (a.med) 4
        refine WL.appendL rfl rfl rfl Tryz.underlying37 Tryz.underlying37 sz_5 by_5 zero_5 rfl rfl hV3 (new := u8s (putE 128 4 (numB a.med 4))) (hVL.srcE _ (by rw [u8s_len]) (fun e he => List.mem_append_right _ (List.mem_append_left _ he))) (by rw [u8s_len, Nat.mul_one]) (u8s_one _) (by omega) (.none rfl) rfl rfl ?_
        intro ad88 c88 E88 hV88 hr88
        rw [← u8s_app] at hV88
        have hk := hV88.toB
        rw [hk] at hV88 ⊢
        have epre : preE a 4 = preE a 3 ++ putE 128 4 (numB a.med 4) := (by rw [preE_succ, knownE_T hb4 (v := numB a.med 4) rfl, f4]; rfl)
        have elen := congrArg List.length epre
        rw [List.length_append] at elen
        rw [← epre] at hV88 ⊢
        refine WL.v (v_assign rfl rfl) rfl <| WL.nil <| ?_
        exact WE.mid ⟨0, ad88, c88, [], E88⟩ ⟨hV88, by omega⟩ (.cons rfl (.cons rfl .nil)) (List.Sublist.append_left (by repeat (first | exact List.Sublist.refl _ | refine List.sublist_append_of_sublist_right ?_)) _)
      ·
       rintro ⟨_, ad4, c4, _, E4⟩ ⟨hV4, hN4⟩
       dsimp only at hV4 hN4
       dsimp only
       refine WC.cut (fun y : OutS => [(4, .slice y.ad (preE a 5).length y.c), (1, .pointer (some ⟨g1, 0, none⟩))]) (fun y => y.E ++ [.row g1 a.rcells]) (fun y => BV y.ad y.c (preE a 5) y.E ∧ (preE a 5).length ≤ 700030) ?_ ?_
       ·
        refine WC.seq <| WC.region <| WL.v (v_fieldAddr0 rfl rfl fld_48_0) rfl <| WL.v (v_load1 rfl rfl one_3 (cellAt rfl)) rfl <| WL.call rfl rfl ck_42 (.none rfl) rfl rfl <| ?_
        intro w hS
        refine Calls.then (RThere_c _ a.has 5 hkn.1 (by omega) (by omega)) hS ?_
        generalize hb5 : hasB a.has 5 = b91
        cases b91
        ·
         refine WL.nt <| WC.cond_f rfl <| WC.skip <| ?_
         have epre : preE a 5 = preE a 4 := (by rw [preE_succ, knownE_F hb5, List.append_nil])
         exact WE.mid ⟨0, ad4, c4, [], E4⟩ ⟨by dsimp only; rw [epre]; exact hV4, by rw [epre]; omega⟩ (.eq rfl (by dsimp only; rw [epre]) (.cons rfl .nil)) (.refl _)
        ·
         refine WL.nt <| WC.cond_t rfl <| WC.region <| ?_
         have hw5 : 0 ≤ a.loc ∧ a.loc ≤ 4294967295 := (by rw [hb5] at e5; exact of_decide_eq_true e5)
         refine WL.v (v_move rfl rfl) rfl <| WL.v (v_fieldAddr0 rfl rfl fld_48_5) rfl <| WL.v (v_load1 rfl rfl one_3 (cellAt rfl)) rfl <| WL.call rfl rfl ck_44 (.none rfl) rfl rfl <| ?_
         intro w1 hS
         refine (RBytes06_c w1 a.loc 4 (by omega) (by omega) (by omega)).mono ?_
         rintro e w' ⟨adB, cadB, EadB, rfl, hVadB, hS'⟩
         refine ⟨_, _, rfl, hS.join hS', ?_⟩
         refine WL.call rfl rfl ck_43 (.none rfl) rfl rfl ?_
         intro w1 hS
         have hc := RLay_c w1 64 5 adB cadB (numB a.loc 4) (by omega) (by omega) (Vec.cellsAt hVadB fun e he => hS.holds e (List.mem_append_left _ he)) (by rw [numB_len]; omega)
         rw [numB_len] at hc
         refine hc.mono ?_
         rintro e w' ⟨adL, cL, EL, rfl, hVL, hS'⟩
         refine ⟨_, _, rfl, hS.join hS', ?_⟩
         refine WL.to (L' := E4 ++ (EL ++ (EadB ++ [.row g1 a.rcells]))) (fun w hS => hS.permC (by intro c h1 h2 h3 e; simp only [h1, h2, h3]; omega)) ?_
         have hplt := putE_le 64 5 (numB a.loc 4)
         have hnbl := numB_len (a.loc) 4
         refine WL.appendL rfl rfl rfl Tryz.underlying37 Tryz.underlying37 sz_5 by_5 zero_5 rfl rfl hV4 (new := u8s (putE 64 5 (numB a.loc 4))) (hVL.srcE _ (by rw [u8s_len]) (fun e he => List.mem_append_right _ (List.mem_append_left _ he))) (by rw [u8s_len, Nat.mul_one]) (u8s_one _) (by omega) (.none rfl) rfl rfl ?_
         intro ad97 c97 E97 hV97 hr97
         rw [← u8s_app] at hV97
         have hk := hV97.toB
         rw [hk] at hV97 ⊢
         have epre : preE a 5 = preE a 4 ++ putE 64 5 (numB a.loc 4) := (by rw [preE_succ, knownE_T hb5 (v := numB a.loc 4) rfl, f5]; rfl)
         have elen := congrArg List.length epre
         rw [List.length_append] at elen
         rw [← epre] at hV97 ⊢
         refine WL.v (v_assign rfl rfl) rfl <| WL.nil <| ?_
         exact WE.mid ⟨0, ad97, c97, [], E97⟩ ⟨hV97, by omega⟩ (.cons rfl (.cons rfl .nil)) (List.Sublist.append_left (by repeat (first | exact List.Sublist.refl _ | refine List.sublist_append_of_sublist_right ?_)) _)
       ·
        rintro ⟨_, ad5, c5, _, E5⟩ ⟨hV5, hN5⟩
        dsimp only at hV5 hN5
        dsimp only
        refine WC.cut (fun y : OutS => [(4, .slice y.ad (preE a 6).length y.c), (1, .pointer (some ⟨g1, 0, none⟩))]) (fun y => y.E ++ [.row g1 a.rcells]) (fun y => BV y.ad y.c (preE a 6) y.E ∧ (preE a 6).length ≤ 700040) ?_ ?_
        ·
         refine WC.seq <| WC.region <| WL.v (v_fieldAddr0 rfl rfl fld_48_0) rfl <| WL.v (v_load1 rfl rfl one_3 (cellAt rfl)) rfl <| WL.call rfl rfl ck_42 (.none rfl) rfl rfl <| ?_
         intro w hS
         refine Calls.then (RThere_c _ a.has 6 hkn.1 (by omega) (by omega)) hS ?_
         generalize hb6 : hasB a.has 6 = b100
         cases b100
         ·
          refine WL.nt <| WC.cond_f rfl <| WC.skip <| ?_
          have epre : preE a 6 = preE a 5 := (by rw [preE_succ, knownE_F hb6, List.append_nil])
          exact WE.mid ⟨0, ad5, c5, [], E5⟩ ⟨by dsimp only; rw [epre]; exact hV5, by rw [epre]; omega⟩ (.eq rfl (by dsimp only; rw [epre]) (.cons rfl .nil)) (.refl _)
         ·
          refine WL.nt <| WC.cond_t rfl <| WC.region <| WL.v (v_move rfl rfl) rfl <| WL.call rfl rfl ck_43 (.none rfl) rfl rfl <| ?_
          intro w1 hS
          refine (RLay_c w1 64 6 none 0 [] (by omega) (by omega) (fun h => absurd h (Nat.lt_irrefl 0)) (by show 0 ≤ 1000000; omega)).mono ?_
          rintro e w' ⟨adL, cL, EL, rfl, hVL, hS'⟩
          refine ⟨_, _, rfl, hS.join hS', ?_⟩
          refine WL.to (L' := E5 ++ (EL ++ ([.row g1 a.rcells]))) (fun w hS => hS.permC (by intro c h1 h2 h3 e; simp only [h1, h2, h3]; omega)) ?_
          have hplt := putE_le 64 6 ([])
          have hnil : ([] : List Int).length = 0 := rfl
          refine WL.appendL rfl rfl rfl Tryz.underlying37 Tryz.underlying37 sz_5 by_5 zero_5 rfl rfl hV5 (new := u8s (putE 64 6 ([]))) (hVL.srcE _ (by rw [u8s_len]) (fun e he => List.mem_append_right _ (List.mem_append_left _ he))) (by rw [u8s_len, Nat.mul_one]) (u8s_one _) (by omega) (.none rfl) rfl rfl ?_
          intro ad103 c103 E103 hV103 hr103
          rw [← u8s_app] at hV103
          have hk := hV103.toB
          rw [hk] at hV103 ⊢
          have epre : preE a 6 = preE a 5 ++ putE 64 6 ([]) := (by rw [preE_succ, knownE_T hb6 (v := []) rfl, f6]; rfl)
          have elen := congrArg List.length epre
          rw [List.length_append] at elen
          rw [← epre] at hV103 ⊢
          refine WL.v (v_assign rfl rfl) rfl <| WL.nil <| ?_
          exact WE.mid ⟨0, ad103, c103, [], E103⟩ ⟨hV103, by omega⟩ (.cons rfl (.cons rfl .nil)) (List.Sublist.append_left (List.sublist_append_right _ _) _)
        ·
         rintro ⟨_, ad6, c6, _, E6⟩ ⟨hV6, hN6⟩
         dsimp only at hV6 hN6
         dsimp only
         refine WC.cut (fun y : OutS => [(4, .slice y.ad (preE a 7).length y.c), (1, .pointer (some ⟨g1, 0, none⟩))]) (fun y => y.E ++ [.row g1 a.rcells]) (fun y => BV y.ad y.c (preE a 7) y.E ∧ (preE a 7).length ≤ 700060) ?_ ?_
         ·
          refine WC.seq <| WC.region <| WL.v (v_fieldAddr0 rfl rfl fld_48_0) rfl <| WL.v (v_load1 rfl rfl one_3 (cellAt rfl)) rfl <| WL.call rfl rfl ck_42 (.none rfl) rfl rfl <| ?_
          intro w hS
          refine Calls.then (RThere_c _ a.has 7 hkn.1 (by omega) (by omega)) hS ?_
          generalize hb7 : hasB a.has 7 = b106
          cases b106
          ·
           refine WL.nt <| WC.cond_f rfl <| WC.skip <| ?_
           have epre : preE a 7 = preE a 6 := (by rw [preE_succ, knownE_F hb7, List.append_nil])
           exact WE.mid ⟨0, ad6, c6, [], E6⟩ ⟨by dsimp only; rw [epre]; exact hV6, by rw [epre]; omega⟩ (.eq rfl (by dsimp only; rw [epre]) (.cons rfl .nil)) (.refl _)
          ·
           refine WL.nt <| WC.cond_t rfl <| WC.orders mixed <| ?_
           refine WR.first (g := 8) [0, 1, 4] (by kernel_rfl) (by kernel_rfl) ?_
           have hw7 : 0 ≤ a.aas ∧ a.aas ≤ 65535 := (by rw [hb7] at e7; exact of_decide_eq_true e7)
           refine WP.val (v_move rfl rfl) (.none rfl) rfl rfl <| WP.val (v_fieldAddr0 rfl rfl fld_48_6) (.none rfl) rfl rfl <| WP.val (v_fieldAddr0 rfl rfl fld_48_7) (.none rfl) rfl rfl <| WP.nil <| ?_
           refine WR.each (g := 7) [2, 5] (by kernel_rfl) (by decide) ?_
           refine ⟨?_, ?_⟩
           ·
            refine WL.v (v_load1 rfl rfl one_3 (cellAt rfl)) rfl <| WL.nilR <| ?_
            refine WR.each (g := 6) [3, 5] (by kernel_rfl) (by decide) ?_
            refine ⟨?_, ?_⟩
            ·
             refine WL.call rfl rfl ck_44 (.none rfl) rfl rfl ?_
             intro w1 hS
             refine (RBytes06_c w1 a.aas 2 (by omega) (by omega) (by omega)).mono ?_
             rintro e w' ⟨adB, cadB, EadB, rfl, hVadB, hS'⟩
             refine ⟨_, _, rfl, hS.join hS', ?_⟩
             refine WL.nilR ?_
             refine WR.read (g := 5) [5] (by kernel_rfl) (by kernel_rfl) (by kernel_rfl) (by kernel_rfl) rfl ?_
             refine WQ.val (v_load1 rfl rfl one_3 (cellAt rfl)) (.none rfl) rfl rfl <| WQ.nilR <| ?_
             refine WR.ones (g := 1) [6, 7, 8, 9] (by kernel_rfl) ?_
             refine WL.call rfl rfl ck_44 (.none rfl) rfl rfl ?_
             intro w1 hS
             refine (RBytes06_c w1 a.aid 4 (by omega) (by omega) (by omega)).mono ?_
             rintro e w' ⟨adC, cadC, EadC, rfl, hVadC, hS'⟩
             refine ⟨_, _, rfl, hS.join hS', ?_⟩
             refine WL.to (L' := EadB ++ (EadC ++ (E6 ++ [.row g1 a.rcells]))) (fun w hS => hS.permC (by intro c h1 h2 h3 e; simp only [h1, h2, h3]; omega)) ?_
             refine WL.appendL rfl rfl rfl Tryz.underlying37 Tryz.underlying37 sz_5 by_5 zero_5 rfl rfl (show Vec 1 adB 2 cadB (u8s (numB a.aas 2)) EadB from by have := hVadB; unfold BV at this; rw [numB_len] at this; exact this) (new := u8s (numB a.aid 4)) (hVadC.srcE _ (by rw [u8s_len, numB_len]) (fun e he => List.mem_append_right _ (List.mem_append_left _ he))) (by rw [u8s_len, numB_len]) (u8s_one _) (by omega) (.none rfl) rfl rfl ?_
             intro ad114 c114 E114 hV114 hr114
             rw [← u8s_app] at hV114
             refine WL.call rfl rfl ck_43 (.none rfl) rfl rfl ?_
             intro w1 hS
             have hl6 : (numB a.aas 2 ++ numB a.aid 4).length = 2 + 4 := (by rw [List.length_append, numB_len, numB_len])
             have hc := RLay_c w1 192 7 ad114 c114 (numB a.aas 2 ++ numB a.aid 4) (by omega) (by omega) (Vec.cellsAt (show BV ad114 c114 (numB a.aas 2 ++ numB a.aid 4) E114 by unfold BV; rw [hl6]; exact hV114) fun e he => hS.holds e (List.mem_append_left _ he)) (by omega)
             rw [hl6] at hc
             refine hc.mono ?_
             rintro e w' ⟨adL, cL, EL, rfl, hVL, hS'⟩
             refine ⟨_, _, rfl, hS.join hS', ?_⟩
             refine WL.to (L' := E6 ++ (EL ++ (E114 ++ (EadC ++ [.row g1 a.rcells])))) (fun w hS => hS.permC (by intro c h1 h2 h3 e; simp only [h1, h2, h3]; omega)) ?_
             have hplt := putE_le 192 7 (numB a.aas 2 ++ numB a.aid 4)
             have hl6 : (numB a.aas 2 ++ numB a.aid 4).length = 2 + 4 := (by rw [List.length_append, numB_len, numB_len])
             refine WL.appendL rfl rfl rfl Tryz.underlying37 Tryz.underlying37 sz_5 by_5 zero_5 rfl rfl hV6 (new := u8s (putE 192 7 (numB a.aas 2 ++ numB a.aid 4))) (hVL.srcE _ (by rw [u8s_len]) (fun e he => List.mem_append_right _ (List.mem_append_left _ he))) (by rw [u8s_len, Nat.mul_one]) (u8s_one _) (by omega) (.none rfl) rfl rfl ?_
             intro ad116 c116 E116 hV116 hr116
             rw [← u8s_app] at hV116
             have hk := hV116.toB
             rw [hk] at hV116 ⊢
             have epre : preE a 7 = preE a 6 ++ putE 192 7 (numB a.aas 2 ++ numB a.aid 4) := (by rw [preE_succ, knownE_T hb7 (v := numB a.aas 2 ++ numB a.aid 4) rfl, f7]; rfl)
             have elen := congrArg List.length epre
             rw [List.length_append] at elen
             rw [← epre] at hV116 ⊢
             refine WL.nilR ?_
             refine WR.first (g := 0) [10] (by kernel_rfl) (by kernel_rfl) ?_
             refine WP.val (v_assign rfl rfl) (.none rfl) rfl rfl <| WP.nil <| ?_
             refine WR.done (by kernel_rfl) ?_
             exact WE.mid ⟨0, ad116, c116, [], E116⟩ ⟨hV116, by omega⟩ (.cons rfl (.cons rfl .nil)) (List.Sublist.append_left (by repeat (first | exact List.Sublist.refl _ | refine List.sublist_append_of_sublist_right ?_)) _)
            ·
             refine WL.v (v_load1 rfl rfl one_3 (cellAt rfl)) rfl <| WL.nilR <| ?_
             refine WR.ones (g := 1) [3, 6, 7, 8, 9] (by kernel_rfl) ?_
             refine WL.call rfl rfl ck_44 (.none rfl) rfl rfl ?_
             intro w1 hS
             refine (RBytes06_c w1 a.aas 2 (by omega) (by omega) (by omega)).mono ?_
             rintro e w' ⟨adB, cadB, EadB, rfl, hVadB, hS'⟩
             refine ⟨_, _, rfl, hS.join hS', ?_⟩
             refine WL.call rfl rfl ck_44 (.none rfl) rfl rfl ?_
             intro w1 hS
             refine (RBytes06_c w1 a.aid 4 (by omega) (by omega) (by omega)).mono ?_
             rintro e w' ⟨adC, cadC, EadC, rfl, hVadC, hS'⟩
             refine ⟨_, _, rfl, hS.join hS', ?_⟩
             refine WL.to (L' := EadB ++ (EadC ++ (E6 ++ [.row g1 a.rcells]))) (fun w hS => hS.permC (by intro c h1 h2 h3 e; simp only [h1, h2, h3]; omega)) ?_
             refine WL.appendL rfl rfl rfl Tryz.underlying37 Tryz.underlying37 sz_5 by_5 zero_5 rfl rfl (show Vec 1 adB 2 cadB (u8s (numB a.aas 2)) EadB from by have := hVadB; unfold BV at this; rw [numB_len] at this; exact this) (new := u8s (numB a.aid 4)) (hVadC.srcE _ (by rw [u8s_len, numB_len]) (fun e he => List.mem_append_right _ (List.mem_append_left _ he))) (by rw [u8s_len, numB_len]) (u8s_one _) (by omega) (.none rfl) rfl rfl ?_
             intro ad114 c114 E114 hV114 hr114
             rw [← u8s_app] at hV114
             refine WL.call rfl rfl ck_43 (.none rfl) rfl rfl ?_
             intro w1 hS
             have hl6 : (numB a.aas 2 ++ numB a.aid 4).length = 2 + 4 := (by rw [List.length_append, numB_len, numB_len])
             have hc := RLay_c w1 192 7 ad114 c114 (numB a.aas 2 ++ numB a.aid 4) (by omega) (by omega) (Vec.cellsAt (show BV ad114 c114 (numB a.aas 2 ++ numB a.aid 4) E114 by unfold BV; rw [hl6]; exact hV114) fun e he => hS.holds e (List.mem_append_left _ he)) (by omega)
             rw [hl6] at hc
             refine hc.mono ?_
             rintro e w' ⟨adL, cL, EL, rfl, hVL, hS'⟩
             refine ⟨_, _, rfl, hS.join hS', ?_⟩
             refine WL.to (L' := E6 ++ (EL ++ (E114 ++ (EadC ++ [.row g1 a.rcells])))) (fun w hS => hS.permC (by intro c h1 h2 h3 e; simp only [h1, h2, h3]; omega)) ?_
             have hplt := putE_le 192 7 (numB a.aas 2 ++ numB a.aid 4)
             have hl6 : (numB a.aas 2 ++ numB a.aid 4).length = 2 + 4 := (by rw [List.length_append, numB_len, numB_len])
             refine WL.appendL rfl rfl rfl Tryz.underlying37 Tryz.underlying37 sz_5 by_5 zero_5 rfl rfl hV6 (new := u8s (putE 192 7 (numB a.aas 2 ++ numB a.aid 4))) (hVL.srcE _ (by rw [u8s_len]) (fun e he => List.mem_append_right _ (List.mem_append_left _ he))) (by rw [u8s_len, Nat.mul_one]) (u8s_one _) (by omega) (.none rfl) rfl rfl ?_
             intro ad116 c116 E116 hV116 hr116
             rw [← u8s_app] at hV116
             have hk := hV116.toB
             rw [hk] at hV116 ⊢
             have epre : preE a 7 = preE a 6 ++ putE 192 7 (numB a.aas 2 ++ numB a.aid 4) := (by rw [preE_succ, knownE_T hb7 (v := numB a.aas 2 ++ numB a.aid 4) rfl, f7]; rfl)
             have elen := congrArg List.length epre
             rw [List.length_append] at elen
             rw [← epre] at hV116 ⊢
             refine WL.nilR ?_
             refine WR.first (g := 0) [10] (by kernel_rfl) (by kernel_rfl) ?_
             refine WP.val (v_assign rfl rfl) (.none rfl) rfl rfl <| WP.nil <| ?_
             refine WR.done (by kernel_rfl) ?_
             exact WE.mid ⟨0, ad116, c116, [], E116⟩ ⟨hV116, by omega⟩ (.cons rfl (.cons rfl .nil)) (List.Sublist.append_left (by repeat (first | exact List.Sublist.refl _ | refine List.sublist_append_of_sublist_right ?_)) _)
           ·
            refine WL.v (v_load1 rfl rfl one_3 (cellAt rfl)) rfl <| WL.nilR <| ?_
            refine WR.read (g := 6) [2] (by kernel_rfl) (by kernel_rfl) (by kernel_rfl) (by kernel_rfl) rfl ?_
            refine WQ.val (v_load1 rfl rfl one_3 (cellAt rfl)) (.none rfl) rfl rfl <| WQ.nilR <| ?_
            refine WR.ones (g := 1) [3, 6, 7, 8, 9] (by kernel_rfl) ?_
            refine WL.call rfl rfl ck_44 (.none rfl) rfl rfl ?_
            intro w1 hS
            refine (RBytes06_c w1 a.aas 2 (by omega) (by omega) (by omega)).mono ?_
            rintro e w' ⟨adB, cadB, EadB, rfl, hVadB, hS'⟩
            refine ⟨_, _, rfl, hS.join hS', ?_⟩
            refine WL.call rfl rfl ck_44 (.none rfl) rfl rfl ?_
            intro w1 hS
            refine (RBytes06_c w1 a.aid 4 (by omega) (by omega) (by omega)).mono ?_
            rintro e w' ⟨adC, cadC, EadC, rfl, hVadC, hS'⟩
            refine ⟨_, _, rfl, hS.join hS', ?_⟩
            refine WL.to (L' := EadB ++ (EadC ++ (E6 ++ [.row g1 a.rcells]))) (fun w hS => hS.permC (by intro c h1 h2 h3 e; simp only [h1, h2, h3]; omega)) ?_
            refine WL.appendL rfl rfl rfl Tryz.underlying37 Tryz.underlying37 sz_5 by_5 zero_5 rfl rfl (show Vec 1 adB 2 cadB (u8s (numB a.aas 2)) EadB from by have := hVadB; unfold BV at this; rw [numB_len] at this; exact this) (new := u8s (numB a.aid 4)) (hVadC.srcE _ (by rw [u8s_len, numB_len]) (fun e he => List.mem_append_right _ (List.mem_append_left _ he))) (by rw [u8s_len, numB_len]) (u8s_one _) (by omega) (.none rfl) rfl rfl ?_
            intro ad114 c114 E114 hV114 hr114
            rw [← u8s_app] at hV114
            refine WL.call rfl rfl ck_43 (.none rfl) rfl rfl ?_
            intro w1 hS
            have hl6 : (numB a.aas 2 ++ numB a.aid 4).length = 2 + 4 := (by rw [List.length_append, numB_len, numB_len])
            have hc := RLay_c w1 192 7 ad114 c114 (numB a.aas 2 ++ numB a.aid 4) (by omega) (by omega) (Vec.cellsAt (show BV ad114 c114 (numB a.aas 2 ++ numB a.aid 4) E114 by unfold BV; rw [hl6]; exact hV114) fun e he => hS.holds e (List.mem_append_left _ he)) (by omega)
            rw [hl6] at hc
            refine hc.mono ?_
            rintro e w' ⟨adL, cL, EL, rfl, hVL, hS'⟩
            refine ⟨_, _, rfl, hS.join hS', ?_⟩
            refine WL.to (L' := E6 ++ (EL ++ (E114 ++ (EadC ++ [.row g1 a.rcells])))) (fun w hS => hS.permC (by intro c h1 h2 h3 e; simp only [h1, h2, h3]; omega)) ?_
            have hplt := putE_le 192 7 (numB a.aas 2 ++ numB a.aid 4)
            have hl6 : (numB a.aas 2 ++ numB a.aid 4).length = 2 + 4 := (by rw [List.length_append, numB_len, numB_len])
            refine WL.appendL rfl rfl rfl Tryz.underlying37 Tryz.underlying37 sz_5 by_5 zero_5 rfl rfl hV6 (new := u8s (putE 192 7 (numB a.aas 2 ++ numB a.aid 4))) (hVL.srcE _ (by rw [u8s_len]) (fun e he => List.mem_append_right _ (List.mem_append_left _ he))) (by rw [u8s_len, Nat.mul_one]) (u8s_one _) (by omega) (.none rfl) rfl rfl ?_
            intro ad116 c116 E116 hV116 hr116
            rw [← u8s_app] at hV116
            have hk := hV116.toB
            rw [hk] at hV116 ⊢
            have epre : preE a 7 = preE a 6 ++ putE 192 7 (numB a.aas 2 ++ numB a.aid 4) := (by rw [preE_succ, knownE_T hb7 (v := numB a.aas 2 ++ numB a.aid 4) rfl, f7]; rfl)
            have elen := congrArg List.length epre
            rw [List.length_append] at elen
            rw [← epre] at hV116 ⊢
            refine WL.nilR ?_
            refine WR.first (g := 0) [10] (by kernel_rfl) (by kernel_rfl) ?_
            refine WP.val (v_assign rfl rfl) (.none rfl) rfl rfl <| WP.nil <| ?_
            refine WR.done (by kernel_rfl) ?_
            exact WE.mid ⟨0, ad116, c116, [], E116⟩ ⟨hV116, by omega⟩ (.cons rfl (.cons rfl .nil)) (List.Sublist.append_left (by repeat (first | exact List.Sublist.refl _ | refine List.sublist_append_of_sublist_right ?_)) _)
         ·
          rintro ⟨_, ad7, c7, _, E7⟩ ⟨hV7, hN7⟩
          dsimp only at hV7 hN7
          dsimp only
          refine WC.cut (fun y : OutS => [(4, .slice y.ad (preE a 8).length y.c), (1, .pointer (some ⟨g1, 0, none⟩))]) (fun y => y.E ++ [.row g1 a.rcells]) (fun y => BV y.ad y.c (preE a 8) y.E ∧ (preE a 8).length ≤ 702000) ?_ ?_
          ·
           refine WC.seq <| WC.region <| WL.v (v_fieldAddr0 rfl rfl fld_48_0) rfl <| WL.v (v_load1 rfl rfl one_3 (cellAt rfl)) rfl <| WL.call rfl rfl ck_42 (.none rfl) rfl rfl <| ?_
           intro w hS
           refine Calls.then (RThere_c _ a.has 8 hkn.1 (by omega) (by omega)) hS ?_
           generalize hb8 : hasB a.has 8 = b119
           cases b119
           ·
            refine WL.nt <| WC.cond_f rfl <| WC.skip <| ?_
            have epre : preE a 8 = preE a 7 := (by rw [preE_succ, knownE_F hb8, List.append_nil])
            exact WE.mid ⟨0, ad7, c7, [], E7⟩ ⟨by dsimp only; rw [epre]; exact hV7, by rw [epre]; omega⟩ (.eq rfl (by dsimp only; rw [epre]) (.cons rfl .nil)) (.refl _)
           ·
            refine WL.nt <| WC.cond_t rfl <| WC.seq <| WC.region <| ?_
            refine WL.buildSlice rfl rfl Tryz.underlying37 sz_5 zero_5 rfl (by decide) rfl (.none rfl) rfl rfl ?_
            intro g120 hg120
            have hgc : commsB a.comms = true := (by rw [hb8] at e8; exact e8)
            unfold commsB at hgc
            rw [Bool.and_eq_true] at hgc
            have hcl := of_decide_eq_true hgc.2
            refine WL.v (v_assign rfl rfl) rfl <| WL.nt <| WC.seq <| WC.seq <| WC.region <| WL.v (v_fieldAddr0 rfl rfl fld_48_8) rfl <| WL.v (v_load1 rfl rfl one_27 (cellAt rfl)) rfl <| WL.v (v_len_slice rfl rfl Tryz.underlying27) rfl <| WL.v (v_move rfl rfl) rfl <| WL.nt <| ?_
            refine WC.block <| WC.loop (fun y : OutS => [(124, .int .i64 y.k), (123, .int .i64 a.comms.length), (122, .slice a.cad a.comms.length a.cc), (10, .slice y.ad y.xs.length y.c), (4, .slice ad7 (preE a 7).length c7), (1, .pointer (some ⟨g1, 0, none⟩))]) (fun y => y.E ++ (E7 ++ [.row g1 a.rcells])) (fun y => y.k ≤ a.comms.length ∧ y.xs = ((a.comms.take y.k).flatMap fun x => numB x 4) ∧ BV y.ad y.c y.xs y.E) (fun y => a.comms.length - y.k) ⟨0, some ⟨g120, 0, none⟩, 0, [], [.row g120 []]⟩ ⟨Nat.zero_le _, rfl, Vec.row (k := 0) rfl rfl (Nat.le_refl _)⟩ (.cons rfl (.cons rfl (.cons rfl (.cons rfl (.cons rfl (.cons rfl .nil)))))) (.refl _) <| ?_
            rintro ⟨k, ad, c, xs, E⟩ ⟨hk, hxs, hV⟩
            dsimp only at hk hxs hV
            dsimp only
            have hxl : xs.length = 4 * k := (by rw [hxs, flat2_len, List.length_take, Nat.min_eq_left hk])
            refine WC.seq <| WC.region <| ?_
            refine WL.test (v_lss rfl rfl rfl) (.none rfl) rfl rfl (fun h125 => ?_) (fun h125 => ?_)
            ·
             refine WL.nt <| WC.seq <| WC.cond_t rfl <| WC.skip <| WE.then_n <| WC.seq <| WC.block <| WC.seq <| WC.region <| ?_
             obtain ⟨x, hx⟩ : ∃ x, a.comms[k]? = some x := ⟨a.comms[k]'(by omega), List.getElem?_eq_getElem _⟩
             obtain ⟨b1, o1, ea1, r1⟩ := hA.comms (by rw [i64s_len]; omega)
             have hxb : 0 ≤ x ∧ x ≤ 4294967295 := of_decide_eq_true (List.all_eq_true.1 hgc.1 x (List.mem_of_getElem? hx))
             refine WL.v ((v_indexAddr (b := b1) (off := o1) (lo := k) rfl (by show some (Value.slice a.cad _ _) = _; rw [ea1]) rfl Tryz.underlying27 sz_3 rfl (by omega))) rfl ?_
             refine WL.v (v_load1 rfl rfl one_3 (cellOld (fun h => h) (rgOne r1 (i64s_get hx)))) rfl <| WL.v (v_assign rfl rfl) rfl <| WL.nt <| WC.region <| WL.v (v_move rfl rfl) rfl <| WL.v (v_move rfl rfl) rfl <| WL.call rfl rfl ck_44 (.none rfl) rfl rfl <| ?_
             intro w1 hS
             refine (RBytes06_c w1 x 4 (by omega) (by omega) (by omega)).mono ?_
             rintro e w' ⟨adB, cadB, EadB, rfl, hVadB, hS'⟩
             refine ⟨_, _, rfl, hS.join hS', ?_⟩
             refine WL.to (L' := E ++ (EadB ++ (E7 ++ [.row g1 a.rcells]))) (fun w hS => hS.permC (by intro c h1 h2 h3 e; simp only [h1, h2, h3]; omega)) ?_
             refine WL.appendL rfl rfl rfl Tryz.underlying37 Tryz.underlying37 sz_5 by_5 zero_5 rfl rfl hV (new := u8s (numB x 4)) (hVadB.srcE _ (by rw [u8s_len, numB_len]) (fun e he => List.mem_append_right _ (List.mem_append_left _ he))) (by rw [u8s_len, numB_len]) (u8s_one _) (by omega) (.none rfl) rfl rfl ?_
             intro ad131 c131 E131 hV131 hr131
             rw [← u8s_app] at hV131
             have hk2 := hV131.toB
             rw [hk2] at hV131 ⊢
             refine WL.v (v_assign rfl rfl) rfl <| WL.nil <| WE.block_n <| WE.then_n <| WC.region <| ?_
             refine WL.v (v_add rfl rfl rfl (show _ = ((k + 1 : Nat) : Int) from (w_i64 (by omega) (by omega)).trans (by omega))) rfl ?_
             refine WL.v (v_move rfl rfl) rfl <| WL.nil <| ?_
             exact WE.next ⟨k + 1, ad131, c131, xs ++ numB x 4, E131⟩ (by dsimp only; omega) ⟨by dsimp only; omega, by dsimp only; rw [take_succ_get hx, flat2_snoc, hxs], hV131⟩ (.cons rfl (.cons rfl (.cons rfl (.cons rfl (.cons rfl (.cons rfl .nil)))))) (List.Sublist.append_left (List.sublist_append_right _ _) _)
            ·
             refine WL.nt <| WC.seq <| WC.cond_f rfl <| WC.exit <| WE.then_exit <| WE.then_exit <| WE.block_hit <| WE.then_n <| WC.region <| ?_
             have hkk : k = a.comms.length := (by omega)
             rw [hkk, List.take_length] at hxs
             refine WL.v (v_move rfl rfl) rfl <| WL.v (v_move rfl rfl) rfl <| WL.call rfl rfl ck_43 (.none rfl) rfl rfl <| ?_
             intro w1 hS
             refine (RLay_c w1 192 8 ad c xs (by omega) (by omega) (Vec.cellsAt hV fun e he => hS.holds e (List.mem_append_left _ he)) (by omega)).mono ?_
             rintro e w' ⟨adL, cL, EL, rfl, hVL, hS'⟩
             refine ⟨_, _, rfl, hS.join hS', ?_⟩
             refine WL.to (L' := E7 ++ (EL ++ (E ++ [.row g1 a.rcells]))) (fun w hS => hS.permC (by intro c h1 h2 h3 e; simp only [h1, h2, h3]; omega)) ?_
             have hplt := putE_le 192 8 (xs)
             refine WL.appendL rfl rfl rfl Tryz.underlying37 Tryz.underlying37 sz_5 by_5 zero_5 rfl rfl hV7 (new := u8s (putE 192 8 (xs))) (hVL.srcE _ (by rw [u8s_len]) (fun e he => List.mem_append_right _ (List.mem_append_left _ he))) (by rw [u8s_len, Nat.mul_one]) (u8s_one _) (by omega) (.none rfl) rfl rfl ?_
             intro ad136 c136 E136 hV136 hr136
             rw [← u8s_app] at hV136
             have hk := hV136.toB
             rw [hk] at hV136 ⊢
             have epre : preE a 8 = preE a 7 ++ putE 192 8 (xs) := (by rw [preE_succ, knownE_T hb8 (v := xs) (by rw [hxs]; rfl), f8]; rfl)
             have elen := congrArg List.length epre
             rw [List.length_append] at elen
             rw [← epre] at hV136 ⊢
             refine WL.v (v_assign rfl rfl) rfl <| WL.nil <| ?_
             exact WE.mid ⟨0, ad136, c136, [], E136⟩ ⟨hV136, by omega⟩ (.cons rfl (.cons rfl .nil)) (List.Sublist.append_left (by repeat (first | exact List.Sublist.refl _ | refine List.sublist_append_of_sublist_right ?_)) _)
          ·
           rintro ⟨_, ad8, c8, _, E8⟩ ⟨hV8, hN8⟩
           dsimp only at hV8 hN8
           dsimp only
           refine WC.seq <| WC.seq <| WC.region <| WL.v (v_fieldAddr0 rfl rfl fld_48_9) rfl <| WL.v (v_load1 rfl rfl one_46 (cellAt rfl)) rfl <| WL.v (v_len_slice rfl rfl Tryz.underlying46) rfl <| WL.v (v_move rfl rfl) rfl <| WL.nt <| WC.block <| ?_
           refine WC.loop (fun y : OutS => [(140, .int .i64 y.k), (139, .int .i64 a.others.length), (138, .slice a.oad a.others.length a.oc), (4, .slice y.ad y.xs.length y.c), (1, .pointer (some ⟨g1, 0, none⟩))]) (fun y => y.E ++ [.row g1 a.rcells]) (fun y => y.k ≤ a.others.length ∧ y.xs = preE a 8 ++ othsE (a.others.take y.k) ∧ BV y.ad y.c y.xs y.E ∧ y.xs.length ≤ 702000 + 4100 * y.k ∧ ∀ j o, j < y.k → a.others[j]? = some o → o.val.length ≤ 4096) (fun y => a.others.length - y.k) ⟨0, ad8, c8, preE a 8, E8⟩ ⟨Nat.zero_le _, (List.append_nil _).symm, hV8, by show _ ≤ 702000 + 4100 * 0; omega, fun j o h => absurd h (Nat.not_lt_zero _)⟩ (.cons rfl (.cons rfl (.cons rfl (.cons rfl (.cons rfl .nil))))) (.refl _) ?_
           rintro ⟨k, ad, c, xs, E⟩ ⟨hk, hxs, hV, hxl, hov⟩
           dsimp only at hk hxs hV hxl hov
           dsimp only
           refine WC.seq <| WC.region <| ?_
           refine WL.test (v_lss rfl rfl rfl) (.none rfl) rfl rfl (fun h141 => ?_) (fun h141 => ?_)
           ·
            refine WL.nt <| WC.seq <| WC.cond_t rfl <| WC.skip <| WE.then_n <| WC.seq <| WC.block <| WC.seq <| WC.region <| ?_
            obtain ⟨o, ho⟩ : ∃ o, a.others[k]? = some o := ⟨a.others[k]'(by omega), List.getElem?_eq_getElem _⟩
            obtain ⟨b1, o1, ea1, r1⟩ := hA.oths k o ho
            have hoC := hA.vals o (List.mem_of_getElem? ho)
            have hoI := hI.oths o (List.mem_of_getElem? ho)
            have hob := ordB_b 8 a.others (by omega) hor o (List.mem_of_getElem? ho)
            refine WL.v ((v_indexAddr (b := b1) (off := o1) (lo := k) rfl (by show some (Value.slice a.oad _ _) = _; rw [ea1]) rfl Tryz.underlying46 sz_97 rfl (by omega))) rfl ?_
            refine WL.v ((v_loadN (cs := o.cells) rfl rfl many_97 rfl (rgIn (fun h => h) r1))) rfl <| WL.alloc rfl zero_97 (.none rfl) rfl rfl <| ?_
            intro g14 hg14
            refine WL.storeW rfl rfl rfl rfl many_97 rfl rfl (.none rfl) rfl <| WL.as (L' := .row g14 o.cells :: (E ++ [.row g1 a.rcells])) rfl <| WL.nt <| WC.seq <| WC.seq <| WC.region <| WL.v (v_fieldAddr0 rfl rfl fld_97_1) rfl <| WL.v (v_load1 rfl rfl one_37 (cellAt (v := .slice o.ad o.val.length o.cap) rfl)) rfl <| WL.v (v_len_slice rfl rfl Tryz.underlying37) rfl <| ?_
            refine WL.test (v_gtr rfl rfl rfl) (.none rfl) rfl rfl (fun h147 => ?_) (fun h147 => ?_)
            ·
             refine WL.nt <| WC.cond_t rfl <| WC.seq <| WC.region <| WL.v (v_assign rfl rfl) rfl <| WL.v (v_assign rfl rfl) rfl <| WL.nt <| WC.ret <| WE.then_ret <| WE.block_ret <| ?_
             refine WE.then_ret <| WE.then_ret <| WE.block_ret <| WE.then_ret <| WE.ret2 (P := Tryz.prog) (.inl rfl) Tryz.results22 rfl rfl <| ?_
             have hany : (a.others.any fun o => decide (4096 < o.val.length)) = true := List.any_eq_true.2 ⟨o, List.mem_of_getElem? ho, decide_eq_true (by omega)⟩
             exact fun w' h => ResB.bad (by unfold encE; rw [hc, hany]; rfl) (by decide) h
            ·
             refine WL.nt <| WC.cond_f rfl <| WC.skip <| WE.then_n <| WC.region <| WL.v (v_move rfl rfl) rfl <| WL.v (v_fieldAddr0 rfl rfl fld_97_0) rfl <| WL.v (v_load1 rfl rfl one_3 (cellAt (v := .int .i64 o.ty) rfl)) rfl <| WL.v (v_fieldAddr0 rfl rfl fld_97_1) rfl <| WL.v (v_load1 rfl rfl one_37 (cellAt (v := .slice o.ad o.val.length o.cap) rfl)) rfl <| ?_
             refine WL.call rfl rfl ck_43 (.none rfl) rfl rfl ?_
             intro w1 hS
             refine (RLay_c w1 224 o.ty o.ad o.cap o.val (by omega) hob (hoC.frm (hS.rng fun _ h => h)) (by omega)).mono ?_
             rintro e w' ⟨adL, cL, EL, rfl, hVL, hS'⟩
             refine ⟨_, _, rfl, hS.join hS', ?_⟩
             refine WL.to (L' := E ++ (EL ++ (.row g14 o.cells :: [.row g1 a.rcells]))) (fun w hS => hS.permC (by intro c h1 h2 h3 e; simp only [h1, h2, h3]; omega)) ?_
             have hplt := putE_le 224 o.ty o.val
             refine WL.appendL rfl rfl rfl Tryz.underlying37 Tryz.underlying37 sz_5 by_5 zero_5 rfl rfl hV (new := u8s (putE 224 o.ty o.val)) (hVL.srcE _ (by rw [u8s_len]) (fun e he => List.mem_append_right _ (List.mem_append_left _ he))) (by rw [u8s_len, Nat.mul_one]) (u8s_one _) (by omega) (.none rfl) rfl rfl ?_
             intro ad154 c154 E154 hV154 hr154
             rw [← u8s_app] at hV154
             have hk2 := hV154.toB
             rw [hk2] at hV154 ⊢
             refine WL.v (v_assign rfl rfl) rfl <| WL.nil <| WE.block_n <| WE.then_n <| WC.region <| ?_
             refine WL.v (v_add rfl rfl rfl (show _ = ((k + 1 : Nat) : Int) from (w_i64 (by omega) (by omega)).trans (by omega))) rfl ?_
             refine WL.v (v_move rfl rfl) rfl <| WL.nil <| ?_
             exact WE.next ⟨k + 1, ad154, c154, xs ++ putE 224 o.ty o.val, E154⟩ (by dsimp only; omega) ⟨by dsimp only; omega, by dsimp only; rw [take_succ_get ho, othsE_snoc, hxs, List.append_assoc], hV154, by dsimp only; rw [List.length_append]; omega, fun j o2 hj ho2 => by
             dsimp only at hj
             rcases Nat.lt_or_ge j k with h | h
             · exact hov j o2 h ho2
             · obtain rfl : j = k := by omega
               rw [ho] at ho2; cases ho2; omega⟩ (.cons rfl (.cons rfl (.cons rfl (.cons rfl (.cons rfl .nil))))) (List.Sublist.append_left (List.sublist_append_of_sublist_right (.cons _ (.refl _))) _)
           ·
            refine WL.nt <| WC.seq <| WC.cond_f rfl <| WC.exit <| WE.then_exit <| WE.then_exit <| WE.block_hit <| WE.then_n <| WC.seq <| WC.seq <| ?_
            refine WC.region ?_
            have hkk : k = a.others.length := (by omega)
            rw [hkk, List.take_length, ← bodyA_eq] at hxs
            have hany : (a.others.any fun o => decide (4096 < o.val.length)) = false := (by
              rw [List.any_eq_false]
              intro o ho
              obtain ⟨j, hj, e⟩ := List.getElem_of_mem ho
              have := hov j o (by omega) (by rw [← e, List.getElem?_eq_getElem])
              simp only [decide_eq_true_eq]; omega)
            refine WL.v (v_move rfl rfl) rfl <| WL.v (v_len_slice rfl rfl Tryz.underlying37) rfl <| ?_
            refine WL.test (v_gtr rfl rfl rfl) (.none rfl) rfl rfl (fun h158 => ?_) (fun h158 => ?_)
            ·
             refine WL.nt <| WC.cond_t rfl <| WC.seq <| WC.region <| WL.v (v_assign rfl rfl) rfl <| WL.v (v_assign rfl rfl) rfl <| WL.nt <| WC.ret <| WE.then_ret <| WE.ret2 (P := Tryz.prog) (.inl rfl) Tryz.results22 rfl rfl <| ?_
             exact fun w' h => ResB.bad (by unfold encE; rw [hc, hany, ← hxs, decide_eq_true (by omega)]; rfl) (by decide) h
            ·
             refine WL.nt <| WC.cond_f rfl <| WC.skip <| WE.then_n <| WC.seq <| WC.region <| WL.v (v_move rfl rfl) rfl <| WL.v (v_assign rfl rfl) rfl <| WL.v (v_assign rfl rfl) rfl <| WL.nt <| ?_
             refine WC.ret <| WE.ret2 (P := Tryz.prog) (.inl rfl) Tryz.results22 rfl rfl <| ?_
             exact fun w' h => ResB.good (by unfold encE; rw [hc, hany, ← hxs, decide_eq_false (by omega)]; rfl) hV h hxs
end Go.Proofs.YtpjbofodllhjbaaGreatDoor
/- The reference's messages: list, missing, Encode, Bare (printed by gen/wrd.py). -/
namespace Go.Proofs.YtpjbofodllhjbaaGreatDoor
open Go.RowKit

theorem RMiss_u (w : World) (a : AtL) (hI : I64 a.has) : Calls Tryz.prog 21 #[.agg a.rcells.toArray] w fun e w' => ∃ x : Int, e = .returned (.int .i64 x) ∧ Frm (fun _ => False) w w' ∧ 0 ≤ x ∧ (0 ≤ a.has ∧ a.has ≤ 511 → x = missI a.has) := by
  by_cases h : 0 ≤ a.has ∧ a.has ≤ 511
  · exact (RMissing_c w a h.1 h.2).mono fun e w' ⟨he, hF⟩ => ⟨_, he, hF, (missI_b _).1, fun _ => rfl⟩
  · unfold I64 at hI
    have tq : ∀ k : Int, 1 < k → -9223372036854775808 ≤ a.has.tdiv k ∧ a.has.tdiv k ≤ 9223372036854775807 := fun k hk => by
      have h1 : (a.has.tdiv k).natAbs = a.has.natAbs / k.natAbs := Int.natAbs_tdiv a.has k
      have h2 : a.has.natAbs / k.natAbs ≤ a.has.natAbs / 2 := Nat.div_le_div_left (by omega) (by decide)
      omega
    refine enter Tryz.func21 rfl Tryz.ntmps21 rfl (St.start (fun _ => False) w) ?_
    refine WC.seq <| WC.region <| WL.box rfl rfl rfl (.none rfl) rfl rfl <| ?_
    intro g1 hg1
    refine WL.v (v_assign rfl rfl) rfl <| WL.nt <| WC.seq <| WC.seq <| WC.region <| WL.v (v_fieldAddr0 rfl rfl fld_48_0) rfl <| WL.v (v_load1 rfl rfl one_3 (cellAt rfl)) rfl <| ?_
    refine WL.v (v_quoT rfl rfl rfl (by decide) (w_i64 (by have := tq 2 (by decide); omega) (by have := tq 2 (by decide); omega))) rfl ?_
    refine WL.v (v_remT rfl rfl rfl (by decide)) rfl ?_
    refine WL.test (v_eql rfl rfl rfl) (.none rfl) rfl rfl (fun h7 => ?_) (fun h7 => ?_)
    ·
     refine WL.nt <| WC.cond_t rfl <| WC.seq <| WC.region <| WL.v (v_assign rfl rfl) rfl <| WL.nt <| WC.ret <| WE.then_ret <| WE.ret1 (P := Tryz.prog) (.inl rfl) Tryz.results21 rfl <| ?_
     exact fun w' h' => ⟨_, rfl, h'.frm, by decide, fun hh => absurd hh h⟩
    ·
     refine WL.nt <| WC.cond_f rfl <| WC.skip <| WE.then_n <| WC.seq <| WC.seq <| WC.region <| WL.v (v_fieldAddr0 rfl rfl fld_48_0) rfl <| WL.v (v_load1 rfl rfl one_3 (cellAt rfl)) rfl <| ?_
     refine WL.v (v_quoT rfl rfl rfl (by decide) (w_i64 (by have := tq 4 (by decide); omega) (by have := tq 4 (by decide); omega))) rfl ?_
     refine WL.v (v_remT rfl rfl rfl (by decide)) rfl ?_
     refine WL.test (v_eql rfl rfl rfl) (.none rfl) rfl rfl (fun h12 => ?_) (fun h12 => ?_)
     ·
      refine WL.nt <| WC.cond_t rfl <| WC.seq <| WC.region <| WL.v (v_assign rfl rfl) rfl <| WL.nt <| WC.ret <| WE.then_ret <| WE.ret1 (P := Tryz.prog) (.inl rfl) Tryz.results21 rfl <| ?_
      exact fun w' h' => ⟨_, rfl, h'.frm, by decide, fun hh => absurd hh h⟩
     ·
      refine WL.nt <| WC.cond_f rfl <| WC.skip <| WE.then_n <| WC.seq <| WC.seq <| WC.region <| WL.v (v_fieldAddr0 rfl rfl fld_48_0) rfl <| WL.v (v_load1 rfl rfl one_3 (cellAt rfl)) rfl <| ?_
      refine WL.v (v_quoT rfl rfl rfl (by decide) (w_i64 (by have := tq 8 (by decide); omega) (by have := tq 8 (by decide); omega))) rfl ?_
      refine WL.v (v_remT rfl rfl rfl (by decide)) rfl ?_
      refine WL.test (v_eql rfl rfl rfl) (.none rfl) rfl rfl (fun h17 => ?_) (fun h17 => ?_)
      ·
       refine WL.nt <| WC.cond_t rfl <| WC.seq <| WC.region <| WL.v (v_assign rfl rfl) rfl <| WL.nt <| WC.ret <| WE.then_ret <| WE.ret1 (P := Tryz.prog) (.inl rfl) Tryz.results21 rfl <| ?_
       exact fun w' h' => ⟨_, rfl, h'.frm, by decide, fun hh => absurd hh h⟩
      ·
       refine WL.nt <| WC.cond_f rfl <| WC.skip <| WE.then_n <| WC.seq <| WC.region <| WL.v (v_assign rfl rfl) rfl <| WL.nt <| WC.ret <| WE.ret1 (P := Tryz.prog) (.inl rfl) Tryz.results21 rfl <| ?_
       exact fun w' h' => ⟨_, rfl, h'.frm, by decide, fun hh => absurd hh h⟩
theorem netE_of {p : PfL} (h : pfOk p = true) : netE p = [p.len % 256] ++ (numB p.addr 4).take ((p.len.toNat + 7) / 8) := by unfold netE addrB; rw [numB_one]
theorem netsE_snoc (ps : List PfL) (p : PfL) : netsE (ps ++ [p]) = netsE ps ++ netE p := by unfold netsE; rw [List.flatMap_append, List.flatMap_cons, List.flatMap_nil, List.append_nil]
set_option maxHeartbeats 2000000 in
theorem RList_c (w0 : World) (pa : Option Addr) (pc : Nat) (ps : List PfL) (hR : RowsAt w0 pa 2 PfL.cells ps) (hn : ps.length ≤ 1000) (hok : ∀ p ∈ ps, pfOk p = true) (hu : ∀ p ∈ ps, U32 p.addr) :
    Calls Tryz.prog 23 #[.slice pa ps.length pc] w0 fun e w' => ∃ ad c E, e = .returned (.slice ad (netsE ps).length c) ∧ BV ad c (netsE ps) E ∧ St (fun _ => False) w0 w' E ∧ (netsE ps).length ≤ 5 * ps.length := by
  refine enter Tryz.func23 rfl Tryz.ntmps23 rfl (St.start (fun _ => False) w0) ?_
  refine WC.seq <| WC.region <| WL.v (v_assign rfl rfl) rfl <| WL.nt <| WC.seq <| WC.region <| ?_
  refine WL.buildSlice rfl rfl Tryz.underlying37 sz_5 zero_5 rfl (by decide) rfl (.none rfl) rfl rfl ?_
  intro g8 hg8
  refine WL.as (L' := .row g8 [] :: []) rfl <| WL.v (v_assign rfl rfl) rfl <| WL.nt <| WC.seq <| WC.seq <| WC.region <| WL.v (v_move rfl rfl) rfl <| WL.v (v_len_slice rfl rfl Tryz.underlying44) rfl <| WL.v (v_move rfl rfl) rfl <| WL.nt <| ?_
  refine WC.block <| WC.loop (fun y : OutS => [(11, .int .i64 y.k), (10, .int .i64 ps.length), (9, .slice pa ps.length pc), (3, .slice y.ad y.xs.length y.c)]) (fun y => y.E ++ []) (fun y => y.k ≤ ps.length ∧ y.xs = netsE (ps.take y.k) ∧ BV y.ad y.c y.xs y.E ∧ y.xs.length ≤ 5 * y.k) (fun y => ps.length - y.k) ⟨0, some ⟨g8, 0, none⟩, 0, [], [.row g8 []]⟩ ⟨Nat.zero_le _, rfl, Vec.row (k := 0) rfl rfl (Nat.le_refl _), Nat.zero_le _⟩ (.cons rfl (.cons rfl (.cons rfl (.cons rfl .nil)))) (.refl _) <| ?_
  rintro ⟨k, ad, c, xs, E⟩ ⟨hk, hxs, hV, hxl⟩
  dsimp only at hk hxs hV hxl
  dsimp only
  refine WC.seq <| WC.region <| ?_
  refine WL.test (v_lss rfl rfl rfl) (.none rfl) rfl rfl (fun h12 => ?_) (fun h12 => ?_)
  ·
   refine WL.nt <| WC.seq <| WC.cond_t rfl <| WC.skip <| WE.then_n <| WC.seq <| WC.block <| WC.seq <| WC.region <| ?_
   obtain ⟨p, hp⟩ : ∃ p, ps[k]? = some p := ⟨ps[k]'(by omega), List.getElem?_eq_getElem _⟩
   obtain ⟨b1, o1, ea1, r1⟩ := hR k p hp
   have hpo := hok p (List.mem_of_getElem? hp)
   have hpu := hu p (List.mem_of_getElem? hp)
   unfold U32 at hpu
   have hpl := pfOk_bits.1 hpo
   refine WL.v ((v_indexAddr (b := b1) (off := o1) (lo := k) rfl (by show some (Value.slice pa _ _) = _; rw [ea1]) rfl Tryz.underlying44 sz_71 rfl (by omega))) rfl ?_
   refine WL.v ((v_loadN (cs := p.cells) rfl rfl many_71 rfl (rgIn (fun h => h) r1))) rfl <| WL.alloc rfl zero_71 (.none rfl) rfl rfl <| ?_
   intro g5 hg5
   refine WL.storeW rfl rfl rfl rfl many_71 rfl rfl (.none rfl) rfl <| WL.as (L' := .row g5 p.cells :: (E ++ [])) rfl <| WL.nt <| WC.seq <| WC.region <| WL.v (v_move rfl rfl) rfl <| WL.v (v_fieldAddr0 rfl rfl fld_71_1) rfl <| WL.v (v_load1 rfl rfl one_3 (cellAt (v := .int .i64 p.len) rfl)) rfl <| WL.v (v_conv rfl rfl Tryz.underlying5 Tryz.underlying3 (show _ = p.len % 256 from w_u8m _)) rfl <| ?_
   refine WL.buildSlice rfl rfl Tryz.underlying37 sz_5 zero_5 rfl (by decide) rfl (.none rfl) rfl rfl ?_
   intro g19 hg19
   refine WL.as (L' := .row g19 (u8s [p.len % 256]) :: .row g5 p.cells :: (E ++ [])) rfl ?_
   refine WL.to (L' := E ++ ([] ++ (.row g19 (u8s [p.len % 256]) :: [.row g5 p.cells]))) (fun w hS => hS.permC (by intro c h1 h2 h3 e; simp only [h1, h2, h3]; omega)) ?_
   refine WL.appendL rfl rfl rfl Tryz.underlying37 Tryz.underlying37 sz_5 by_5 zero_5 rfl rfl hV (new := u8s [p.len % 256]) (fun _ => ⟨g19, 0, rfl, fun w hS => allAt (g := g19) w hS⟩) rfl rfl (by omega) (.none rfl) rfl rfl ?_
   intro ad20 c20 E20 hV20 hr20
   rw [← u8s_app] at hV20
   have hk2 := hV20.toB
   rw [hk2] at hV20 ⊢
   refine WL.v (v_assign rfl rfl) rfl <| WL.nt <| WC.seq <| WC.region <| WL.v (v_fieldAddr0 rfl rfl fld_71_0) rfl <| WL.v (v_load1 rfl rfl one_22 (cellAt (v := .int .u32 p.addr) rfl)) rfl <| ?_
   refine WL.v (v_conv rfl rfl Tryz.underlying3 Tryz.underlying22 (w_i64 (by omega) (by omega))) rfl ?_
   refine WL.call rfl rfl ck_19 (.none rfl) rfl rfl ?_
   intro w1 hS
   refine (RNum07_c w1 p.addr 4 (by omega) (by omega) (by omega)).mono ?_
   rintro e w' ⟨adB, cB, EB, rfl, hVB, hS'⟩
   refine ⟨_, _, rfl, hS.join hS', ?_⟩
   refine WL.to (L' := E20 ++ (.row g5 p.cells :: (EB ++ []))) (fun w hS => (hS.sub (L' := EB ++ (E20 ++ ([] ++ [.row g5 p.cells]))) (List.Sublist.append_left (List.Sublist.append_left (.cons _ (.refl _)) _) _)).permC (by intro c h1 h2 h3 e; simp only [h1, h2, h3]; omega)) ?_
   refine WL.v (v_assign rfl rfl) rfl <| WL.nt <| WC.seq <| WC.region <| WL.v (v_assign rfl rfl) rfl <| WL.nt <| WC.block <| WC.loop (fun y : OutS => [(7, .int .i64 y.k), (6, .slice adB 4 cB), (11, .int .i64 k), (10, .int .i64 ps.length), (9, .slice pa ps.length pc), (5, .pointer (some ⟨g5, 0, none⟩)), (3, .slice y.ad y.xs.length y.c)]) (fun y => y.E ++ (.row g5 p.cells :: (EB ++ []))) (fun y => y.k ≤ (p.len.toNat + 7) / 8 ∧ y.xs = xs ++ [p.len % 256] ++ (numB p.addr 4).take y.k ∧ BV y.ad y.c y.xs y.E) (fun y => (p.len.toNat + 7) / 8 - y.k) ⟨0, ad20, c20, xs ++ [p.len % 256], E20⟩ ⟨Nat.zero_le _, (List.append_nil _).symm, hV20⟩ (.cons rfl (.cons rfl (.cons rfl (.cons rfl (.cons rfl (.cons rfl (.cons rfl .nil))))))) (.refl _) <| ?_
   rintro ⟨i, ad2, c2, ys, E2⟩ ⟨hi, hys, hV2⟩
   dsimp only at hi hys hV2
   dsimp only
   have hn4 := numB_len p.addr 4
   have hyl : ys.length = xs.length + 1 + i := (by rw [hys, List.length_append, List.length_append, List.length_take, hn4]; show _ + 1 + _ = _; omega)
   refine WC.seq <| WC.seq <| WC.region <| WL.v (v_move rfl rfl) rfl <| ?_
   refine WL.v (v_mul rfl rfl rfl (show _ = ((8 * i : Nat) : Int) from (w_i64 (by omega) (by omega)).trans (by omega))) rfl ?_
   refine WL.v (v_fieldAddr0 rfl rfl fld_71_1) rfl <| WL.v (v_load1 rfl rfl one_3 (cellAt (v := .int .i64 p.len) rfl)) rfl <| ?_
   refine WL.test (v_lss rfl rfl rfl) (.none rfl) rfl rfl (fun h29 => ?_) (fun h29 => ?_)
   ·
    refine WL.nt <| WC.cond_t rfl <| WC.skip <| WE.then_n <| WC.block <| WC.seq <| WC.region <| WL.v (v_move rfl rfl) rfl <| WL.v (v_move rfl rfl) rfl <| WL.v (v_move rfl rfl) rfl <| ?_
    obtain ⟨x, hx⟩ : ∃ x, (numB p.addr 4)[i]? = some x := ⟨_, List.getElem?_eq_getElem (by omega)⟩
    obtain ⟨b2, o2, ea2, r2⟩ := hVB.src2 (by rw [u8s_len, hn4]; omega)
    refine WL.v ((v_indexAddr (b := b2) (off := o2) (lo := i) rfl (by show some (Value.slice adB _ _) = _; rw [ea2]) rfl Tryz.underlying37 sz_5 rfl (by omega))) rfl ?_
    refine WL.v (v_load1 rfl rfl one_5 ((fun w hS => by have := r2 w (fun e he => hS.holds e (by simp [he])) i _ (u8s_get hx); rwa [Nat.mul_one]))) rfl ?_
    refine WL.buildSlice rfl rfl Tryz.underlying37 sz_5 zero_5 rfl (by decide) rfl (.none rfl) rfl rfl ?_
    intro g35 hg35
    refine WL.as (L' := .row g35 (u8s [x]) :: (E2 ++ (.row g5 p.cells :: (EB ++ [])))) rfl ?_
    refine WL.to (L' := E2 ++ (.row g35 (u8s [x]) :: .row g5 p.cells :: (EB ++ []))) (fun w hS => hS.permC (by intro c h1 h2 h3 e; simp only [h1, h2, h3]; omega)) ?_
    refine WL.appendL rfl rfl rfl Tryz.underlying37 Tryz.underlying37 sz_5 by_5 zero_5 rfl rfl hV2 (new := u8s [x]) (fun _ => ⟨g35, 0, rfl, fun w hS => allAt (g := g35) w hS⟩) rfl rfl (by omega) (.none rfl) rfl rfl ?_
    intro ad36 c36 E36 hV36 hr36
    rw [← u8s_app] at hV36
    have hk2 := hV36.toB
    rw [hk2] at hV36 ⊢
    refine WL.v (v_assign rfl rfl) rfl <| WL.nt <| WC.region <| WL.v (v_move rfl rfl) rfl <| ?_
    refine WL.v (v_add rfl rfl rfl (show _ = ((i + 1 : Nat) : Int) from (w_i64 (by omega) (by omega)).trans (by omega))) rfl ?_
    refine WL.v (v_assign rfl rfl) rfl <| WL.nil <| WE.block_n <| ?_
    exact WE.next ⟨i + 1, ad36, c36, ys ++ [x], E36⟩ (by dsimp only; omega) ⟨by dsimp only; omega, by dsimp only; rw [hys, take_succ_get hx, ← List.append_assoc], hV36⟩ (.cons rfl (.cons rfl (.cons rfl (.cons rfl (.cons rfl (.cons rfl (.cons rfl .nil))))))) (List.Sublist.append_left (.cons _ (.refl _)) _)
   ·
    refine WL.nt <| WC.cond_f rfl <| WC.exit <| WE.then_exit <| WE.then_exit <| WE.block_hit <| WE.block_n <| WE.then_n <| WC.region <| ?_
    refine WL.v (v_add rfl rfl rfl (show _ = ((k + 1 : Nat) : Int) from (w_i64 (by omega) (by omega)).trans (by omega))) rfl ?_
    refine WL.v (v_move rfl rfl) rfl <| WL.nil <| ?_
    have hii : i = (p.len.toNat + 7) / 8 := (by omega)
    exact WE.next ⟨k + 1, ad2, c2, ys, E2⟩ (by dsimp only; omega) ⟨by dsimp only; omega, by dsimp only; rw [take_succ_get hp, netsE_snoc, netE_of hpo, hys, hii, hxs]; simp only [List.append_assoc], hV2, by dsimp only; omega⟩ (.cons rfl (.cons rfl (.cons rfl (.cons rfl .nil)))) (List.Sublist.append_left (List.nil_sublist _) _)
  ·
   refine WL.nt <| WC.seq <| WC.cond_f rfl <| WC.exit <| WE.then_exit <| WE.then_exit <| WE.block_hit <| WE.then_n <| WC.seq <| WC.region <| ?_
   refine WL.v (v_move rfl rfl) rfl <| WL.v (v_assign rfl rfl) rfl <| WL.nt <| WC.ret <| WE.ret1 (P := Tryz.prog) (.inl rfl) Tryz.results23 rfl <| ?_
   have hkk : k = ps.length := (by omega)
   rw [hkk, List.take_length] at hxs
   rw [hkk] at hxl
   rw [hxs] at hV hxl ⊢
   exact fun w' h => ⟨ad, c, E, rfl, hV, h.sub (List.sublist_append_left _ _), hxl⟩
def bareL (m : MsL) : MsL :=
  if m.kind = 1 then { MsL.zero 1 with asn := m.asn, hold := m.hold, id := m.id, kad := m.kad, kc := m.kc, caps := m.caps }
  else if m.kind = 2 then { MsL.zero 2 with gad := m.gad, gc := m.gc, gone := m.gone, atr := m.atr, nad := m.nad, nc := m.nc, nets := m.nets }
  else if m.kind = 3 then { MsL.zero 3 with fc := m.fc, fs := m.fs, fd := m.fd }
  else MsL.zero m.kind
theorem bareL_d (m : MsL) : (bareL m).d = bareD m := by
  unfold bareL bareD
  split
  · rename_i h; rw [h]; rfl
  split
  · rename_i h; rw [h]; rfl
  split
  · rename_i h; rw [h]; rfl
  · rfl
theorem AtL.zero_at (w : World) : AtL.zero.At w := ⟨(fun i s h => (by cases h)), (fun s h => by cases h), (fun h => absurd h (Nat.lt_irrefl 0)), (fun i s h => (by cases h)), ((fun s h => by cases h))⟩
theorem bareL_at {w : World} {m : MsL} (h : m.At w) : (bareL m).At w := by
  unfold bareL
  split
  · exact ⟨h.caps, h.vals, (fun i s h => (by cases h)), (fun i s h => (by cases h)), AtL.zero_at w⟩
  split
  · exact ⟨fun i s h => (by cases h), (fun s h => by cases h), h.gone, h.nets, h.at_⟩
  split
  · exact ⟨fun i s h => (by cases h), (fun s h => by cases h), (fun i s h => (by cases h)), (fun i s h => (by cases h)), AtL.zero_at w⟩
  · exact ⟨fun i s h => (by cases h), (fun s h => by cases h), (fun i s h => (by cases h)), (fun i s h => (by cases h)), AtL.zero_at w⟩
theorem RBare_c (w : World) (m : MsL) : Calls Tryz.prog 13 #[.agg m.rcells.toArray] w fun e w' => e = .returned (.agg (bareL m).rcells.toArray) ∧ Frm (fun _ => False) w w' := by
  refine enter Tryz.func13 rfl Tryz.ntmps13 rfl (St.start (fun _ => False) w) ?_
  refine WC.seq <| WC.region <| WL.box rfl rfl rfl (.none rfl) rfl rfl <| ?_
  intro g1 hg1
  refine WL.alloc rfl zero_51 (.none rfl) rfl rfl ?_
  intro g2 hg2
  refine WL.nt <| WC.seq <| WC.seq <| WC.region <| WL.v (v_fieldAddr0 rfl rfl fld_51_0) rfl <| WL.v (v_load1 rfl rfl one_3 (cellAt (v := .int .i64 m.kind) rfl)) rfl <| WL.nt <| WC.block <| WC.seq <| WC.region <| ?_
  refine WL.test (v_eql rfl rfl rfl) (.none rfl) rfl rfl (fun h6 => ?_) (fun h6 => ?_)
  ·
   refine WL.v (v_assign rfl rfl) rfl <| WL.nt <| WC.cond_t rfl <| WC.seq <| WC.region <| WL.v (v_fieldAddr0 rfl rfl fld_51_1) rfl <| WL.v (v_load1 rfl rfl one_3 (cellAt rfl)) rfl <| WL.v (v_fieldAddr0 rfl rfl fld_51_2) rfl <| WL.v (v_load1 rfl rfl one_3 (cellAt rfl)) rfl <| WL.v (v_fieldAddr0 rfl rfl fld_51_3) rfl <| ?_
   refine WL.v (v_load1 rfl rfl one_22 (cellAt rfl)) rfl <| WL.v (v_fieldAddr0 rfl rfl fld_51_4) rfl <| WL.v (v_load1 rfl rfl one_43 (cellAt rfl)) rfl <| WL.v (v_build rfl rfl zero_51 plc_51 rfl) rfl <| WL.storeW rfl rfl rfl rfl many_51 rfl rfl (.none rfl) rfl <| WL.nt <| WC.ret <| WE.block_ret <| WE.then_ret <| WE.ret1 (P := Tryz.prog) (.inl rfl) Tryz.results13 (resRow rfl many_51 rfl) <| ?_
   exact fun w' h => ⟨by unfold bareL; rw [if_pos h6]; rfl, h.frm⟩
  ·
   refine WL.v (v_assign rfl rfl) rfl <| WL.nt <| WC.cond_f rfl <| WC.seq <| WC.region <| ?_
   refine WL.test (v_eql rfl rfl rfl) (.none rfl) rfl rfl (fun h17 => ?_) (fun h17 => ?_)
   ·
    refine WL.v (v_assign rfl rfl) rfl <| WL.nt <| WC.cond_t rfl <| WC.seq <| WC.region <| WL.v (v_fieldAddr0 rfl rfl fld_51_5) rfl <| WL.v (v_load1 rfl rfl one_44 (cellAt rfl)) rfl <| WL.v (v_fieldAddr0 rfl rfl fld_51_6) rfl <| WL.v (v_loadN rfl rfl many_48 rfl (segAt (m := 10) rfl)) rfl <| WL.v (v_fieldAddr0 rfl rfl fld_51_7) rfl <| ?_
    refine WL.v (v_load1 rfl rfl one_44 (cellAt rfl)) rfl <| WL.v (v_build rfl rfl zero_51 plc_51 rfl) rfl <| WL.storeW rfl rfl rfl rfl many_51 rfl rfl (.none rfl) rfl <| WL.nt <| WC.ret <| WE.block_ret <| WE.then_ret <| WE.ret1 (P := Tryz.prog) (.inl rfl) Tryz.results13 (resRow rfl many_51 rfl) <| ?_
    exact fun w' h => ⟨by unfold bareL; rw [if_neg h6, if_pos h17]; rfl, h.frm⟩
   ·
    refine WL.v (v_assign rfl rfl) rfl <| WL.nt <| WC.cond_f rfl <| WC.seq <| WC.region <| ?_
    refine WL.test (v_eql rfl rfl rfl) (.none rfl) rfl rfl (fun h26 => ?_) (fun h26 => ?_)
    ·
     refine WL.v (v_assign rfl rfl) rfl <| WL.nt <| WC.cond_t rfl <| WC.seq <| WC.region <| WL.v (v_fieldAddr0 rfl rfl fld_51_8) rfl <| WL.v (v_loadN rfl rfl many_49 rfl (segAt (m := 3) rfl)) rfl <| WL.v (v_build rfl rfl zero_51 plc_51 rfl) rfl <| WL.storeW rfl rfl rfl rfl many_51 rfl rfl (.none rfl) rfl <| WL.nt <| ?_
     refine WC.ret <| WE.block_ret <| WE.then_ret <| WE.ret1 (P := Tryz.prog) (.inl rfl) Tryz.results13 (resRow rfl many_51 rfl) <| ?_
     exact fun w' h => ⟨by unfold bareL; rw [if_neg h6, if_neg h17, if_pos h26]; rfl, h.frm⟩
    ·
     refine WL.v (v_assign rfl rfl) rfl <| WL.nt <| WC.cond_f rfl <| WC.skip <| WE.block_n <| WE.then_n <| WC.seq <| WC.region <| WL.v (v_fieldAddr0 rfl rfl fld_51_0) rfl <| WL.v (v_load1 rfl rfl one_3 (cellAt (v := .int .i64 m.kind) rfl)) rfl <| ?_
     refine WL.v (v_build rfl rfl zero_51 plc_51 rfl) rfl <| WL.storeW rfl rfl rfl rfl many_51 rfl rfl (.none rfl) rfl <| WL.nt <| WC.ret <| WE.ret1 (P := Tryz.prog) (.inl rfl) Tryz.results13 (resRow rfl many_51 rfl) <| ?_
     exact fun w' h => ⟨by unfold bareL; rw [if_neg h6, if_neg h17, if_neg h26]; rfl, h.frm⟩
end Go.Proofs.YtpjbofodllhjbaaGreatDoor
