/- policy: holds, Holds. -/
import Derived.Test.YtodaanhhnjkncaaDoorPol4
namespace Go.Proofs.YtodaanhhnjkncaaDoor
open Go.RowKit

theorem Frm.range {w w' : World} (hF : Frm (fun _ => False) w w') (b o : Nat) (cs : List Value) (h : w.rangeAt b o cs) : w'.rangeAt b o cs := ((St.start (fun _ => False) w).ext hF).range (fun _ h => h) b o cs h
theorem Frm.gw {w w' : World} (hF : Frm (fun _ => False) w w') (h : GW w) : GW w' := h.keep (fun h => h) ((St.start (fun _ => False) w).ext hF)
theorem Frm.at {w w' : World} {t : Nd} (hF : Frm (fun _ => False) w w') (h : t.At w) : t.At w' := h.keep (Frm.range hF)
theorem formE_le {t : Nd} (h : formE t = 0) : leastK t.kind ≤ t.kids.length ∧ (t.kids.length : Int) ≤ mostK t.kind := by
  unfold formE at h
  split at h
  · cases h
  · omega
/-- What is shown of holds, up to a size. -/
def HoldsTo (N : Nat) (H : Hd) : Prop := ∀ (t : Nd), SizeOf.sizeOf t ≤ N → ∀ (w : World), okT true t → t.In → t.At w → GW w →
  Calls Tryd.prog 66 #[ndV t, .agg (hdCells H)] w fun e w' => e = .returned (.bool (holdsT H t)) ∧ Frm (fun _ => False) w w'
theorem Of1_c (N : Nat) (H : Hd) (ih : HoldsTo N H) (w : World) (gh : Nat) (u : Nd) (hN : SizeOf.sizeOf u ≤ N) (hk : okT true u) (hI : u.In) (hA : u.At w) (hG : GW w) (hh : w.rangeAt gh 0 (hdL H)) :
    Calls Tryd.prog 90 #[ndV u, .pointer (some ⟨gh, 0, none⟩)] w fun e w' => e = .returned (.bool (holdsT H u)) ∧ Frm (fun _ => False) w w' := by
  refine enter Tryd.func90 rfl Tryd.ntmps90 rfl (St.start (fun _ => False) w) ?_
  refine WC.seq ?_
  refine WC.region ?_
  refine WL.box rfl rfl rfl (.none rfl) rfl rfl ?_
  intro g2 hg2
  refine WL.val (v_assign rfl rfl) (.none rfl) rfl rfl ?_
  refine WL.nil ?_
  refine WE.then_n ?_
  refine WC.seq ?_
  refine WC.region ?_
  refine WL.val (v_loadN rfl rfl many_45 rfl allAt) (.none rfl) rfl rfl ?_
  refine WL.val (v_loadN (cs := hdL H) rfl rfl many_31 rfl (rangeIn (fun h => h) hh)) (.none rfl) rfl rfl ?_
  refine WL.call rfl rfl ck_66 (.none rfl) rfl rfl ?_
  intro w hS
  refine Calls.then (ih u hN w hk hI (hA.st (fun _ h => h) hS) (hG.keep (fun h => h) hS)) hS ?_
  refine WL.val (v_assign rfl rfl) (.none rfl) rfl rfl ?_
  refine WL.nil ?_
  refine WE.then_n ?_
  refine WC.ret ?_
  refine WE.ret1 (P := Tryd.prog) (.inl rfl) Tryd.results90 rfl ?_
  exact fun w' h => ⟨rfl, h.frm⟩
def ofF (gh : Nat) : Value := .func (.func 90) #[] #[.pointer (some ⟨gh, 0, none⟩)]
theorem Of2_c (N : Nat) (H : Hd) (ih : HoldsTo N H) (w : World) (gh gv : Nat) (u : Nd) (hN : SizeOf.sizeOf u ≤ N) (hk : okT true u) (hI : u.In) (hA : u.At w) (hG : GW w) (hh : w.rangeAt gh 0 (hdL H)) (hv : w.cell? ⟨gv, 0, none⟩ = some (ofF gh)) :
    Calls Tryd.prog 92 #[ndV u, .pointer (some ⟨gv, 0, none⟩)] w fun e w' => e = .returned (.bool (!holdsT H u)) ∧ Frm (fun _ => False) w w' := by
  refine enter Tryd.func92 rfl Tryd.ntmps92 rfl (St.start (fun _ => False) w) ?_
  refine WC.seq ?_
  refine WC.region ?_
  refine WL.box rfl rfl rfl (.none rfl) rfl rfl ?_
  intro g2 hg2
  refine WL.val (v_assign rfl rfl) (.none rfl) rfl rfl ?_
  refine WL.nil ?_
  refine WE.then_n ?_
  refine WC.seq ?_
  refine WC.region ?_
  refine WL.val (v_load1 rfl rfl one_71 (cellOld (fun h => h) hv)) (.none rfl) rfl rfl ?_
  refine WL.val (v_loadN rfl rfl many_45 rfl allAt) (.none rfl) rfl rfl ?_
  refine WL.callV rfl rfl rfl ck_90 (.none rfl) rfl rfl ?_
  intro w hS
  refine Calls.then (Of1_c N H ih w gh u hN hk hI (hA.st (fun _ h => h) hS) (hG.keep (fun h => h) hS) (rangeIn (fun h => h) hh w hS)) hS ?_
  generalize holdsT H u = bb
  cases bb
  · -- 6F
    refine WL.val (v_not rfl rfl rfl) (.none rfl) rfl rfl ?_
    refine WL.val (v_assign rfl rfl) (.none rfl) rfl rfl ?_
    refine WL.nil ?_
    refine WE.then_n ?_
    refine WC.ret ?_
    refine WE.ret1 (P := Tryd.prog) (.inl rfl) Tryd.results92 rfl ?_
    exact fun w' h => ⟨rfl, h.frm⟩
  · -- 6T
    refine WL.val (v_not rfl rfl rfl) (.none rfl) rfl rfl ?_
    refine WL.val (v_assign rfl rfl) (.none rfl) rfl rfl ?_
    refine WL.nil ?_
    refine WE.then_n ?_
    refine WC.ret ?_
    refine WE.ret1 (P := Tryd.prog) (.inl rfl) Tryd.results92 rfl ?_
    exact fun w' h => ⟨rfl, h.frm⟩
theorem predK_pred {k : Int} {j : Nat} (h : k = 4 ∨ k = 5 ∨ k = 6 ∨ k = 13) : predK k j = true := by unfold predK; rw [decide_eq_true (by omega)]
set_option maxHeartbeats 1000000 in
theorem holds_step (H : Hd) (hH : H.In) (N : Nat) (ih : HoldsTo N H) : HoldsTo (N + 1) H := by
  intro t hN w hk hI hA hG
  obtain ⟨hfit, harg, hform, _⟩ := hk.parts
  have hnum := hI.nums
  have hkid : ∀ (j : Nat) (u : Nd), t.kids[j]? = some u → t.kind = 4 ∨ t.kind = 5 ∨ t.kind = 6 → SizeOf.sizeOf u ≤ N ∧ okT true u ∧ u.In := fun j u hu h4 => by
    refine ⟨by have := Nd.kid_size hu; omega, ?_, hI.kids.get _ _ _ hu⟩
    have := hk.kid hu
    rwa [predK_pred (by omega)] at this
  refine enter Tryd.func66 rfl Tryd.ntmps66 rfl (St.start (fun _ => False) w) ?_
  refine WC.seq ?_
  refine WC.region ?_
  refine WL.box rfl rfl rfl (.none rfl) rfl rfl ?_
  intro g2 hg2
  refine WL.box rfl rfl rfl (.none rfl) rfl rfl ?_
  intro g3 hg3
  refine WL.val (v_assign rfl rfl) (.none rfl) rfl rfl ?_
  refine WL.nil ?_
  refine WE.then_n ?_
  refine WC.seq ?_
  refine WC.region ?_
  refine WL.val (v_makeFunc rfl rfl rfl) (.none rfl) rfl rfl ?_
  refine WL.alloc rfl zero_71 (.none rfl) rfl rfl ?_
  intro g5 hg5
  skip
  refine WL.store1 rfl rfl rfl rfl one_71 (Nat.le_of_ble_eq_true rfl) (.none rfl) rfl ?_
  refine WL.nil ?_
  refine WE.then_n ?_
  refine WC.seq ?_
  refine WC.seq ?_
  refine WC.region ?_
  refine WL.val (v_fieldAddr0 rfl rfl fld_45_0) (.none rfl) rfl rfl ?_
  refine WL.val (v_load1 rfl rfl one_3 (cellAt rfl)) (.none rfl) rfl rfl ?_
  refine WL.nil ?_
  refine WE.then_n ?_
  refine WC.block ?_
  refine WC.seq ?_
  refine WC.region ?_
  refine WL.test (v_eql rfl rfl rfl) (.none rfl) rfl rfl (fun h10 => ?_) (fun h10 => ?_)
  · -- 10T
    refine WL.val (v_assign rfl rfl) (.none rfl) rfl rfl ?_
    refine WL.nil ?_
    refine WE.then_n ?_
    refine WC.cond_t rfl ?_
    refine WC.seq ?_
    refine WC.region ?_
    refine WL.val (v_assign rfl rfl) (.none rfl) rfl rfl ?_
    refine WL.nil ?_
    refine WE.then_n ?_
    refine WC.ret ?_
    refine WE.block_ret ?_
    refine WE.then_ret ?_
    refine WE.ret1 (P := Tryd.prog) (.inl rfl) Tryd.results66 rfl ?_
    exact fun w' h => ⟨by rw [holdsT_eq, if_pos h10], h.frm⟩
  · -- 10F
    refine WL.val (v_assign rfl rfl) (.none rfl) rfl rfl ?_
    refine WL.nil ?_
    refine WE.then_n ?_
    refine WC.cond_f rfl ?_
    refine WC.seq ?_
    refine WC.region ?_
    refine WL.test (v_eql rfl rfl rfl) (.none rfl) rfl rfl (fun h12 => ?_) (fun h12 => ?_)
    · -- 12T
      refine WL.val (v_assign rfl rfl) (.none rfl) rfl rfl ?_
      refine WL.nil ?_
      refine WE.then_n ?_
      refine WC.cond_t rfl ?_
      refine WC.seq ?_
      refine WC.quiet mixed (by kernel_rfl) ?_
      refine WQ.val (v_loadN rfl rfl many_31 rfl allAt) (.none rfl) rfl rfl ?_
      obtain ⟨q, eq, hq9, eq2⟩ : ∃ q : Nat, t.f = q ∧ q < 9 ∧ t.f.toNat = q := (by
        unfold argE at harg
        rw [if_pos h12] at harg
        split at harg
        · cases harg
        · rename_i h; exact isFld.nat (Classical.not_not.1 (fun q => h (.inl q))))
      have hg := getF_le H q
      have hf := fullI_u64 q
      have hx := xorN_le (x := getF H q) (y := t.val) (by omega) hnum.2.2.1.2
      refine WQ.val (v_fieldAddr0 rfl rfl fld_45_1) (.none rfl) rfl rfl ?_
      refine WQ.val (v_load1 rfl rfl one_37 (cellAt rfl)) (.none rfl) rfl rfl ?_
      refine WQ.call _ rfl rfl ck_16 (.none rfl) rfl rfl (fun w hS => Calls.still (by rw [eq]; exact Get_c w H q hq9 hH (hG.keep (fun h => h) hS)) hS) ?_
      refine WQ.val (v_fieldAddr0 rfl rfl fld_45_2) (.none rfl) rfl rfl ?_
      refine WQ.val (v_load1 rfl rfl one_22 (cellAt rfl)) (.none rfl) rfl rfl ?_
      refine WQ.val (v_xor rfl rfl rfl (bits_xor_u64 hg.1 (by omega) hnum.2.2.1.1 hnum.2.2.1.2)) (.none rfl) rfl rfl ?_
      refine WQ.val (v_fieldAddr0 rfl rfl fld_45_3) (.none rfl) rfl rfl ?_
      refine WQ.val (v_load1 rfl rfl one_22 (cellAt rfl)) (.none rfl) rfl rfl ?_
      refine WQ.val (v_and rfl rfl rfl (bits_and_u64 hx.1 hx.2 hnum.2.2.2.1.1 hnum.2.2.2.1.2)) (.none rfl) rfl rfl ?_
      refine WQ.val (v_eql rfl rfl rfl) (.none rfl) rfl rfl ?_
      refine WQ.val (v_assign rfl rfl) (.none rfl) rfl rfl ?_
      refine WQ.nil ?_
      refine WE.then_n ?_
      refine WC.ret ?_
      refine WE.block_ret ?_
      refine WE.then_ret ?_
      refine WE.ret1 (P := Tryd.prog) (.inl rfl) Tryd.results66 rfl ?_
      exact fun w' h => ⟨by rw [holdsT_eq, if_neg h10, if_pos h12, eq2], h.frm⟩
    · -- 12F
      refine WL.val (v_assign rfl rfl) (.none rfl) rfl rfl ?_
      refine WL.nil ?_
      refine WE.then_n ?_
      refine WC.cond_f rfl ?_
      refine WC.seq ?_
      refine WC.region ?_
      refine WL.test (v_eql rfl rfl rfl) (.none rfl) rfl rfl (fun h25 => ?_) (fun h25 => ?_)
      · -- 25T
        refine WL.val (v_assign rfl rfl) (.none rfl) rfl rfl ?_
        refine WL.nil ?_
        refine WE.then_n ?_
        refine WC.cond_t rfl ?_
        refine WC.seq ?_
        refine WC.quiet mixed (by kernel_rfl) ?_
        refine WQ.val (v_load1 rfl rfl one_71 (cellAt rfl)) (.none rfl) rfl rfl ?_
        refine WQ.val (v_fieldAddr0 rfl rfl fld_45_4) (.none rfl) rfl rfl ?_
        refine WQ.val (v_load1 rfl rfl one_43 (cellAt rfl)) (.none rfl) rfl rfl ?_
        obtain ⟨u, hu⟩ : ∃ u, t.kids[0]? = some u := (by
          have : 1 ≤ t.kids.length := (by have := (formE_le hform).1; rw [h25, show leastK 4 = 1 by decide] at this; omega)
          exact ⟨t.kids[0]'(by omega), List.getElem?_eq_getElem _⟩)
        obtain ⟨b, o, ea, hr⟩ := (hA.kid hu).1
        obtain ⟨k1, k2, k3⟩ := hkid 0 u hu (.inl h25)
        have hl0 : 0 < t.kids.length := (by
          rcases Nat.eq_zero_or_pos t.kids.length with h | h
          · rw [List.getElem?_eq_none (by omega)] at hu; cases hu
          · exact h)
        refine WQ.val (v_indexAddr (b := b) (off := o) (lo := 0) rfl (by show some (Value.slice t.ad _ _) = _; rw [ea]) rfl Tryd.underlying43 sz_45 rfl hl0) (.none rfl) rfl rfl ?_
        refine WQ.val (v_loadN (cs := ndL u) rfl rfl many_45 rfl (rangeIn (fun h => h) hr)) (.none rfl) rfl rfl ?_
        refine WQ.callV _ rfl rfl rfl ck_90 (.none rfl) rfl rfl (fun w hS => Calls.still (Of1_c N H ih w g3 u k1 k2 k3 ((hA.kid hu).2.st (fun _ h => h) hS) (hG.keep (fun h => h) hS) (allAt (g := g3) w hS)) hS) ?_
        generalize hbb : holdsT H u = bb
        cases bb
        · -- 31F
          refine WQ.val (v_not rfl rfl rfl) (.none rfl) rfl rfl ?_
          refine WQ.val (v_assign rfl rfl) (.none rfl) rfl rfl ?_
          refine WQ.nil ?_
          refine WE.then_n ?_
          refine WC.ret ?_
          refine WE.block_ret ?_
          refine WE.then_ret ?_
          refine WE.ret1 (P := Tryd.prog) (.inl rfl) Tryd.results66 rfl ?_
          exact fun w' h => ⟨by rw [holdsT_eq, if_neg h10, if_neg h12, if_pos h25, List.getD_eq_getElem?_getD, List.getElem?_map, hu]; simp [hbb], h.frm⟩
        · -- 31T
          refine WQ.val (v_not rfl rfl rfl) (.none rfl) rfl rfl ?_
          refine WQ.val (v_assign rfl rfl) (.none rfl) rfl rfl ?_
          refine WQ.nil ?_
          refine WE.then_n ?_
          refine WC.ret ?_
          refine WE.block_ret ?_
          refine WE.then_ret ?_
          refine WE.ret1 (P := Tryd.prog) (.inl rfl) Tryd.results66 rfl ?_
          exact fun w' h => ⟨by rw [holdsT_eq, if_neg h10, if_neg h12, if_pos h25, List.getD_eq_getElem?_getD, List.getElem?_map, hu]; simp [hbb], h.frm⟩
      · -- 25F
        refine WL.val (v_assign rfl rfl) (.none rfl) rfl rfl ?_
        refine WL.nil ?_
        refine WE.then_n ?_
        refine WC.cond_f rfl ?_
        refine WC.seq ?_
        refine WC.region ?_
        refine WL.test (v_eql rfl rfl rfl) (.none rfl) rfl rfl (fun h34 => ?_) (fun h34 => ?_)
        · -- 34T
          refine WL.val (v_assign rfl rfl) (.none rfl) rfl rfl ?_
          refine WL.nil ?_
          refine WE.then_n ?_
          refine WC.cond_t rfl ?_
          refine WC.seq ?_
          refine WC.region ?_
          refine WL.val (v_fieldAddr0 rfl rfl fld_45_4) (.none rfl) rfl rfl ?_
          refine WL.val (v_load1 rfl rfl one_43 (cellAt rfl)) (.none rfl) rfl rfl ?_
          refine WL.val (v_makeFunc rfl rfl rfl) (.none rfl) rfl rfl ?_
          refine WL.call rfl rfl ck_91 (.none rfl) rfl rfl ?_
          intro w hS
          refine Calls.then (PCon_c w t 92 ck_92 _ (fun u => !holdsT H u) hI (hA.st (fun _ h => h) hS) (fun i u hu w' hF => Of2_c N H ih w' g3 g5 u (hkid i u hu (by omega)).1 (hkid i u hu (by omega)).2.1 (hkid i u hu (by omega)).2.2 (Frm.at hF ((hA.kid hu).2.st (fun _ h => h) hS)) (Frm.gw hF (hG.keep (fun h => h) hS)) (Frm.range hF _ _ _ (allAt (g := g3) w hS)) (((St.start (fun _ => False) w).ext hF).old (fun h => h) (hS.cell (g := g5) rfl)))) hS ?_
          generalize hbb : (t.kids.any fun u => !holdsT H u) = bb
          cases bb
          · -- 38F
            refine WL.val (v_not rfl rfl rfl) (.none rfl) rfl rfl ?_
            refine WL.val (v_assign rfl rfl) (.none rfl) rfl rfl ?_
            refine WL.nil ?_
            refine WE.then_n ?_
            refine WC.ret ?_
            refine WE.block_ret ?_
            refine WE.then_ret ?_
            refine WE.ret1 (P := Tryd.prog) (.inl rfl) Tryd.results66 rfl ?_
            exact fun w' h => ⟨by rw [holdsT_eq, if_neg h10, if_neg h12, if_neg h25, if_pos h34, List.all_map, List.all_eq_not_any_not]; simp only [Function.comp, id]; rw [hbb], h.frm⟩
          · -- 38T
            refine WL.val (v_not rfl rfl rfl) (.none rfl) rfl rfl ?_
            refine WL.val (v_assign rfl rfl) (.none rfl) rfl rfl ?_
            refine WL.nil ?_
            refine WE.then_n ?_
            refine WC.ret ?_
            refine WE.block_ret ?_
            refine WE.then_ret ?_
            refine WE.ret1 (P := Tryd.prog) (.inl rfl) Tryd.results66 rfl ?_
            exact fun w' h => ⟨by rw [holdsT_eq, if_neg h10, if_neg h12, if_neg h25, if_pos h34, List.all_map, List.all_eq_not_any_not]; simp only [Function.comp, id]; rw [hbb], h.frm⟩
        · -- 34F
          refine WL.val (v_assign rfl rfl) (.none rfl) rfl rfl ?_
          refine WL.nil ?_
          refine WE.then_n ?_
          refine WC.cond_f rfl ?_
          refine WC.seq ?_
          refine WC.region ?_
          refine WL.test (v_eql rfl rfl rfl) (.none rfl) rfl rfl (fun h41 => ?_) (fun h41 => ?_)
          · -- 41T
            refine WL.val (v_assign rfl rfl) (.none rfl) rfl rfl ?_
            refine WL.nil ?_
            refine WE.then_n ?_
            refine WC.cond_t rfl ?_
            refine WC.seq ?_
            refine WC.region ?_
            refine WL.val (v_fieldAddr0 rfl rfl fld_45_4) (.none rfl) rfl rfl ?_
            refine WL.val (v_load1 rfl rfl one_43 (cellAt rfl)) (.none rfl) rfl rfl ?_
            refine WL.val (v_load1 rfl rfl one_71 (cellAt rfl)) (.none rfl) rfl rfl ?_
            refine WL.call rfl rfl ck_91 (.none rfl) rfl rfl ?_
            intro w hS
            refine Calls.then (PCon_c w t 90 ck_90 _ (holdsT H) hI (hA.st (fun _ h => h) hS) (fun i u hu w' hF => Of1_c N H ih w' g3 u (hkid i u hu (by omega)).1 (hkid i u hu (by omega)).2.1 (hkid i u hu (by omega)).2.2 (Frm.at hF ((hA.kid hu).2.st (fun _ h => h) hS)) (Frm.gw hF (hG.keep (fun h => h) hS)) (Frm.range hF _ _ _ (allAt (g := g3) w hS)))) hS ?_
            refine WL.val (v_assign rfl rfl) (.none rfl) rfl rfl ?_
            refine WL.nil ?_
            refine WE.then_n ?_
            refine WC.ret ?_
            refine WE.block_ret ?_
            refine WE.then_ret ?_
            refine WE.ret1 (P := Tryd.prog) (.inl rfl) Tryd.results66 rfl ?_
            exact fun w' h => ⟨by rw [holdsT_eq, if_neg h10, if_neg h12, if_neg h25, if_neg h34, if_pos h41, List.any_map]; rfl, h.frm⟩
          · -- 41F
            refine WL.val (v_assign rfl rfl) (.none rfl) rfl rfl ?_
            refine WL.nil ?_
            refine WE.then_n ?_
            refine WC.cond_f rfl ?_
            refine WC.skip ?_
            refine WE.block_n ?_
            refine WE.then_n ?_
            refine WC.seq ?_
            refine WC.region ?_
            refine WL.val (v_assign rfl rfl) (.none rfl) rfl rfl ?_
            refine WL.nil ?_
            refine WE.then_n ?_
            refine WC.ret ?_
            refine WE.ret1 (P := Tryd.prog) (.inl rfl) Tryd.results66 rfl ?_
            exact fun w' h => ⟨by rw [holdsT_eq, if_neg h10, if_neg h12, if_neg h25, if_neg h34, if_neg h41], h.frm⟩
theorem holds_c (H : Hd) (hH : H.In) : ∀ N, HoldsTo N H
  | 0 => fun t hN => by cases t; simp only [Nd.mk.sizeOf_spec] at hN; omega
  | N + 1 => holds_step H hH N (holds_c H hH N)
theorem Holds_c (w : World) (t : Nd) (H : Hd) (hH : H.In) (hI : t.In) (hA : t.At w) (hG : GW w) :
    Calls Tryd.prog 36 #[ndV t, .agg (hdCells H)] w fun e w' => e = .returned (.bool (decide ((walkT t 1 true 0).1 = 0) && holdsT H t)) ∧ Frm (fun _ => False) w w' := by
  refine enter Tryd.func36 rfl Tryd.ntmps36 rfl (St.start (fun _ => False) w) ?_
  refine WC.seq ?_
  refine WC.region ?_
  refine WL.box rfl rfl rfl (.none rfl) rfl rfl ?_
  intro g2 hg2
  refine WL.box rfl rfl rfl (.none rfl) rfl rfl ?_
  intro g3 hg3
  refine WL.val (v_assign rfl rfl) (.none rfl) rfl rfl ?_
  refine WL.nil ?_
  refine WE.then_n ?_
  refine WC.seq ?_
  refine WC.region ?_
  refine WL.val (v_loadN rfl rfl many_45 rfl allAt) (.none rfl) rfl rfl ?_
  refine WL.call rfl rfl ck_34 (.none rfl) rfl rfl ?_
  intro w hS
  refine Calls.then (CheckPred_c w t hI (hA.st (fun _ h => h) hS) (hG.keep (fun h => h) hS)) hS ?_
  refine WL.test (v_eql rfl rfl rfl) (.none rfl) rfl rfl (fun h7 => ?_) (fun h7 => ?_)
  · -- 7T
    refine WL.val (v_move rfl rfl) (.none rfl) rfl rfl ?_
    refine WL.val (v_loadN rfl rfl many_45 rfl allAt) (.some rfl rfl rfl) rfl rfl ?_
    refine WL.val (v_loadN rfl rfl many_31 rfl allAt) (.some rfl rfl rfl) rfl rfl ?_
    refine WL.call rfl rfl ck_66 (.some rfl rfl rfl) rfl rfl ?_
    intro w hS
    refine Calls.then (holds_c H hH _ t (Nat.le_refl _) w (walkT_ok _ _ _ _ h7) hI (hA.st (fun _ h => h) hS) (hG.keep (fun h => h) hS)) hS ?_
    refine WL.val (v_pick_t rfl rfl rfl) (.none rfl) rfl rfl ?_
    refine WL.val (v_assign rfl rfl) (.none rfl) rfl rfl ?_
    refine WL.nil ?_
    refine WE.then_n ?_
    refine WC.ret ?_
    refine WE.ret1 (P := Tryd.prog) (.inl rfl) Tryd.results36 rfl ?_
    exact fun w' h => ⟨by rw [decide_eq_true h7, Bool.true_and], h.frm⟩
  · -- 7F
    refine WL.val (v_move rfl rfl) (.none rfl) rfl rfl ?_
    refine WL.skip rfl rfl rfl rfl rfl rfl ?_
    refine WL.skip rfl rfl rfl rfl rfl rfl ?_
    refine WL.skip rfl rfl rfl rfl rfl rfl ?_
    refine WL.val (v_pick_f rfl rfl rfl) (.none rfl) rfl rfl ?_
    refine WL.val (v_assign rfl rfl) (.none rfl) rfl rfl ?_
    refine WL.nil ?_
    refine WE.then_n ?_
    refine WC.ret ?_
    refine WE.ret1 (P := Tryd.prog) (.inl rfl) Tryd.results36 rfl ?_
    exact fun w' h => ⟨by rw [decide_eq_false h7, Bool.false_and], h.frm⟩
end Go.Proofs.YtodaanhhnjkncaaDoor
