/- Texts joined: engine, contracts and laws, in the order in which they build. -/
import Derived.Test.YtpjbofodllhjbaaGreatDoorRows
import Derived.Lib.LaidTab
import Derived.Test.YtpjbofodllhjbaaGreatDoorBfBgpWrites
/- The reference's messages: Encode (printed by gen/wre.py). -/
namespace Go.Proofs.YtpjbofodllhjbaaGreatDoor
open Go.RowKit

theorem flat_at7 {α : Type} {enc : α → List Value} {s : Nat} (hs : ∀ x, (enc x).length = s) : ∀ (xs : List α) (j : Nat) (v : Value), (xs.flatMap enc)[j]? = some v → ∃ i x k, xs[i]? = some x ∧ (enc x)[k]? = some v ∧ j = i * s + k
  | [], j, v, h => by simp at h
  | x :: xs, j, v, h => by
    rw [List.flatMap_cons] at h
    by_cases hj : j < s
    · rw [List.getElem?_append_left (by rw [hs]; exact hj)] at h
      exact ⟨0, x, j, rfl, h, by omega⟩
    · rw [List.getElem?_append_right (by rw [hs]; omega), hs] at h
      obtain ⟨i, y, k, h1, h2, h3⟩ := flat_at7 hs xs (j - s) v h
      exact ⟨i + 1, y, k, h1, h2, by rw [Nat.add_mul]; omega⟩
/-- Elements that lie there, as one range. -/
theorem RowsAt.flat {w : World} {ad : Option Addr} {s : Nat} {α : Type} {enc : α → List Value} {xs : List α} (h : RowsAt w ad s enc xs) (hs : ∀ x, (enc x).length = s) (h0 : 0 < xs.length) : ∃ b o, ad = some ⟨b, o, none⟩ ∧ w.rangeAt b o (xs.flatMap enc) := by
  obtain ⟨b, o, rfl, _⟩ := h 0 _ (List.getElem?_eq_getElem h0)
  refine ⟨b, o, rfl, fun j v hj => ?_⟩
  obtain ⟨i, x, k, h1, h2, rfl⟩ := flat_at7 hs xs j v hj
  have := h.get h1 k v h2
  rwa [Nat.add_assoc] at this
theorem seg_at {w : World} {b o s : Nat} {α : Type} {enc : α → List Value} {xs : List α} {i : Nat} {x : α} (h : w.rangeAt b o (xs.flatMap enc)) (hs : ∀ x, (enc x).length = s) (hi : xs[i]? = some x) : w.rangeAt b (o + i * s) (enc x) := fun j v hj => by
  have hl := flatMap_seg hs xs i x hi
  have hj2 := (List.getElem?_eq_some_iff.1 hj).1
  rw [hs] at hj2
  have h2 : (xs.flatMap enc)[i * s + j]? = some v := by rw [← List.getElem?_drop, ← hj, ← hl, List.getElem?_take, if_pos hj2]
  have := h _ _ h2
  rwa [Nat.add_assoc]
theorem pfsL_one (ps : List PfL) : (pfsL ps).all one = true := by
  unfold pfsL
  rw [List.all_flatMap]
  exact List.all_eq_true.2 fun p _ => PfL.cells_one p
theorem encE_out {a : AtL} (h : ¬ (0 ≤ a.has ∧ a.has ≤ 511)) : encE a = 1 := by
  have : chkA a = false := by
    cases hc : chkA a
    · rfl
    · have := (chk_facts hc).1; omega
  unfold encE
  rw [this]; rfl
theorem msgC_of {m : MsL} {c : Int} (hb : bodC m = c) (h0 : c ≠ 0) : msgC m = c := by unfold msgC; rw [hb, if_neg h0]
theorem addrB4 (x : Int) : addrB x 4 = numB x 4 := by unfold addrB; exact List.take_of_length_le (by rw [numB_len]; omega)
theorem capsE_snoc (cs : List CapL) (x : CapL) : capsE (cs ++ [x]) = capsE cs ++ capE x := by unfold capsE; rw [List.flatMap_append, List.flatMap_cons, List.flatMap_nil, List.append_nil]
set_option maxHeartbeats 8000000 in
theorem REnc07_c (w0 : World) (m : MsL) (hM : m.At w0) (hI : m.In) (hpl : m.atr.path.length ≤ 1000) (hol : m.atr.others.length ≤ 100) (hfl : m.fd.size ≤ 5000) : Calls Tryz.prog 7 #[.agg m.rcells.toArray] w0 fun e w' => ResB w0 w' (msgC m) (msgB m) e := by
  have hid := hI.id
  unfold U32 at hid
  refine enter Tryz.func7 rfl Tryz.ntmps7 rfl (St.start (fun _ => False) w0) ?_
  refine WC.seq <| WC.region <| WL.box rfl rfl rfl (.none rfl) rfl rfl <| ?_
  intro g1 hg1
  refine WL.v (v_assign rfl rfl) rfl <| WL.v (v_assign rfl rfl) rfl <| WL.nt <| WC.seq <| WC.region <| ?_
  refine WL.buildSlice rfl rfl Tryz.underlying37 sz_5 zero_5 rfl (by decide) rfl (.none rfl) rfl rfl ?_
  intro g15 hg15
  refine WL.as (L' := .row g15 [] :: [.row g1 m.rcells]) rfl <| WL.v (v_assign rfl rfl) rfl <| WL.nt <| ?_
  refine WC.cut (fun y : OutS => [(4, .slice y.ad y.xs.length y.c), (1, .pointer (some ⟨g1, 0, none⟩))]) (fun y => y.E ++ [.row g1 m.rcells]) (fun y => y.xs = bodB m ∧ BV y.ad y.c y.xs y.E ∧ (bodC m = 0 ∨ (bodC m = 6 ∧ 4077 < y.xs.length)) ∧ y.xs.length ≤ 20000 ∧ 1 ≤ m.kind ∧ m.kind ≤ 4) ?_ ?_
  ·
   refine WC.seq <| WC.region <| WL.v (v_fieldAddr0 rfl rfl fld_51_0) rfl <| WL.v (v_load1 rfl rfl one_3 (cellAt rfl)) rfl <| WL.nt <| WC.block <| WC.seq <| WC.region <| ?_
   refine WL.test (v_eql rfl rfl rfl) (.none rfl) rfl rfl (fun h19 => ?_) (fun h19 => ?_)
   ·
    refine WL.v (v_assign rfl rfl) rfl <| WL.nt <| WC.cond_t rfl <| ?_
    refine WC.cut (fun _ : Unit => [(4, .slice (some ⟨g15, 0, none⟩) 0 0), (1, .pointer (some ⟨g1, 0, none⟩))]) (fun _ => .row g15 [] :: [.row g1 m.rcells]) (fun _ => badO m = false) ?_ ?_
    ·
     refine WC.seq <| WC.region <| WL.v (v_fieldAddr0 rfl rfl fld_51_1) rfl <| WL.v (v_load1 rfl rfl one_3 (cellAt rfl)) rfl <| ?_
     refine WL.test (v_lss rfl rfl rfl) (.none rfl) rfl rfl (fun h22 => ?_) (fun h22 => ?_)
     ·
      refine WL.v (v_move rfl rfl) rfl ?_
      iterate 3 refine WL.sk rfl ?_
      refine WL.v (v_pick_t rfl rfl rfl) rfl <| WL.v (v_move rfl rfl) rfl <| ?_
      iterate 13 refine WL.sk rfl ?_
      refine WL.v (v_pick_t rfl rfl rfl) rfl <| WL.v (v_move rfl rfl) rfl <| ?_
      iterate 3 refine WL.sk rfl ?_
      refine WL.v (v_pick_t rfl rfl rfl) rfl <| WL.v (v_move rfl rfl) rfl <| ?_
      iterate 4 refine WL.sk rfl ?_
      refine WL.v (v_pick_t rfl rfl rfl) rfl <| WL.nt <| WC.cond_t rfl <| WC.seq <| WC.region <| WL.v (v_assign rfl rfl) rfl <| WL.v (v_assign rfl rfl) rfl <| WL.nt <| WC.ret <| WE.then_ret <| ?_
      refine WE.block_ret <| WE.then_ret <| WE.ret2 (P := Tryz.prog) (.inl rfl) Tryz.results7 rfl rfl <| ?_
      have hb : bodC m = 1 := (by
        have : badO m = true := decide_eq_true (by omega)
        unfold bodC; rw [if_pos h19]; unfold openC; rw [this]; rfl)
      exact fun w' h => ResB.bad (msgC_of hb (by decide)) (by decide) h
     ·
      refine WL.v (v_move rfl rfl) rfl <| WL.val (v_fieldAddr0 rfl rfl fld_51_1) (.some rfl rfl rfl) rfl rfl <| WL.val (v_load1 rfl rfl one_3 (cellAt rfl)) (.some rfl rfl rfl) rfl rfl <| ?_
      refine WL.test (v_gtr rfl rfl rfl) (.some rfl rfl rfl) rfl rfl (fun h26 => ?_) (fun h26 => ?_)
      ·
       refine WL.v (v_pick_f rfl rfl rfl) rfl <| WL.v (v_move rfl rfl) rfl <| ?_
       iterate 13 refine WL.sk rfl ?_
       refine WL.v (v_pick_t rfl rfl rfl) rfl <| WL.v (v_move rfl rfl) rfl <| ?_
       iterate 3 refine WL.sk rfl ?_
       refine WL.v (v_pick_t rfl rfl rfl) rfl <| WL.v (v_move rfl rfl) rfl <| ?_
       iterate 4 refine WL.sk rfl ?_
       refine WL.v (v_pick_t rfl rfl rfl) rfl <| WL.nt <| WC.cond_t rfl <| WC.seq <| WC.region <| WL.v (v_assign rfl rfl) rfl <| WL.v (v_assign rfl rfl) rfl <| WL.nt <| WC.ret <| WE.then_ret <| ?_
       refine WE.block_ret <| WE.then_ret <| WE.ret2 (P := Tryz.prog) (.inl rfl) Tryz.results7 rfl rfl <| ?_
       have hb : bodC m = 1 := (by
         have : badO m = true := decide_eq_true (by omega)
         unfold bodC; rw [if_pos h19]; unfold openC; rw [this]; rfl)
       exact fun w' h => ResB.bad (msgC_of hb (by decide)) (by decide) h
      ·
       refine WL.v (v_pick_f rfl rfl rfl) rfl <| WL.v (v_move rfl rfl) rfl <| WL.val (v_fieldAddr0 rfl rfl fld_51_2) (.some rfl rfl rfl) rfl rfl <| WL.val (v_load1 rfl rfl one_3 (cellAt rfl)) (.some rfl rfl rfl) rfl rfl <| ?_
       refine WL.test (v_neq rfl rfl rfl) (.some rfl rfl rfl) rfl rfl (fun h31 => ?_) (fun h31 => ?_)
       ·
        refine WL.val (v_move rfl rfl) (.some rfl rfl rfl) rfl rfl <| WL.val (v_fieldAddr0 rfl rfl fld_51_2) (.some rfl rfl rfl) rfl rfl <| WL.val (v_load1 rfl rfl one_3 (cellAt rfl)) (.some rfl rfl rfl) rfl rfl <| ?_
        refine WL.test (v_lss rfl rfl rfl) (.some rfl rfl rfl) rfl rfl (fun h35 => ?_) (fun h35 => ?_)
        ·
         refine WL.val (v_move rfl rfl) (.some rfl rfl rfl) rfl rfl ?_
         iterate 3 refine WL.sk rfl ?_
         refine WL.val (v_pick_t rfl rfl rfl) (.some rfl rfl rfl) rfl rfl <| WL.val (v_pick_t rfl rfl rfl) (.some rfl rfl rfl) rfl rfl <| WL.v (v_pick_f rfl rfl rfl) rfl <| WL.v (v_move rfl rfl) rfl <| ?_
         iterate 3 refine WL.sk rfl ?_
         refine WL.v (v_pick_t rfl rfl rfl) rfl <| WL.v (v_move rfl rfl) rfl <| ?_
         iterate 4 refine WL.sk rfl ?_
         refine WL.v (v_pick_t rfl rfl rfl) rfl <| WL.nt <| WC.cond_t rfl <| WC.seq <| WC.region <| WL.v (v_assign rfl rfl) rfl <| WL.v (v_assign rfl rfl) rfl <| WL.nt <| WC.ret <| WE.then_ret <| ?_
         refine WE.block_ret <| WE.then_ret <| WE.ret2 (P := Tryz.prog) (.inl rfl) Tryz.results7 rfl rfl <| ?_
         have hb : bodC m = 1 := (by
           have : badO m = true := decide_eq_true (by omega)
           unfold bodC; rw [if_pos h19]; unfold openC; rw [this]; rfl)
         exact fun w' h => ResB.bad (msgC_of hb (by decide)) (by decide) h
        ·
         refine WL.val (v_move rfl rfl) (.some rfl rfl rfl) rfl rfl <| WL.val (v_fieldAddr0 rfl rfl fld_51_2) (.some rfl rfl rfl) rfl rfl <| WL.val (v_load1 rfl rfl one_3 (cellAt rfl)) (.some rfl rfl rfl) rfl rfl <| ?_
         refine WL.test (v_gtr rfl rfl rfl) (.some rfl rfl rfl) rfl rfl (fun h39 => ?_) (fun h39 => ?_)
         ·
          refine WL.val (v_pick_f rfl rfl rfl) (.some rfl rfl rfl) rfl rfl <| WL.val (v_pick_t rfl rfl rfl) (.some rfl rfl rfl) rfl rfl <| WL.v (v_pick_f rfl rfl rfl) rfl <| WL.v (v_move rfl rfl) rfl <| ?_
          iterate 3 refine WL.sk rfl ?_
          refine WL.v (v_pick_t rfl rfl rfl) rfl <| WL.v (v_move rfl rfl) rfl <| ?_
          iterate 4 refine WL.sk rfl ?_
          refine WL.v (v_pick_t rfl rfl rfl) rfl <| WL.nt <| WC.cond_t rfl <| WC.seq <| WC.region <| WL.v (v_assign rfl rfl) rfl <| WL.v (v_assign rfl rfl) rfl <| WL.nt <| WC.ret <| WE.then_ret <| ?_
          refine WE.block_ret <| WE.then_ret <| WE.ret2 (P := Tryz.prog) (.inl rfl) Tryz.results7 rfl rfl <| ?_
          have hb : bodC m = 1 := (by
            have : badO m = true := decide_eq_true (by omega)
            unfold bodC; rw [if_pos h19]; unfold openC; rw [this]; rfl)
          exact fun w' h => ResB.bad (msgC_of hb (by decide)) (by decide) h
         ·
          refine WL.val (v_pick_f rfl rfl rfl) (.some rfl rfl rfl) rfl rfl <| WL.val (v_pick_t rfl rfl rfl) (.some rfl rfl rfl) rfl rfl <| WL.v (v_pick_f rfl rfl rfl) rfl <| WL.v (v_move rfl rfl) rfl <| WL.val (v_fieldAddr0 rfl rfl fld_51_3) (.some rfl rfl rfl) rfl rfl <| WL.val (v_load1 rfl rfl one_22 (cellAt rfl)) (.some rfl rfl rfl) rfl rfl <| ?_
          refine WL.test (v_eql rfl rfl rfl) (.some rfl rfl rfl) rfl rfl (fun h46 => ?_) (fun h46 => ?_)
          ·
           refine WL.v (v_pick_f rfl rfl rfl) rfl <| WL.v (v_move rfl rfl) rfl <| ?_
           iterate 4 refine WL.sk rfl ?_
           refine WL.v (v_pick_t rfl rfl rfl) rfl <| WL.nt <| WC.cond_t rfl <| WC.seq <| WC.region <| WL.v (v_assign rfl rfl) rfl <| WL.v (v_assign rfl rfl) rfl <| WL.nt <| WC.ret <| WE.then_ret <| ?_
           refine WE.block_ret <| WE.then_ret <| WE.ret2 (P := Tryz.prog) (.inl rfl) Tryz.results7 rfl rfl <| ?_
           have hb : bodC m = 1 := (by
             have : badO m = true := decide_eq_true (by omega)
             unfold bodC; rw [if_pos h19]; unfold openC; rw [this]; rfl)
           exact fun w' h => ResB.bad (msgC_of hb (by decide)) (by decide) h
          ·
           refine WL.v (v_pick_f rfl rfl rfl) rfl <| WL.v (v_move rfl rfl) rfl <| WL.val (v_fieldAddr0 rfl rfl fld_51_4) (.some rfl rfl rfl) rfl rfl <| WL.val (v_load1 rfl rfl one_43 (cellAt rfl)) (.some rfl rfl rfl) rfl rfl <| WL.val (v_len_slice rfl rfl Tryz.underlying43) (.some rfl rfl rfl) rfl rfl <| ?_
           refine WL.test (v_gtr rfl rfl rfl) (.some rfl rfl rfl) rfl rfl (fun h52 => ?_) (fun h52 => ?_)
           ·
            refine WL.v (v_pick_f rfl rfl rfl) rfl <| WL.nt <| WC.cond_t rfl <| WC.seq <| WC.region <| WL.v (v_assign rfl rfl) rfl <| WL.v (v_assign rfl rfl) rfl <| WL.nt <| WC.ret <| WE.then_ret <| ?_
            refine WE.block_ret <| WE.then_ret <| WE.ret2 (P := Tryz.prog) (.inl rfl) Tryz.results7 rfl rfl <| ?_
            have hb : bodC m = 1 := (by
              have : badO m = true := decide_eq_true (by omega)
              unfold bodC; rw [if_pos h19]; unfold openC; rw [this]; rfl)
            exact fun w' h => ResB.bad (msgC_of hb (by decide)) (by decide) h
           ·
            refine WL.v (v_pick_f rfl rfl rfl) rfl <| WL.nt <| WC.cond_f rfl <| WC.skip <| ?_
            exact WE.mid () (decide_eq_false (by omega)) (.cons rfl (.cons rfl .nil)) (.refl _)
       ·
        refine WL.val (v_move rfl rfl) (.some rfl rfl rfl) rfl rfl ?_
        iterate 8 refine WL.sk rfl ?_
        refine WL.val (v_pick_f rfl rfl rfl) (.some rfl rfl rfl) rfl rfl <| WL.v (v_pick_f rfl rfl rfl) rfl <| WL.v (v_move rfl rfl) rfl <| WL.val (v_fieldAddr0 rfl rfl fld_51_3) (.some rfl rfl rfl) rfl rfl <| WL.val (v_load1 rfl rfl one_22 (cellAt rfl)) (.some rfl rfl rfl) rfl rfl <| ?_
        refine WL.test (v_eql rfl rfl rfl) (.some rfl rfl rfl) rfl rfl (fun h46 => ?_) (fun h46 => ?_)
        ·
         refine WL.v (v_pick_f rfl rfl rfl) rfl <| WL.v (v_move rfl rfl) rfl <| ?_
         iterate 4 refine WL.sk rfl ?_
         refine WL.v (v_pick_t rfl rfl rfl) rfl <| WL.nt <| WC.cond_t rfl <| WC.seq <| WC.region <| WL.v (v_assign rfl rfl) rfl <| WL.v (v_assign rfl rfl) rfl <| WL.nt <| WC.ret <| WE.then_ret <| ?_
         refine WE.block_ret <| WE.then_ret <| WE.ret2 (P := Tryz.prog) (.inl rfl) Tryz.results7 rfl rfl <| ?_
         have hb : bodC m = 1 := (by
           have : badO m = true := decide_eq_true (by omega)
           unfold bodC; rw [if_pos h19]; unfold openC; rw [this]; rfl)
         exact fun w' h => ResB.bad (msgC_of hb (by decide)) (by decide) h
        ·
         refine WL.v (v_pick_f rfl rfl rfl) rfl <| WL.v (v_move rfl rfl) rfl <| WL.val (v_fieldAddr0 rfl rfl fld_51_4) (.some rfl rfl rfl) rfl rfl <| WL.val (v_load1 rfl rfl one_43 (cellAt rfl)) (.some rfl rfl rfl) rfl rfl <| WL.val (v_len_slice rfl rfl Tryz.underlying43) (.some rfl rfl rfl) rfl rfl <| ?_
         refine WL.test (v_gtr rfl rfl rfl) (.some rfl rfl rfl) rfl rfl (fun h52 => ?_) (fun h52 => ?_)
         ·
          refine WL.v (v_pick_f rfl rfl rfl) rfl <| WL.nt <| WC.cond_t rfl <| WC.seq <| WC.region <| WL.v (v_assign rfl rfl) rfl <| WL.v (v_assign rfl rfl) rfl <| WL.nt <| WC.ret <| WE.then_ret <| ?_
          refine WE.block_ret <| WE.then_ret <| WE.ret2 (P := Tryz.prog) (.inl rfl) Tryz.results7 rfl rfl <| ?_
          have hb : bodC m = 1 := (by
            have : badO m = true := decide_eq_true (by omega)
            unfold bodC; rw [if_pos h19]; unfold openC; rw [this]; rfl)
          exact fun w' h => ResB.bad (msgC_of hb (by decide)) (by decide) h
         ·
          refine WL.v (v_pick_f rfl rfl rfl) rfl <| WL.nt <| WC.cond_f rfl <| WC.skip <| ?_
          exact WE.mid () (decide_eq_false (by omega)) (.cons rfl (.cons rfl .nil)) (.refl _)
    ·
     intro _ hb
     have hb' := of_decide_eq_false hb
     refine WC.seq <| WC.region <| ?_
     refine WL.buildSlice rfl rfl Tryz.underlying37 sz_5 zero_5 rfl (by decide) rfl (.none rfl) rfl rfl ?_
     intro g54 hg54
     refine WL.v (v_assign rfl rfl) rfl <| WL.nt <| WC.seq <| WC.seq <| WC.region <| WL.v (v_fieldAddr0 rfl rfl fld_51_4) rfl <| WL.v (v_load1 rfl rfl one_43 (cellAt rfl)) rfl <| WL.v (v_len_slice rfl rfl Tryz.underlying43) rfl <| WL.v (v_move rfl rfl) rfl <| WL.nt <| ?_
     refine WC.block <| WC.loop (fun y : OutS => [(58, .int .i64 y.k), (57, .int .i64 m.caps.length), (56, .slice m.kad m.caps.length m.kc), (5, .slice y.ad y.xs.length y.c), (4, .slice (some ⟨g15, 0, none⟩) 0 0), (1, .pointer (some ⟨g1, 0, none⟩))]) (fun y => y.E ++ (.row g15 [] :: [.row g1 m.rcells])) (fun y => y.k ≤ m.caps.length ∧ y.xs = capsE (m.caps.take y.k) ∧ BV y.ad y.c y.xs y.E ∧ y.xs.length ≤ 257 * y.k ∧ (∀ j o, j < y.k → m.caps[j]? = some o → capOk o = true)) (fun y => m.caps.length - y.k) ⟨0, some ⟨g54, 0, none⟩, 0, [], [.row g54 []]⟩ ⟨Nat.zero_le _, rfl, Vec.row (k := 0) rfl rfl (Nat.le_refl _), Nat.zero_le _, fun j _ h => absurd h (Nat.not_lt_zero _)⟩ (.cons rfl (.cons rfl (.cons rfl (.cons rfl (.cons rfl (.cons rfl .nil)))))) (.refl _) <| ?_
     rintro ⟨k, ad, c, ys, E⟩ ⟨hk, hys, hV, hyl, hok⟩
     dsimp only at hk hys hV hyl hok
     dsimp only
     refine WC.seq <| WC.region <| ?_
     refine WL.test (v_lss rfl rfl rfl) (.none rfl) rfl rfl (fun h59 => ?_) (fun h59 => ?_)
     ·
      refine WL.nt <| WC.seq <| WC.cond_t rfl <| WC.skip <| WE.then_n <| WC.seq <| WC.block <| WC.seq <| WC.region <| ?_
      obtain ⟨x, hx⟩ : ∃ x, m.caps[k]? = some x := ⟨m.caps[k]'(by omega), List.getElem?_eq_getElem _⟩
      obtain ⟨b1, o1, ea1, r1⟩ := hM.caps k x hx
      have hxm := List.mem_of_getElem? hx
      have hxI := hI.caps x hxm
      refine WL.v ((v_indexAddr (b := b1) (off := o1) (lo := k) rfl (by show some (Value.slice m.kad _ _) = _; rw [ea1]) rfl Tryz.underlying43 sz_68 rfl (by omega))) rfl ?_
      refine WL.v ((v_loadN (cs := x.cells) rfl rfl many_68 rfl (rgIn (fun h => h) r1))) rfl <| WL.alloc rfl zero_68 (.none rfl) rfl rfl <| ?_
      intro g7 hg7
      refine WL.storeW rfl rfl rfl rfl many_68 rfl rfl (.none rfl) rfl <| WL.as (L' := .row g7 x.cells :: (E ++ (.row g15 [] :: [.row g1 m.rcells]))) rfl <| ?_
      refine WL.to (L' := E ++ (.row g7 x.cells :: .row g15 [] :: [.row g1 m.rcells])) (fun w hS => hS.permC (by intro c h1 h2 h3 e; simp only [h1, h2, h3] <;> omega)) ?_
      refine WL.nt <| WC.seq <| WC.seq <| WC.region <| WL.v (v_fieldAddr0 rfl rfl fld_68_0) rfl <| WL.v (v_load1 rfl rfl one_3 (cellAt rfl)) rfl <| ?_
      refine WL.test (v_lss rfl rfl rfl) (.none rfl) rfl rfl (fun h64 => ?_) (fun h64 => ?_)
      ·
       refine WL.v (v_move rfl rfl) rfl ?_
       iterate 3 refine WL.sk rfl ?_
       refine WL.v (v_pick_t rfl rfl rfl) rfl <| WL.v (v_move rfl rfl) rfl <| ?_
       iterate 4 refine WL.sk rfl ?_
       refine WL.v (v_pick_t rfl rfl rfl) rfl <| WL.nt <| WC.cond_t rfl <| WC.seq <| WC.region <| WL.v (v_assign rfl rfl) rfl <| WL.v (v_assign rfl rfl) rfl <| WL.nt <| WC.ret <| WE.then_ret <| ?_
       refine WE.block_ret <| WE.then_ret <| WE.then_ret <| WE.block_ret <| WE.then_ret <| WE.block_ret <| WE.then_ret <| WE.ret2 (P := Tryz.prog) (.inl rfl) Tryz.results7 rfl rfl <| ?_
       have hb1 : bodC m = 1 := (by
         unfold bodC; rw [if_pos h19]; unfold openC
         rw [hb, not_all hx (by unfold capOk; exact decide_eq_false (by omega))]; rfl)
       exact fun w' h => ResB.bad (msgC_of hb1 (by decide)) (by decide) h
      ·
       refine WL.v (v_move rfl rfl) rfl <| WL.val (v_fieldAddr0 rfl rfl fld_68_0) (.some rfl rfl rfl) rfl rfl <| WL.val (v_load1 rfl rfl one_3 (cellAt rfl)) (.some rfl rfl rfl) rfl rfl <| ?_
       refine WL.test (v_gtr rfl rfl rfl) (.some rfl rfl rfl) rfl rfl (fun h68 => ?_) (fun h68 => ?_)
       ·
        refine WL.v (v_pick_f rfl rfl rfl) rfl <| WL.v (v_move rfl rfl) rfl <| ?_
        iterate 4 refine WL.sk rfl ?_
        refine WL.v (v_pick_t rfl rfl rfl) rfl <| WL.nt <| WC.cond_t rfl <| WC.seq <| WC.region <| WL.v (v_assign rfl rfl) rfl <| WL.v (v_assign rfl rfl) rfl <| WL.nt <| WC.ret <| WE.then_ret <| ?_
        refine WE.block_ret <| WE.then_ret <| WE.then_ret <| WE.block_ret <| WE.then_ret <| WE.block_ret <| WE.then_ret <| WE.ret2 (P := Tryz.prog) (.inl rfl) Tryz.results7 rfl rfl <| ?_
        have hb1 : bodC m = 1 := (by
          unfold bodC; rw [if_pos h19]; unfold openC
          rw [hb, not_all hx (by unfold capOk; exact decide_eq_false (by omega))]; rfl)
        exact fun w' h => ResB.bad (msgC_of hb1 (by decide)) (by decide) h
       ·
        refine WL.v (v_pick_f rfl rfl rfl) rfl <| WL.v (v_move rfl rfl) rfl <| WL.val (v_fieldAddr0 rfl rfl fld_68_1) (.some rfl rfl rfl) rfl rfl <| WL.val (v_load1 rfl rfl one_37 (cellAt rfl)) (.some rfl rfl rfl) rfl rfl <| WL.val (v_len_slice rfl rfl Tryz.underlying37) (.some rfl rfl rfl) rfl rfl <| ?_
        refine WL.test (v_gtr rfl rfl rfl) (.some rfl rfl rfl) rfl rfl (fun h74 => ?_) (fun h74 => ?_)
        ·
         refine WL.v (v_pick_f rfl rfl rfl) rfl <| WL.nt <| WC.cond_t rfl <| WC.seq <| WC.region <| WL.v (v_assign rfl rfl) rfl <| WL.v (v_assign rfl rfl) rfl <| WL.nt <| WC.ret <| WE.then_ret <| ?_
         refine WE.block_ret <| WE.then_ret <| WE.then_ret <| WE.block_ret <| WE.then_ret <| WE.block_ret <| WE.then_ret <| WE.ret2 (P := Tryz.prog) (.inl rfl) Tryz.results7 rfl rfl <| ?_
         have hb1 : bodC m = 1 := (by
           unfold bodC; rw [if_pos h19]; unfold openC
           rw [hb, not_all hx (by unfold capOk; exact decide_eq_false (by omega))]; rfl)
         exact fun w' h => ResB.bad (msgC_of hb1 (by decide)) (by decide) h
        ·
         refine WL.v (v_pick_f rfl rfl rfl) rfl <| WL.nt <| WC.cond_f rfl <| WC.skip <| WE.then_n <| WC.held (.row g7 x.cells :: .row g15 [] :: [.row g1 m.rcells]) mixed <| ?_
         refine WRH.first (g := 4) [0, 1, 2, 3, 4, 5, 6, 7, 10, 11] (by kernel_rfl) (by kernel_rfl) (fun w hS => hS.sub (by repeat (first | exact List.Sublist.refl _ | exact List.nil_sublist _ | refine List.Sublist.cons _ ?_ | refine List.sublist_append_of_sublist_right ?_))) ?_
         refine WH.val (v_move rfl rfl) (.none rfl) rfl rfl <| WH.val (v_fieldAddr0 rfl rfl fld_68_0) (.none rfl) rfl rfl <| WH.val (v_load1 rfl rfl one_3 (cellAt rfl)) (.none rfl) rfl rfl <| WH.val (v_conv rfl rfl Tryz.underlying5 Tryz.underlying3 (w_u8m _)) (.none rfl) rfl rfl <| WH.val (v_fieldAddr0 rfl rfl fld_68_1) (.none rfl) rfl rfl <| WH.val (v_load1 rfl rfl one_37 (cellAt rfl)) (.none rfl) rfl rfl <| WH.val (v_len_slice rfl rfl Tryz.underlying37) (.none rfl) rfl rfl <| WH.val (v_conv rfl rfl Tryz.underlying5 Tryz.underlying3 (w_u8m _)) (.none rfl) rfl rfl <| WH.val (v_fieldAddr0 rfl rfl fld_68_1) (.none rfl) rfl rfl <| WH.val (v_load1 rfl rfl one_37 (cellAt rfl)) (.none rfl) rfl rfl <| ?_
         refine WH.nil ?_
         refine WRH.one (g := 3) 8 (by kernel_rfl) ?_
         refine WL.buildSlice rfl rfl Tryz.underlying37 sz_5 zero_5 rfl (by decide) rfl (.none rfl) rfl rfl ?_
         intro g84 hg84
         refine WL.as (L' := .row g84 (u8s [x.code % 256, (x.val.length : Int) % 256]) :: (E ++ (.row g7 x.cells :: .row g15 [] :: [.row g1 m.rcells]))) rfl ?_
         refine WL.to (L' := E ++ (.row g84 (u8s [x.code % 256, (x.val.length : Int) % 256]) :: .row g7 x.cells :: .row g15 [] :: [.row g1 m.rcells])) (fun w hS => hS.permC (by intro c h1 h2 h3 e; simp only [h1, h2, h3] <;> omega)) ?_
         refine WL.nilH (fun w hS => hS.sub (by repeat (first | exact List.Sublist.refl _ | exact List.nil_sublist _ | refine List.Sublist.cons _ ?_ | refine List.sublist_append_of_sublist_right ?_))) ?_
         refine WRH.one (g := 2) 9 (by kernel_rfl) ?_
         refine WL.appendL rfl rfl rfl Tryz.underlying37 Tryz.underlying37 sz_5 by_5 zero_5 rfl rfl hV (new := u8s [x.code % 256, (x.val.length : Int) % 256]) (fun _ => ⟨g84, 0, rfl, fun w hS => allAt (g := g84) w hS⟩) rfl (u8s_one _) (by omega) (.none rfl) rfl rfl ?_
         intro ad85 c85 E85 hV85 hr85
         refine WL.nilH (fun w hS => hS.sub (by repeat (first | exact List.Sublist.refl _ | exact List.nil_sublist _ | refine List.Sublist.cons _ ?_ | refine List.sublist_append_of_sublist_right ?_))) ?_
         refine WRH.one (g := 1) 12 (by kernel_rfl) ?_
         refine WL.appendL rfl rfl rfl Tryz.underlying37 Tryz.underlying37 sz_5 by_5 zero_5 rfl rfl hV85 (new := u8s x.val) (fun h => by obtain ⟨b', o', e, hr'⟩ := hM.vals x hxm (by rw [u8s_len]; exact h); exact ⟨b', o', e, rgIn (fun h => h) hr'⟩) (by rw [u8s_len]; omega) (u8s_one _) (by omega) (.none rfl) rfl rfl ?_
         intro ad88 c88 E88 hV88 hr88
         rw [← u8s_app, ← u8s_app] at hV88
         have hkl := hV88.toB
         rw [hkl] at hV88 ⊢
         refine WL.nilH (fun w hS => hS.sub (by repeat (first | exact List.Sublist.refl _ | exact List.nil_sublist _ | refine List.Sublist.cons _ ?_ | refine List.sublist_append_of_sublist_right ?_))) ?_
         refine WRH.first (g := 0) [13] (by kernel_rfl) (by kernel_rfl) (fun w hS => hS.sub (by repeat (first | exact List.Sublist.refl _ | exact List.nil_sublist _ | refine List.Sublist.cons _ ?_ | refine List.sublist_append_of_sublist_right ?_))) ?_
         refine WH.val (v_assign rfl rfl) (.none rfl) rfl rfl <| WH.nil <| ?_
         refine WRH.done (by kernel_rfl) ?_
         refine WE.block_n <| WE.then_n <| WC.region <| ?_
         refine WL.v (v_add rfl rfl rfl (show _ = ((k + 1 : Nat) : Int) from (w_i64 (by omega) (by omega)).trans (by omega))) rfl ?_
         refine WL.v (v_move rfl rfl) rfl <| WL.nil <| ?_
         exact WE.next ⟨k + 1, ad88, c88, _, E88⟩ (by dsimp only; omega) ⟨by dsimp only; omega, by dsimp only; rw [take_succ_get hx, capsE_snoc, hys]; unfold capE; simp only [List.append_assoc], hV88, by dsimp only; rw [← hkl]; omega, fun j o' hj hjo => by
         by_cases e : j = k
         · subst e; rw [hx] at hjo; obtain rfl := Option.some.inj hjo; exact decide_eq_true ⟨by omega, by omega, by omega⟩
         · exact hok j o' (by dsimp only at hj; omega) hjo⟩ (.cons rfl (.cons rfl (.cons rfl (.cons rfl (.cons rfl (.cons rfl .nil)))))) (List.Sublist.append_left (.cons _ (.cons _ (.refl _))) _)
     ·
      refine WL.nt <| WC.seq <| WC.cond_f rfl <| WC.exit <| WE.then_exit <| WE.then_exit <| WE.block_hit <| WE.then_n <| WC.seq <| WC.seq <| ?_
      refine WC.region ?_
      obtain rfl : k = m.caps.length := (by omega)
      have hy' : ys = capsE m.caps := (by rw [List.take_length] at hys; exact hys)
      have hall : m.caps.all capOk = true := all_of fun j x hj hx => hok j x (by omega) hx
      refine WL.v (v_move rfl rfl) rfl <| WL.v (v_len_slice rfl rfl Tryz.underlying37) rfl <| ?_
      refine WL.test (v_gtr rfl rfl rfl) (.none rfl) rfl rfl (fun h92 => ?_) (fun h92 => ?_)
      ·
       refine WL.nt <| WC.cond_t rfl <| WC.seq <| WC.region <| WL.v (v_assign rfl rfl) rfl <| WL.v (v_assign rfl rfl) rfl <| WL.nt <| WC.ret <| WE.then_ret <| WE.block_ret <| ?_
       refine WE.then_ret <| WE.ret2 (P := Tryz.prog) (.inl rfl) Tryz.results7 rfl rfl <| ?_
       have hb1 : bodC m = 6 := (by
         unfold bodC; rw [if_pos h19]; unfold openC
         rw [hb, hall, if_pos (show 253 < (capsE m.caps).length by rw [← hy']; omega)]; rfl)
       exact fun w' h => ResB.bad (msgC_of hb1 (by decide)) (by decide) h
      ·
       refine WL.nt <| WC.cond_f rfl <| WC.skip <| WE.then_n <| WC.seq <| WC.region <| WL.v (v_move rfl rfl) rfl <| ?_
       refine WL.buildSlice rfl rfl Tryz.underlying37 sz_5 zero_5 rfl (by decide) rfl (.none rfl) rfl rfl ?_
       intro g94 hg94
       refine WL.as (L' := .row g94 (u8s [4]) :: (E ++ (.row g15 [] :: [.row g1 m.rcells]))) rfl ?_
       refine WL.to (L' := [.row g15 []] ++ (.row g94 (u8s [4]) :: (E ++ [.row g1 m.rcells]))) (fun w hS => hS.permC (by intro c h1 h2 h3 e; simp only [h1, h2, h3] <;> omega)) ?_
       refine WL.appendL rfl rfl rfl Tryz.underlying37 Tryz.underlying37 sz_5 by_5 zero_5 rfl rfl (show BV (some ⟨g15, 0, none⟩) 0 [] [.row g15 []] from Vec.row (k := 0) rfl rfl (Nat.le_refl _)) (new := u8s [4]) (fun _ => ⟨g94, 0, rfl, fun w hS => allAt (g := g94) w hS⟩) rfl (u8s_one _) (by omega) (.none rfl) rfl rfl ?_
       intro ad95 c95 E95 hV95 hr95
       rw [← u8s_app, List.nil_append] at hV95
       have hk95 := hV95.toB
       rw [hk95] at hV95 ⊢
       refine WL.v (v_assign rfl rfl) rfl <| WL.nt <| ?_
       refine WC.cut (fun y : OutS => [(5, .slice ad ys.length c), (4, .slice y.ad y.xs.length y.c), (1, .pointer (some ⟨g1, 0, none⟩))]) (fun y => y.E ++ (E ++ [.row g1 m.rcells])) (fun y => y.xs = [4] ++ numB m.asn 2 ++ numB m.hold 2 ∧ BV y.ad y.c y.xs y.E) ?_ ?_
       ·
        refine WC.held ([.row g1 m.rcells]) mixed ?_
        refine WRH.first (g := 5) [0, 1, 2, 5, 6] (by kernel_rfl) (by kernel_rfl) (fun w hS => hS.sub (by repeat (first | exact List.Sublist.refl _ | exact List.nil_sublist _ | refine List.Sublist.cons _ ?_ | refine List.sublist_append_of_sublist_right ?_))) ?_
        refine WH.val (v_move rfl rfl) (.none rfl) rfl rfl <| WH.val (v_fieldAddr0 rfl rfl fld_51_1) (.none rfl) rfl rfl <| WH.val (v_load1 rfl rfl one_3 (cellAt rfl)) (.none rfl) rfl rfl <| WH.val (v_fieldAddr0 rfl rfl fld_51_2) (.none rfl) rfl rfl <| WH.val (v_load1 rfl rfl one_3 (cellAt rfl)) (.none rfl) rfl rfl <| WH.nil <| ?_
        refine WRH.one (g := 4) 3 (by kernel_rfl) ?_
        refine WL.call rfl rfl ck_19 (.none rfl) rfl rfl ?_
        intro w1 hS
        refine (RNum07_c w1 (m.asn) 2 (by omega) (by omega) (by omega)).mono ?_
        rintro e w' ⟨adB, cB, EB, rfl, hVB, hS'⟩
        refine ⟨_, _, rfl, hS.join hS', ?_⟩
        refine WL.nilH (fun w hS => hS.sub (by repeat (first | exact List.Sublist.refl _ | exact List.nil_sublist _ | refine List.Sublist.cons _ ?_ | refine List.sublist_append_of_sublist_right ?_))) ?_
        refine WRH.one (g := 3) 4 (by kernel_rfl) ?_
        refine WL.to (L' := E95 ++ (EB ++ (.row g94 (u8s [4]) :: (E ++ [.row g1 m.rcells])))) (fun w hS => hS.permC (by intro c h1 h2 h3 e; simp only [h1, h2, h3] <;> omega)) ?_
        refine WL.appendL rfl rfl rfl Tryz.underlying37 Tryz.underlying37 sz_5 by_5 zero_5 rfl rfl hV95 (new := u8s (numB (m.asn) 2)) (hVB.srcE _ (by rw [u8s_len, numB_len]) (fun e he => by simp only [List.mem_append, List.mem_cons, he, true_or, or_true])) (by rw [u8s_len, numB_len]) (u8s_one _) (by omega) (.none rfl) rfl rfl ?_
        intro ad100 c100 E100 hV100 hr100
        rw [← u8s_app] at hV100
        have hk100 := hV100.toB
        rw [hk100] at hV100 ⊢
        refine WL.nilH (fun w hS => hS.sub (by repeat (first | exact List.Sublist.refl _ | exact List.nil_sublist _ | refine List.Sublist.cons _ ?_ | refine List.sublist_append_of_sublist_right ?_))) ?_
        refine WRH.one (g := 2) 7 (by kernel_rfl) ?_
        refine WL.call rfl rfl ck_19 (.none rfl) rfl rfl ?_
        intro w1 hS
        refine (RNum07_c w1 (m.hold) 2 (by omega) (by omega) (by omega)).mono ?_
        rintro e w' ⟨adC, cC, EC, rfl, hVC, hS'⟩
        refine ⟨_, _, rfl, hS.join hS', ?_⟩
        refine WL.nilH (fun w hS => hS.sub (by repeat (first | exact List.Sublist.refl _ | exact List.nil_sublist _ | refine List.Sublist.cons _ ?_ | refine List.sublist_append_of_sublist_right ?_))) ?_
        refine WRH.one (g := 1) 8 (by kernel_rfl) ?_
        refine WL.to (L' := E100 ++ (EC ++ (EB ++ (.row g94 (u8s [4]) :: (E ++ [.row g1 m.rcells]))))) (fun w hS => hS.permC (by intro c h1 h2 h3 e; simp only [h1, h2, h3] <;> omega)) ?_
        refine WL.appendL rfl rfl rfl Tryz.underlying37 Tryz.underlying37 sz_5 by_5 zero_5 rfl rfl hV100 (new := u8s (numB (m.hold) 2)) (hVC.srcE _ (by rw [u8s_len, numB_len]) (fun e he => by simp only [List.mem_append, List.mem_cons, he, true_or, or_true])) (by rw [u8s_len, numB_len]) (u8s_one _) (by omega) (.none rfl) rfl rfl ?_
        intro ad104 c104 E104 hV104 hr104
        rw [← u8s_app] at hV104
        have hk104 := hV104.toB
        rw [hk104] at hV104 ⊢
        refine WL.nilH (fun w hS => hS.sub (by repeat (first | exact List.Sublist.refl _ | exact List.nil_sublist _ | refine List.Sublist.cons _ ?_ | refine List.sublist_append_of_sublist_right ?_))) ?_
        refine WRH.first (g := 0) [9] (by kernel_rfl) (by kernel_rfl) (fun w hS => hS.sub (by repeat (first | exact List.Sublist.refl _ | exact List.nil_sublist _ | refine List.Sublist.cons _ ?_ | refine List.sublist_append_of_sublist_right ?_))) ?_
        refine WH.val (v_assign rfl rfl) (.none rfl) rfl rfl <| WH.nil <| ?_
        refine WRH.done (by kernel_rfl) ?_
        exact WE.mid ⟨0, ad104, c104, _, E104⟩ ⟨rfl, hV104⟩ (.cons rfl (.cons rfl (.cons rfl .nil))) (List.Sublist.append_left (List.sublist_append_of_sublist_right (List.sublist_append_of_sublist_right (.cons _ (.refl _)))) _)
       ·
        rintro ⟨_, ad2, c2, xs2, E2⟩ ⟨hx2, hV2⟩
        dsimp only at hx2 hV2
        subst hx2
        dsimp only
        have hl5 : ([4] ++ numB m.asn 2 ++ numB m.hold 2).length = 5 := (by rw [List.length_append, List.length_append, numB_len, numB_len]; rfl)
        refine WC.seq <| WC.region <| WL.v (v_move rfl rfl) rfl <| WL.v (v_fieldAddr0 rfl rfl fld_51_3) rfl <| WL.v (v_load1 rfl rfl one_22 (cellAt rfl)) rfl <| ?_
        refine WL.v (v_conv rfl rfl Tryz.underlying3 Tryz.underlying22 (w_i64 (by omega) (by omega))) rfl ?_
        refine WL.call rfl rfl ck_19 (.none rfl) rfl rfl ?_
        intro w1 hS
        refine (RNum07_c w1 (m.id) 4 (by omega) (by omega) (by omega)).mono ?_
        rintro e w' ⟨adD, cD, ED, rfl, hVD, hS'⟩
        refine ⟨_, _, rfl, hS.join hS', ?_⟩
        refine WL.to (L' := E2 ++ (ED ++ (E ++ [.row g1 m.rcells]))) (fun w hS => hS.permC (by intro c h1 h2 h3 e; simp only [h1, h2, h3] <;> omega)) ?_
        refine WL.appendL rfl rfl rfl Tryz.underlying37 Tryz.underlying37 sz_5 by_5 zero_5 rfl rfl hV2 (new := u8s (numB (m.id) 4)) (hVD.srcE _ (by rw [u8s_len, numB_len]) (fun e he => by simp only [List.mem_append, List.mem_cons, he, true_or, or_true])) (by rw [u8s_len, numB_len]) (u8s_one _) (by omega) (.none rfl) rfl rfl ?_
        intro ad110 c110 E110 hV110 hr110
        rw [← u8s_app] at hV110
        have hk110 := hV110.toB
        rw [hk110] at hV110 ⊢
        have h9 : ([4] ++ numB m.asn 2 ++ numB m.hold 2 ++ numB m.id 4).length = 9 := (by rw [List.length_append, hl5, numB_len])
        refine WL.v (v_assign rfl rfl) rfl <| WL.nt <| WC.seq <| WC.region <| WL.v (v_move rfl rfl) rfl <| WL.v (v_len_slice rfl rfl Tryz.underlying37) rfl <| ?_
        refine WL.test (v_gtr rfl rfl rfl) (.none rfl) rfl rfl (fun h113 => ?_) (fun h113 => ?_)
        ·
         refine WL.nt <| WC.cond_t rfl <| WC.seq <| WC.region <| WL.v (v_move rfl rfl) rfl <| WL.v (v_move rfl rfl) rfl <| WL.v (v_len_slice rfl rfl Tryz.underlying37) rfl <| ?_
         refine WL.v (v_add rfl rfl rfl (show _ = ((2 + ys.length : Nat) : Int) from (w_i64 (by omega) (by omega)).trans (by omega))) rfl ?_
         refine WL.v (v_conv rfl rfl Tryz.underlying5 Tryz.underlying3 (w_u8m _)) rfl <| WL.v (v_move rfl rfl) rfl <| WL.v (v_len_slice rfl rfl Tryz.underlying37) rfl <| WL.v (v_conv rfl rfl Tryz.underlying5 Tryz.underlying3 (w_u8m _)) rfl <| ?_
         refine WL.buildSlice rfl rfl Tryz.underlying37 sz_5 zero_5 rfl (by decide) rfl (.none rfl) rfl rfl ?_
         intro g122 hg122
         refine WL.as (L' := .row g122 (u8s [((2 + ys.length : Nat) : Int) % 256, 2, (ys.length : Int) % 256]) :: (E110 ++ (ED ++ (E ++ [.row g1 m.rcells])))) rfl ?_
         refine WL.to (L' := E110 ++ (.row g122 (u8s [((2 + ys.length : Nat) : Int) % 256, 2, (ys.length : Int) % 256]) :: (ED ++ (E ++ [.row g1 m.rcells])))) (fun w hS => hS.permC (by intro c h1 h2 h3 e; simp only [h1, h2, h3] <;> omega)) ?_
         refine WL.appendL rfl rfl rfl Tryz.underlying37 Tryz.underlying37 sz_5 by_5 zero_5 rfl rfl hV110 (new := u8s [((2 + ys.length : Nat) : Int) % 256, 2, (ys.length : Int) % 256]) (fun _ => ⟨g122, 0, rfl, fun w hS => allAt (g := g122) w hS⟩) rfl (u8s_one _) (by omega) (.none rfl) rfl rfl ?_
         intro ad123 c123 E123 hV123 hr123
         refine WL.v (v_assign rfl rfl) rfl <| WL.nt <| WC.region <| WL.v (v_move rfl rfl) rfl <| WL.v (v_move rfl rfl) rfl <| ?_
         refine WL.appendL rfl rfl rfl Tryz.underlying37 Tryz.underlying37 sz_5 by_5 zero_5 rfl rfl hV123 (new := u8s (ys)) (hV.srcE _ (by rw [u8s_len]) (fun e he => by simp only [List.mem_append, List.mem_cons, he, true_or, or_true])) (by rw [u8s_len, Nat.mul_one]) (u8s_one _) (by omega) (.none rfl) rfl rfl ?_
         intro ad126 c126 E126 hV126 hr126
         rw [← u8s_app, ← u8s_app] at hV126
         have hk126 := hV126.toB
         rw [hk126] at hV126 ⊢
         refine WL.v (v_assign rfl rfl) rfl <| WL.nil <| WE.block_n <| ?_
         have hb1 : bodC m = 0 := (by
           unfold bodC; rw [if_pos h19]; unfold openC
           rw [hb, hall, if_neg (show ¬ 253 < (capsE m.caps).length by rw [← hy']; omega)]; rfl)
         exact WE.mid ⟨0, ad126, c126, _, E126⟩ ⟨by dsimp only; unfold bodB openB; rw [if_pos h19, if_neg (by rw [← hy']; omega), addrB4, ← hy', List.append_assoc _ _ ys]; rfl, hV126, .inl hb1, by dsimp only; rw [← hk126]; omega, by omega, by omega⟩ (.cons rfl (.cons rfl .nil)) (List.Sublist.append_left (.cons _ (List.sublist_append_of_sublist_right (List.sublist_append_right _ _))) _)
        ·
         refine WL.nt <| WC.cond_f rfl <| WC.region <| WL.v (v_move rfl rfl) rfl <| ?_
         refine WL.buildSlice rfl rfl Tryz.underlying37 sz_5 zero_5 rfl (by decide) rfl (.none rfl) rfl rfl ?_
         intro g128 hg128
         refine WL.as (L' := .row g128 (u8s [0]) :: (E110 ++ (ED ++ (E ++ [.row g1 m.rcells])))) rfl ?_
         refine WL.to (L' := E110 ++ (.row g128 (u8s [0]) :: (ED ++ (E ++ [.row g1 m.rcells])))) (fun w hS => hS.permC (by intro c h1 h2 h3 e; simp only [h1, h2, h3] <;> omega)) ?_
         refine WL.appendL rfl rfl rfl Tryz.underlying37 Tryz.underlying37 sz_5 by_5 zero_5 rfl rfl hV110 (new := u8s [0]) (fun _ => ⟨g128, 0, rfl, fun w hS => allAt (g := g128) w hS⟩) rfl (u8s_one _) (by omega) (.none rfl) rfl rfl ?_
         intro ad129 c129 E129 hV129 hr129
         rw [← u8s_app] at hV129
         have hk129 := hV129.toB
         rw [hk129] at hV129 ⊢
         refine WL.v (v_assign rfl rfl) rfl <| WL.nil <| WE.block_n <| ?_
         have hb1 : bodC m = 0 := (by
           unfold bodC; rw [if_pos h19]; unfold openC
           rw [hb, hall, if_neg (show ¬ 253 < (capsE m.caps).length by rw [← hy']; omega)]; rfl)
         exact WE.mid ⟨0, ad129, c129, _, E129⟩ ⟨by dsimp only; unfold bodB openB; rw [if_pos h19, if_pos (by rw [← hy']; omega), addrB4], hV129, .inl hb1, by dsimp only; rw [← hk129]; omega, by omega, by omega⟩ (.cons rfl (.cons rfl .nil)) (List.Sublist.append_left (.cons _ (List.sublist_append_of_sublist_right (List.sublist_append_right _ _))) _)
   ·
    refine WL.v (v_assign rfl rfl) rfl <| WL.nt <| WC.cond_f rfl <| WC.seq <| WC.region <| ?_
    refine WL.test (v_eql rfl rfl rfl) (.none rfl) rfl rfl (fun h131 => ?_) (fun h131 => ?_)
    ·
     refine WL.v (v_assign rfl rfl) rfl <| WL.nt <| WC.cond_t rfl <| WC.seq <| WC.seq <| WC.region <| WL.v (v_fieldAddr0 rfl rfl fld_51_5) rfl <| WL.v (v_load1 rfl rfl one_44 (cellAt rfl)) rfl <| WL.v (v_len_slice rfl rfl Tryz.underlying44) rfl <| ?_
     refine WL.test (v_gtr rfl rfl rfl) (.none rfl) rfl rfl (fun h135 => ?_) (fun h135 => ?_)
     ·
      refine WL.v (v_move rfl rfl) rfl ?_
      iterate 4 refine WL.sk rfl ?_
      refine WL.v (v_pick_t rfl rfl rfl) rfl <| WL.nt <| WC.cond_t rfl <| WC.seq <| WC.region <| WL.v (v_assign rfl rfl) rfl <| WL.v (v_assign rfl rfl) rfl <| WL.nt <| WC.ret <| WE.then_ret <| ?_
      refine WE.block_ret <| WE.then_ret <| WE.ret2 (P := Tryz.prog) (.inl rfl) Tryz.results7 rfl rfl <| ?_
      have hb : bodC m = 3 := (by unfold bodC; rw [if_neg h19, if_pos h131]; unfold updC; rw [if_pos (by omega)])
      exact fun w' h => ResB.bad (msgC_of hb (by decide)) (by decide) h
     ·
      refine WL.v (v_move rfl rfl) rfl <| WL.val (v_fieldAddr0 rfl rfl fld_51_7) (.some rfl rfl rfl) rfl rfl <| WL.val (v_load1 rfl rfl one_44 (cellAt rfl)) (.some rfl rfl rfl) rfl rfl <| WL.val (v_len_slice rfl rfl Tryz.underlying44) (.some rfl rfl rfl) rfl rfl <| ?_
      refine WL.test (v_gtr rfl rfl rfl) (.some rfl rfl rfl) rfl rfl (fun h140 => ?_) (fun h140 => ?_)
      ·
       refine WL.v (v_pick_f rfl rfl rfl) rfl <| WL.nt <| WC.cond_t rfl <| WC.seq <| WC.region <| WL.v (v_assign rfl rfl) rfl <| WL.v (v_assign rfl rfl) rfl <| WL.nt <| WC.ret <| WE.then_ret <| ?_
       refine WE.block_ret <| WE.then_ret <| WE.ret2 (P := Tryz.prog) (.inl rfl) Tryz.results7 rfl rfl <| ?_
       have hb : bodC m = 3 := (by unfold bodC; rw [if_neg h19, if_pos h131]; unfold updC; rw [if_pos (by omega)])
       exact fun w' h => ResB.bad (msgC_of hb (by decide)) (by decide) h
      ·
       refine WL.v (v_pick_f rfl rfl rfl) rfl <| WL.nt <| WC.cond_f rfl <| WC.skip <| WE.then_n <| WC.seq <| WC.seq <| WC.held ([.row g1 m.rcells]) mixed <| ?_
       refine WRH.first (g := 4) [1, 2, 4, 5, 8] (by kernel_rfl) (by kernel_rfl) (fun w hS => hS.sub (by repeat (first | exact List.Sublist.refl _ | exact List.nil_sublist _ | refine List.Sublist.cons _ ?_ | refine List.sublist_append_of_sublist_right ?_))) ?_
       refine WH.val (v_fieldAddr0 rfl rfl fld_51_5) (.none rfl) rfl rfl <| WH.val (v_load1 rfl rfl one_44 (cellAt rfl)) (.none rfl) rfl rfl <| WH.val (v_fieldAddr0 rfl rfl fld_51_7) (.none rfl) rfl rfl <| WH.val (v_load1 rfl rfl one_44 (cellAt rfl)) (.none rfl) rfl rfl <| WH.val (v_move rfl rfl) (.none rfl) rfl rfl <| WH.nil <| ?_
       refine WRH.one (g := 3) 0 (by kernel_rfl) ?_
       refine WL.buildSlice rfl rfl Tryz.underlying44 sz_71 zero_71 rfl (by decide) rfl (.none rfl) rfl rfl ?_
       intro g142 hg142
       refine WL.as (L' := [.row g142 []] ++ (.row g15 [] :: [.row g1 m.rcells])) rfl ?_
       refine WL.nilH (fun w hS => hS.sub (by repeat (first | exact List.Sublist.refl _ | exact List.nil_sublist _ | refine List.Sublist.cons _ ?_ | refine List.sublist_append_of_sublist_right ?_))) ?_
       refine WRH.one (g := 2) 3 (by kernel_rfl) ?_
       refine WL.appendL rfl rfl rfl Tryz.underlying44 Tryz.underlying44 sz_71 by_71 zero_71 rfl rfl (show Vec 2 (some ⟨g142, 0, none⟩) 0 0 [] [.row g142 []] from Vec.row (k := 0) rfl rfl (Nat.le_refl _)) (new := pfsL m.gone) (fun h => by obtain ⟨b', o', e, hr'⟩ := hM.gone.flat (fun _ => rfl) h; exact ⟨b', o', e, rgIn (fun h => h) hr'⟩) (pfsL_len _) (pfsL_one _) (by omega) (.none rfl) rfl rfl ?_
       intro ad145 c145 E145 hV145 hr145
       refine WL.nilH (fun w hS => hS.sub (by repeat (first | exact List.Sublist.refl _ | exact List.nil_sublist _ | refine List.Sublist.cons _ ?_ | refine List.sublist_append_of_sublist_right ?_))) ?_
       refine WRH.one (g := 1) 6 (by kernel_rfl) ?_
       refine WL.appendL rfl rfl rfl Tryz.underlying44 Tryz.underlying44 sz_71 by_71 zero_71 rfl rfl hV145 (new := pfsL m.nets) (fun h => by obtain ⟨b', o', e, hr'⟩ := hM.nets.flat (fun _ => rfl) h; exact ⟨b', o', e, rgIn (fun h => h) hr'⟩) (pfsL_len _) (pfsL_one _) (by omega) (.none rfl) rfl rfl ?_
       intro ad148 c148 E148 hV148 hr148
       rw [List.nil_append] at hV148
       have ep : pfsL m.gone ++ pfsL m.nets = pfsL (m.gone ++ m.nets) := (by unfold pfsL; rw [List.flatMap_append])
       have en : 0 + m.gone.length + m.nets.length = (m.gone ++ m.nets).length := (by rw [List.length_append, Nat.zero_add])
       rw [ep, en] at hV148
       rw [en]
       have hlen : (m.gone ++ m.nets).length ≤ 400 := (by rw [List.length_append]; omega)
       refine WL.nilH (fun w hS => hS.sub (by repeat (first | exact List.Sublist.refl _ | exact List.nil_sublist _ | refine List.Sublist.cons _ ?_ | refine List.sublist_append_of_sublist_right ?_))) ?_
       refine WRH.first (g := 0) [7] (by kernel_rfl) (by kernel_rfl) (fun w hS => hS.sub (by repeat (first | exact List.Sublist.refl _ | exact List.nil_sublist _ | refine List.Sublist.cons _ ?_ | refine List.sublist_append_of_sublist_right ?_))) ?_
       refine WH.val (v_len_slice rfl rfl Tryz.underlying44) (.none rfl) rfl rfl <| WH.nil <| ?_
       refine WRH.done (by kernel_rfl) ?_
       refine WE.then_n <| WC.block <| WC.loop (fun k : Nat => [(150, .int .i64 k), (149, .int .i64 (m.gone ++ m.nets).length), (148, .slice ad148 (m.gone ++ m.nets).length c148), (4, .slice (some ⟨g15, 0, none⟩) 0 0), (1, .pointer (some ⟨g1, 0, none⟩))]) (fun _ => E148 ++ (.row g15 [] :: [.row g1 m.rcells])) (fun k => k ≤ (m.gone ++ m.nets).length ∧ ∀ j p, j < k → (m.gone ++ m.nets)[j]? = some p → pfOk p = true) (fun k => (m.gone ++ m.nets).length - k) 0 ⟨Nat.zero_le _, fun j _ h => absurd h (Nat.not_lt_zero _)⟩ (.cons rfl (.cons rfl (.cons rfl (.cons rfl (.cons rfl .nil))))) (.refl _) <| ?_
       rintro k ⟨hk, hok⟩
       refine WC.seq <| WC.region <| ?_
       refine WL.test (v_lss rfl rfl rfl) (.none rfl) rfl rfl (fun h151 => ?_) (fun h151 => ?_)
       ·
        refine WL.nt <| WC.seq <| WC.cond_t rfl <| WC.skip <| WE.then_n <| WC.seq <| WC.block <| WC.seq <| WC.region <| ?_
        obtain ⟨p, hp⟩ : ∃ p, (m.gone ++ m.nets)[k]? = some p := ⟨(m.gone ++ m.nets)[k]'(by omega), List.getElem?_eq_getElem _⟩
        obtain ⟨b1, o1, ea1, r1⟩ := hV148.src2 (by rw [pfsL_len]; omega)
        have hpu : U32 p.addr := (by
          rcases List.mem_append.1 (List.mem_of_getElem? hp) with h | h
          · exact (hI.gone p h).1
          · exact (hI.nets p h).1)
        refine WL.v ((v_indexAddr (b := b1) (off := o1) (lo := k) rfl (by show some (Value.slice ad148 _ _) = _; rw [ea1]) rfl Tryz.underlying44 sz_71 rfl (by omega))) rfl ?_
        refine WL.v ((v_loadN (cs := p.cells) rfl rfl many_71 rfl (fun w hS => seg_at (s := 2) (r1 w fun e he => hS.holds e (by simp only [List.mem_append, List.mem_cons, he, true_or, or_true])) (fun _ => rfl) hp))) rfl ?_
        refine WL.alloc rfl zero_71 (.none rfl) rfl rfl ?_
        intro g9 hg9
        refine WL.storeW rfl rfl rfl rfl many_71 rfl rfl (.none rfl) rfl <| WL.as (L' := .row g9 p.cells :: (E148 ++ (.row g15 [] :: [.row g1 m.rcells]))) rfl <| WL.nt <| WC.seq <| WC.region <| WL.v (v_fieldAddr0 rfl rfl fld_71_0) rfl <| WL.v (v_load1 rfl rfl one_22 (cellAt (v := .int .u32 p.addr) rfl)) rfl <| WL.v (v_fieldAddr0 rfl rfl fld_71_1) rfl <| WL.v (v_load1 rfl rfl one_3 (cellAt (v := .int .i64 p.len) rfl)) rfl <| WL.call rfl rfl ck_20 (.none rfl) rfl rfl <| ?_
        intro w hS
        refine Calls.then (RRight01_c w p hpu) hS ?_
        generalize hpk : pfOk p = b158
        cases b158
        ·
         refine WL.v (v_not rfl rfl rfl) rfl <| WL.nt <| WC.cond_t rfl <| WC.seq <| WC.region <| WL.v (v_assign rfl rfl) rfl <| WL.v (v_assign rfl rfl) rfl <| WL.nt <| WC.ret <| WE.block_ret <| ?_
         refine WE.then_ret <| WE.then_ret <| WE.block_ret <| WE.then_ret <| WE.block_ret <| WE.then_ret <| WE.ret2 (P := Tryz.prog) (.inl rfl) Tryz.results7 rfl rfl <| ?_
         have hb : bodC m = 1 := (by
           have hbn : badN m = true := by
             unfold badN
             rcases List.mem_append.1 (List.mem_of_getElem? hp) with h | h
             · rw [show m.gone.all pfOk = false from List.all_eq_false.2 ⟨p, h, by rw [hpk]; decide⟩]; rfl
             · rw [show m.nets.all pfOk = false from List.all_eq_false.2 ⟨p, h, by rw [hpk]; decide⟩, Bool.not_false, Bool.or_true, Bool.true_or]
           unfold bodC; rw [if_neg h19, if_pos h131]; unfold updC; rw [if_neg (by omega), hbn]; rfl)
         exact fun w' h => ResB.bad (msgC_of hb (by decide)) (by decide) h
        ·
         refine WL.v (v_not rfl rfl rfl) rfl <| WL.nt <| WC.cond_f rfl <| WC.skip <| WE.block_n <| WE.then_n <| WC.region <| ?_
         refine WL.v (v_add rfl rfl rfl (show _ = ((k + 1 : Nat) : Int) from (w_i64 (by omega) (by omega)).trans (by omega))) rfl ?_
         refine WL.v (v_move rfl rfl) rfl <| WL.nil <| ?_
         exact WE.next (k + 1) (by omega) ⟨by omega, fun j p' hj hjp => by
         by_cases e : j = k
         · subst e; rw [hp] at hjp; obtain rfl := Option.some.inj hjp; exact hpk
         · exact hok j p' (by omega) hjp⟩ (.cons rfl (.cons rfl (.cons rfl (.cons rfl (.cons rfl .nil))))) (.cons _ (.refl _))
       ·
        refine WL.nt <| WC.seq <| WC.cond_f rfl <| WC.exit <| WE.then_exit <| WE.then_exit <| WE.block_hit <| WE.then_n <| ?_
        refine WC.cut (fun _ : Unit => [(4, .slice (some ⟨g15, 0, none⟩) 0 0), (1, .pointer (some ⟨g1, 0, none⟩))]) (fun _ => .row g15 [] :: [.row g1 m.rcells]) (fun _ => bodC m = encE m.atr ∧ m.gone.all pfOk = true ∧ m.nets.all pfOk = true ∧ m.gone.length ≤ 200 ∧ m.nets.length ≤ 200) ?_ ?_
        ·
         refine WC.seq <| WC.region <| ?_
         obtain rfl : k = (m.gone ++ m.nets).length := (by omega)
         have hgn : (m.gone ++ m.nets).all pfOk = true := all_of fun j x hj hx => hok j x (by omega) hx
         rw [List.all_append, Bool.and_eq_true] at hgn
         obtain ⟨hgo, hne⟩ := hgn
         refine WL.v (v_fieldAddr0 rfl rfl fld_51_7) rfl <| WL.v (v_load1 rfl rfl one_44 (cellAt rfl)) rfl <| WL.v (v_len_slice rfl rfl Tryz.underlying44) rfl <| ?_
         refine WL.test (v_gtr rfl rfl rfl) (.none rfl) rfl rfl (fun h164 => ?_) (fun h164 => ?_)
         ·
          refine WL.v (v_move rfl rfl) rfl <| WL.val (v_fieldAddr0 rfl rfl fld_51_6) (.some rfl rfl rfl) rfl rfl <| WL.val (v_loadN rfl rfl many_48 rfl (segAt (m := 10) rfl)) (.some rfl rfl rfl) rfl rfl <| WL.call rfl rfl ck_21 (.some rfl rfl rfl) rfl rfl <| ?_
          intro w1 hS
          refine (RMiss_u w1 m.atr hI.at_.has).mono ?_
          rintro e w' ⟨xm, rfl, hF, hx0, hxm⟩
          refine ⟨_, _, rfl, hS.ext hF, ?_⟩
          refine WL.test (v_gtr rfl rfl rfl) (.some rfl rfl rfl) rfl rfl (fun h169 => ?_) (fun h169 => ?_)
          ·
           refine WL.v (v_pick_t rfl rfl rfl) rfl <| WL.nt <| WC.cond_t rfl <| WC.seq <| WC.region <| WL.v (v_assign rfl rfl) rfl <| WL.v (v_assign rfl rfl) rfl <| WL.nt <| WC.ret <| WE.then_ret <| ?_
           refine WE.block_ret <| WE.then_ret <| WE.ret2 (P := Tryz.prog) (.inl rfl) Tryz.results7 rfl rfl <| ?_
           have hb : bodC m = 1 := (by
             unfold bodC; rw [if_neg h19, if_pos h131]; unfold updC; rw [if_neg (by omega)]
             by_cases hr : 0 ≤ m.atr.has ∧ m.atr.has ≤ 511
             · have hm := hxm hr
               have : badN m = true := by unfold badN; rw [decide_eq_true ⟨by omega, by omega⟩, Bool.or_true]
               rw [this]; rfl
             · rw [encE_out hr]; split <;> rfl)
           exact fun w' h => ResB.bad (msgC_of hb (by decide)) (by decide) h
          ·
           refine WL.v (v_pick_t rfl rfl rfl) rfl <| WL.nt <| WC.cond_f rfl <| WC.skip <| ?_
           have hb : bodC m = encE m.atr := (by
             unfold bodC; rw [if_neg h19, if_pos h131]; unfold updC; rw [if_neg (by omega)]
             by_cases hr : 0 ≤ m.atr.has ∧ m.atr.has ≤ 511
             · have hm := hxm hr
               have : badN m = false := by unfold badN; rw [hgo, hne, decide_eq_false (by omega)]; rfl
               rw [this]; rfl
             · rw [encE_out hr]; split <;> rfl)
           exact WE.mid () ⟨hb, hgo, hne, by omega, by omega⟩ (.cons rfl (.cons rfl .nil)) (List.sublist_append_right _ _)
         ·
          refine WL.v (v_move rfl rfl) rfl ?_
          iterate 4 refine WL.sk rfl ?_
          refine WL.v (v_pick_f rfl rfl rfl) rfl <| WL.nt <| WC.cond_f rfl <| WC.skip <| ?_
          have hb : bodC m = encE m.atr := (by
            unfold bodC; rw [if_neg h19, if_pos h131]; unfold updC; rw [if_neg (by omega)]
            have : badN m = false := by unfold badN; rw [hgo, hne, decide_eq_false (by omega)]; rfl
            rw [this]; rfl)
          exact WE.mid () ⟨hb, hgo, hne, by omega, by omega⟩ (.cons rfl (.cons rfl .nil)) (List.sublist_append_right _ _)
        ·
         rintro _ ⟨hb, hgo, hne, hgl2, hnl2⟩
         have hgl := netsE_len hgo
         have hnl := netsE_len hne
         refine WC.seq <| WC.region <| WL.v (v_fieldAddr0 rfl rfl fld_51_6) rfl <| WL.v (v_loadN rfl rfl many_48 rfl (segAt (m := 10) rfl)) rfl <| WL.call rfl rfl ck_22 (.none rfl) rfl rfl <| ?_
         intro w1 hS
         refine (REnc06_c w1 m.atr (hM.st hS).at_ hI.at_ hpl hol).mono ?_
         rintro e w' ⟨_, rfl, adA, cA, EA, rfl, hVA, hS'⟩
         refine ⟨_, _, rfl, hS.join hS', ?_⟩
         refine WL.v (v_move rfl rfl) rfl <| WL.v (v_extract rfl rfl rfl) rfl <| WL.v (v_extract rfl rfl rfl) rfl <| WL.v (v_assign rfl rfl) rfl <| WL.v (v_assign rfl rfl) rfl <| WL.nt <| WC.seq <| WC.seq <| WC.region <| WL.v (v_move rfl rfl) rfl <| ?_
         refine WL.test (v_neq rfl rfl rfl) (.none rfl) rfl rfl (fun h178 => ?_) (fun h178 => ?_)
         ·
          refine WL.nt <| WC.cond_t rfl <| WC.seq <| WC.region <| WL.v (v_move rfl rfl) rfl <| WL.v (v_assign rfl rfl) rfl <| WL.v (v_assign rfl rfl) rfl <| WL.nt <| WC.ret <| WE.then_ret <| ?_
          refine WE.block_ret <| WE.then_ret <| WE.ret2 (P := Tryz.prog) (.inl rfl) Tryz.results7 rfl rfl <| ?_
          exact fun w' h => ResB.bad (msgC_of hb h178) h178 h
         ·
          refine WL.nt <| WC.cond_f rfl <| WC.skip <| WE.then_n <| WC.seq <| WC.region <| WL.v (v_fieldAddr0 rfl rfl fld_51_5) rfl <| WL.v (v_load1 rfl rfl one_44 (cellAt rfl)) rfl <| ?_
          have he : encE m.atr = 0 := (by omega)
          have hal := encE_len he
          rw [if_pos he] at hVA ⊢
          refine WL.call rfl rfl ck_23 (.none rfl) rfl rfl ?_
          intro w1 hS
          refine (RList_c w1 m.gad m.gc m.gone (hM.st hS).gone (by omega) (List.all_eq_true.1 hgo) (fun p hp => (hI.gone p hp).1)).mono ?_
          rintro e w' ⟨adG, cG, EG, rfl, hVG, hS', _⟩
          refine ⟨_, _, rfl, hS.join hS', ?_⟩
          refine WL.v (v_assign rfl rfl) rfl <| WL.nt <| WC.seq <| WC.region <| WL.v (v_move rfl rfl) rfl <| WL.v (v_move rfl rfl) rfl <| WL.v (v_len_slice rfl rfl Tryz.underlying37) rfl <| WL.call rfl rfl ck_19 (.none rfl) rfl rfl <| ?_
          intro w1 hS
          refine (RNum07_c w1 (((netsE m.gone).length : Int)) 2 (by omega) (by omega) (by omega)).mono ?_
          rintro e w' ⟨adN, cN, EN, rfl, hVN, hS'⟩
          refine ⟨_, _, rfl, hS.join hS', ?_⟩
          refine WL.to (L' := [.row g15 []] ++ (EN ++ (EG ++ (EA ++ [.row g1 m.rcells])))) (fun w hS => hS.permC (by intro c h1 h2 h3 e; simp only [h1, h2, h3] <;> omega)) ?_
          refine WL.appendL rfl rfl rfl Tryz.underlying37 Tryz.underlying37 sz_5 by_5 zero_5 rfl rfl (show BV (some ⟨g15, 0, none⟩) 0 [] [.row g15 []] from Vec.row (k := 0) rfl rfl (Nat.le_refl _)) (new := u8s (numB (((netsE m.gone).length : Int)) 2)) (hVN.srcE _ (by rw [u8s_len, numB_len]) (fun e he => by simp only [List.mem_append, List.mem_cons, he, true_or, or_true])) (by rw [u8s_len, numB_len]) (u8s_one _) (by omega) (.none rfl) rfl rfl ?_
          intro ad187 c187 E187 hV187 hr187
          rw [← u8s_app, List.nil_append] at hV187
          have hk187 := hV187.toB
          rw [hk187] at hV187 ⊢
          refine WL.v (v_move rfl rfl) rfl ?_
          have hl2 := numB_len ((netsE m.gone).length : Int) 2
          have hl3 := numB_len ((bodyA m.atr).length : Int) 2
          refine WL.appendL rfl rfl rfl Tryz.underlying37 Tryz.underlying37 sz_5 by_5 zero_5 rfl rfl hV187 (new := u8s (netsE m.gone)) (hVG.srcE _ (by rw [u8s_len]) (fun e he => by simp only [List.mem_append, List.mem_cons, he, true_or, or_true])) (by rw [u8s_len, Nat.mul_one]) (u8s_one _) (by omega) (.none rfl) rfl rfl ?_
          intro ad189 c189 E189 hV189 hr189
          rw [← u8s_app] at hV189
          have hk189 := hV189.toB
          rw [hk189] at hV189 ⊢
          refine WL.v (v_assign rfl rfl) rfl <| WL.nt <| WC.seq <| WC.region <| WL.v (v_move rfl rfl) rfl <| WL.v (v_move rfl rfl) rfl <| WL.v (v_len_slice rfl rfl Tryz.underlying37) rfl <| WL.call rfl rfl ck_19 (.none rfl) rfl rfl <| ?_
          intro w1 hS
          refine (RNum07_c w1 (((bodyA m.atr).length : Int)) 2 (by omega) (by omega) (by omega)).mono ?_
          rintro e w' ⟨adM, cM, EM, rfl, hVM, hS'⟩
          refine ⟨_, _, rfl, hS.join hS', ?_⟩
          refine WL.to (L' := E189 ++ (EM ++ (EN ++ (EG ++ (EA ++ [.row g1 m.rcells]))))) (fun w hS => hS.permC (by intro c h1 h2 h3 e; simp only [h1, h2, h3] <;> omega)) ?_
          refine WL.appendL rfl rfl rfl Tryz.underlying37 Tryz.underlying37 sz_5 by_5 zero_5 rfl rfl hV189 (new := u8s (numB (((bodyA m.atr).length : Int)) 2)) (hVM.srcE _ (by rw [u8s_len, numB_len]) (fun e he => by simp only [List.mem_append, List.mem_cons, he, true_or, or_true])) (by rw [u8s_len, numB_len]) (u8s_one _) (by simp only [List.length_append]; omega) (.none rfl) rfl rfl ?_
          intro ad194 c194 E194 hV194 hr194
          rw [← u8s_app] at hV194
          have hk194 := hV194.toB
          rw [hk194] at hV194 ⊢
          refine WL.v (v_move rfl rfl) rfl ?_
          refine WL.appendL rfl rfl rfl Tryz.underlying37 Tryz.underlying37 sz_5 by_5 zero_5 rfl rfl hV194 (new := u8s (bodyA m.atr)) (hVA.srcE _ (by rw [u8s_len]) (fun e he => by simp only [List.mem_append, List.mem_cons, he, true_or, or_true])) (by rw [u8s_len, Nat.mul_one]) (u8s_one _) (by simp only [List.length_append]; omega) (.none rfl) rfl rfl ?_
          intro ad196 c196 E196 hV196 hr196
          rw [← u8s_app] at hV196
          have hk196 := hV196.toB
          rw [hk196] at hV196 ⊢
          refine WL.v (v_assign rfl rfl) rfl <| WL.nt <| WC.region <| WL.v (v_move rfl rfl) rfl <| WL.v (v_fieldAddr0 rfl rfl fld_51_7) rfl <| WL.v (v_load1 rfl rfl one_44 (cellAt rfl)) rfl <| WL.call rfl rfl ck_23 (.none rfl) rfl rfl <| ?_
          intro w1 hS
          refine (RList_c w1 m.nad m.nc m.nets (hM.st hS).nets (by omega) (List.all_eq_true.1 hne) (fun p hp => (hI.nets p hp).1)).mono ?_
          rintro e w' ⟨adH, cH, EH, rfl, hVH, hS', _⟩
          refine ⟨_, _, rfl, hS.join hS', ?_⟩
          refine WL.to (L' := E196 ++ (EH ++ (EM ++ (EN ++ (EG ++ (EA ++ [.row g1 m.rcells])))))) (fun w hS => hS.permC (by intro c h1 h2 h3 e; simp only [h1, h2, h3] <;> omega)) ?_
          refine WL.appendL rfl rfl rfl Tryz.underlying37 Tryz.underlying37 sz_5 by_5 zero_5 rfl rfl hV196 (new := u8s (netsE m.nets)) (hVH.srcE _ (by rw [u8s_len]) (fun e he => by simp only [List.mem_append, List.mem_cons, he, true_or, or_true])) (by rw [u8s_len, Nat.mul_one]) (u8s_one _) (by simp only [List.length_append]; omega) (.none rfl) rfl rfl ?_
          intro ad201 c201 E201 hV201 hr201
          rw [← u8s_app] at hV201
          have hk201 := hV201.toB
          rw [hk201] at hV201 ⊢
          refine WL.v (v_assign rfl rfl) rfl <| WL.nil <| WE.block_n <| ?_
          exact WE.mid ⟨0, ad201, c201, _, E201⟩ ⟨by dsimp only; unfold bodB updB; rw [if_neg h19, if_pos h131], hV201, .inl (hb.trans he), by dsimp only; simp only [List.length_append]; omega, by omega, by omega⟩ (.cons rfl (.cons rfl .nil)) (List.Sublist.append_left (by repeat (first | exact List.Sublist.refl _ | refine List.sublist_append_of_sublist_right ?_)) _)
    ·
     refine WL.v (v_assign rfl rfl) rfl <| WL.nt <| WC.cond_f rfl <| WC.seq <| WC.region <| ?_
     refine WL.test (v_eql rfl rfl rfl) (.none rfl) rfl rfl (fun h203 => ?_) (fun h203 => ?_)
     ·
      refine WL.v (v_assign rfl rfl) rfl <| WL.nt <| WC.cond_t rfl <| WC.seq <| WC.seq <| WC.region <| WL.v (v_fieldAddr0 rfl rfl fld_51_8) rfl <| WL.v (v_fieldAddr rfl rfl fld_49_0) rfl <| WL.v (v_load1 rfl rfl one_3 (cellAt rfl)) rfl <| ?_
      refine WL.test (v_lss rfl rfl rfl) (.none rfl) rfl rfl (fun h207 => ?_) (fun h207 => ?_)
      ·
       refine WL.v (v_move rfl rfl) rfl ?_
       iterate 4 refine WL.sk rfl ?_
       refine WL.v (v_pick_t rfl rfl rfl) rfl <| WL.v (v_move rfl rfl) rfl <| ?_
       iterate 4 refine WL.sk rfl ?_
       refine WL.v (v_pick_t rfl rfl rfl) rfl <| WL.v (v_move rfl rfl) rfl <| ?_
       iterate 4 refine WL.sk rfl ?_
       refine WL.v (v_pick_t rfl rfl rfl) rfl <| WL.nt <| WC.cond_t rfl <| WC.seq <| WC.region <| WL.v (v_assign rfl rfl) rfl <| WL.v (v_assign rfl rfl) rfl <| WL.nt <| WC.ret <| WE.then_ret <| ?_
       refine WE.block_ret <| WE.then_ret <| WE.ret2 (P := Tryz.prog) (.inl rfl) Tryz.results7 rfl rfl <| ?_
       have hb : bodC m = 1 := (by unfold bodC; rw [if_neg h19, if_neg h131, if_pos h203]; unfold noteC; rw [if_pos (by omega)])
       exact fun w' h => ResB.bad (msgC_of hb (by decide)) (by decide) h
      ·
       refine WL.v (v_move rfl rfl) rfl <| WL.val (v_fieldAddr0 rfl rfl fld_51_8) (.some rfl rfl rfl) rfl rfl <| WL.val (v_fieldAddr rfl rfl fld_49_0) (.some rfl rfl rfl) rfl rfl <| WL.val (v_load1 rfl rfl one_3 (cellAt rfl)) (.some rfl rfl rfl) rfl rfl <| ?_
       refine WL.test (v_gtr rfl rfl rfl) (.some rfl rfl rfl) rfl rfl (fun h212 => ?_) (fun h212 => ?_)
       ·
        refine WL.v (v_pick_f rfl rfl rfl) rfl <| WL.v (v_move rfl rfl) rfl <| ?_
        iterate 4 refine WL.sk rfl ?_
        refine WL.v (v_pick_t rfl rfl rfl) rfl <| WL.v (v_move rfl rfl) rfl <| ?_
        iterate 4 refine WL.sk rfl ?_
        refine WL.v (v_pick_t rfl rfl rfl) rfl <| WL.nt <| WC.cond_t rfl <| WC.seq <| WC.region <| WL.v (v_assign rfl rfl) rfl <| WL.v (v_assign rfl rfl) rfl <| WL.nt <| WC.ret <| WE.then_ret <| ?_
        refine WE.block_ret <| WE.then_ret <| WE.ret2 (P := Tryz.prog) (.inl rfl) Tryz.results7 rfl rfl <| ?_
        have hb : bodC m = 1 := (by unfold bodC; rw [if_neg h19, if_neg h131, if_pos h203]; unfold noteC; rw [if_pos (by omega)])
        exact fun w' h => ResB.bad (msgC_of hb (by decide)) (by decide) h
       ·
        refine WL.v (v_pick_f rfl rfl rfl) rfl <| WL.v (v_move rfl rfl) rfl <| WL.val (v_fieldAddr0 rfl rfl fld_51_8) (.some rfl rfl rfl) rfl rfl <| WL.val (v_fieldAddr rfl rfl fld_49_1) (.some rfl rfl rfl) rfl rfl <| WL.val (v_load1 rfl rfl one_3 (cellAt rfl)) (.some rfl rfl rfl) rfl rfl <| ?_
        refine WL.test (v_lss rfl rfl rfl) (.some rfl rfl rfl) rfl rfl (fun h218 => ?_) (fun h218 => ?_)
        ·
         refine WL.v (v_pick_f rfl rfl rfl) rfl <| WL.v (v_move rfl rfl) rfl <| ?_
         iterate 4 refine WL.sk rfl ?_
         refine WL.v (v_pick_t rfl rfl rfl) rfl <| WL.nt <| WC.cond_t rfl <| WC.seq <| WC.region <| WL.v (v_assign rfl rfl) rfl <| WL.v (v_assign rfl rfl) rfl <| WL.nt <| WC.ret <| WE.then_ret <| ?_
         refine WE.block_ret <| WE.then_ret <| WE.ret2 (P := Tryz.prog) (.inl rfl) Tryz.results7 rfl rfl <| ?_
         have hb : bodC m = 1 := (by unfold bodC; rw [if_neg h19, if_neg h131, if_pos h203]; unfold noteC; rw [if_pos (by omega)])
         exact fun w' h => ResB.bad (msgC_of hb (by decide)) (by decide) h
        ·
         refine WL.v (v_pick_f rfl rfl rfl) rfl <| WL.v (v_move rfl rfl) rfl <| WL.val (v_fieldAddr0 rfl rfl fld_51_8) (.some rfl rfl rfl) rfl rfl <| WL.val (v_fieldAddr rfl rfl fld_49_1) (.some rfl rfl rfl) rfl rfl <| WL.val (v_load1 rfl rfl one_3 (cellAt rfl)) (.some rfl rfl rfl) rfl rfl <| ?_
         refine WL.test (v_gtr rfl rfl rfl) (.some rfl rfl rfl) rfl rfl (fun h224 => ?_) (fun h224 => ?_)
         ·
          refine WL.v (v_pick_f rfl rfl rfl) rfl <| WL.nt <| WC.cond_t rfl <| WC.seq <| WC.region <| WL.v (v_assign rfl rfl) rfl <| WL.v (v_assign rfl rfl) rfl <| WL.nt <| WC.ret <| WE.then_ret <| ?_
          refine WE.block_ret <| WE.then_ret <| WE.ret2 (P := Tryz.prog) (.inl rfl) Tryz.results7 rfl rfl <| ?_
          have hb : bodC m = 1 := (by unfold bodC; rw [if_neg h19, if_neg h131, if_pos h203]; unfold noteC; rw [if_pos (by omega)])
          exact fun w' h => ResB.bad (msgC_of hb (by decide)) (by decide) h
         ·
          refine WL.v (v_pick_f rfl rfl rfl) rfl <| WL.nt <| WC.cond_f rfl <| WC.skip <| WE.then_n <| WC.seq <| WC.region <| WL.v (v_move rfl rfl) rfl <| WL.v (v_fieldAddr0 rfl rfl fld_51_8) rfl <| WL.v (v_fieldAddr rfl rfl fld_49_0) rfl <| ?_
          refine WL.v (v_load1 rfl rfl one_3 (cellAt rfl)) rfl ?_
          refine WL.v (v_conv rfl rfl Tryz.underlying5 Tryz.underlying3 (show _ = m.fc from (w_u8m _).trans (by omega))) rfl ?_
          refine WL.v (v_fieldAddr0 rfl rfl fld_51_8) rfl <| WL.v (v_fieldAddr rfl rfl fld_49_1) rfl <| WL.v (v_load1 rfl rfl one_3 (cellAt rfl)) rfl <| ?_
          refine WL.v (v_conv rfl rfl Tryz.underlying5 Tryz.underlying3 (show _ = m.fs from (w_u8m _).trans (by omega))) rfl ?_
          refine WL.buildSlice rfl rfl Tryz.underlying37 sz_5 zero_5 rfl (by decide) rfl (.none rfl) rfl rfl ?_
          intro g235 hg235
          refine WL.as (L' := .row g235 (u8s [m.fc, m.fs]) :: .row g15 [] :: [.row g1 m.rcells]) rfl ?_
          refine WL.to (L' := [.row g15 []] ++ (.row g235 (u8s [m.fc, m.fs]) :: [.row g1 m.rcells])) (fun w hS => hS.permC (by intro c h1 h2 h3 e; simp only [h1, h2, h3] <;> omega)) ?_
          refine WL.appendL rfl rfl rfl Tryz.underlying37 Tryz.underlying37 sz_5 by_5 zero_5 rfl rfl (show BV (some ⟨g15, 0, none⟩) 0 [] [.row g15 []] from Vec.row (k := 0) rfl rfl (Nat.le_refl _)) (new := u8s [m.fc, m.fs]) (fun _ => ⟨g235, 0, rfl, fun w hS => allAt (g := g235) w hS⟩) rfl (u8s_one _) (by omega) (.none rfl) rfl rfl ?_
          intro ad236 c236 E236 hV236 hr236
          rw [← u8s_app, List.nil_append] at hV236
          have hk236 := hV236.toB
          rw [hk236] at hV236 ⊢
          refine WL.v (v_assign rfl rfl) rfl <| WL.nt <| WC.region <| WL.v (v_move rfl rfl) rfl <| WL.v (v_fieldAddr0 rfl rfl fld_51_8) rfl <| WL.v (v_fieldAddr rfl rfl fld_49_2) rfl <| WL.v (v_load1 rfl rfl one_9 (cellAt rfl)) rfl <| WL.convSB rfl rfl (rfl) (strI_cells _) Tryz.underlying9 Tryz.underlying37 Tryz.underlying5 (.none rfl) rfl rfl <| ?_
          intro g241 c241 hg241 hc241
          refine WL.to (L' := E236 ++ (.row g241 (u8s (strI m.fd) ++ List.replicate (c241 - m.fd.size) (.int .u8 0)) :: .row g235 (u8s [m.fc, m.fs]) :: [.row g1 m.rcells])) (fun w hS => hS.permC (by intro c h1 h2 h3 e; simp only [h1, h2, h3] <;> omega)) ?_
          refine WL.appendL rfl rfl rfl Tryz.underlying37 Tryz.underlying37 sz_5 by_5 zero_5 rfl rfl hV236 (new := u8s (strI m.fd)) (fun _ => ⟨g241, 0, rfl, fun w hS j v hj => allAt (g := g241) w hS j v (by rw [List.getElem?_append_left (List.getElem?_eq_some_iff.1 hj).1]; exact hj)⟩) (by rw [u8s_len, strI_len, Nat.mul_one]) (u8s_one _) (by simp only [List.length_cons, List.length_nil]; omega) (.none rfl) rfl rfl ?_
          intro ad242 c242 E242 hV242 hr242
          rw [← u8s_app] at hV242
          have hk242 := hV242.toB
          rw [hk242] at hV242 ⊢
          refine WL.v (v_assign rfl rfl) rfl <| WL.nil <| WE.block_n <| ?_
          have hsl := strI_len m.fd
          have hll : ([m.fc, m.fs] ++ strI m.fd).length = 2 + m.fd.size := (by rw [List.length_append, hsl]; rfl)
          have hb : bodC m = 0 ∨ (bodC m = 6 ∧ 4077 < ([m.fc, m.fs] ++ strI m.fd).length) := (by
            unfold bodC; rw [if_neg h19, if_neg h131, if_pos h203]; unfold noteC; rw [if_neg (by omega)]
            split
            · exact .inr ⟨rfl, by omega⟩
            · exact .inl rfl)
          exact WE.mid ⟨0, ad242, c242, _, E242⟩ ⟨by dsimp only; unfold bodB noteB; rw [if_neg h19, if_neg h131, if_pos h203], hV242, hb, by dsimp only; omega, by omega, by omega⟩ (.cons rfl (.cons rfl .nil)) (List.Sublist.append_left (.cons _ (.cons _ (.refl _))) _)
     ·
      refine WL.v (v_assign rfl rfl) rfl <| WL.nt <| WC.cond_f rfl <| WC.seq <| WC.region <| ?_
      refine WL.test (v_eql rfl rfl rfl) (.none rfl) rfl rfl (fun h244 => ?_) (fun h244 => ?_)
      ·
       refine WL.v (v_assign rfl rfl) rfl <| WL.nt <| WC.cond_t rfl <| WC.skip <| WE.block_n <| ?_
       have hb : bodC m = 0 := (by unfold bodC; rw [if_neg h19, if_neg h131, if_neg h203, if_pos h244])
       have hd : bodB m = [] := (by unfold bodB; rw [if_neg h19, if_neg h131, if_neg h203])
       exact WE.mid ⟨0, some ⟨g15, 0, none⟩, 0, [], [.row g15 []]⟩ ⟨hd.symm, Vec.row (k := 0) rfl rfl (Nat.le_refl _), .inl hb, Nat.zero_le _, by omega, by omega⟩ (.cons rfl (.cons rfl .nil)) (.refl _)
      ·
       refine WL.v (v_assign rfl rfl) rfl <| WL.nt <| WC.cond_f rfl <| WC.seq <| WC.region <| WL.v (v_assign rfl rfl) rfl <| WL.v (v_assign rfl rfl) rfl <| WL.nt <| WC.ret <| WE.block_ret <| ?_
       refine WE.then_ret <| WE.ret2 (P := Tryz.prog) (.inl rfl) Tryz.results7 rfl rfl <| ?_
       have hb : bodC m = 12 := (by unfold bodC; rw [if_neg h19, if_neg h131, if_neg h203, if_neg h244])
       exact fun w' h => ResB.bad (msgC_of hb (by decide)) (by decide) h
  ·
   rintro ⟨_, ad, c, xs, E⟩ ⟨hx, hV, hb, hxl, hk1, hk4⟩
   dsimp only at hx hV hb hxl
   dsimp only
   refine WC.seq <| WC.seq <| WC.region <| WL.v (v_move rfl rfl) rfl <| WL.v (v_len_slice rfl rfl Tryz.underlying37) rfl <| ?_
   refine WL.test (v_gtr rfl rfl rfl) (.none rfl) rfl rfl (fun h247 => ?_) (fun h247 => ?_)
   ·
    refine WL.nt <| WC.cond_t rfl <| WC.seq <| WC.region <| WL.v (v_assign rfl rfl) rfl <| WL.v (v_assign rfl rfl) rfl <| WL.nt <| WC.ret <| WE.then_ret <| WE.ret2 (P := Tryz.prog) (.inl rfl) Tryz.results7 rfl rfl <| ?_
    have hc : msgC m = 6 := (by
      rcases hb with hb | hb
      · unfold msgC; rw [if_pos hb, if_pos (by rw [← hx]; omega)]
      · exact msgC_of hb.1 (by decide))
    exact fun w' h => ResB.bad hc (by decide) h
   ·
    refine WL.nt <| WC.cond_f rfl <| WC.skip <| WE.then_n <| WC.seq <| WC.region <| ?_
    refine WL.buildSlice rfl rfl Tryz.underlying37 sz_5 zero_5 rfl (by decide) rfl (.none rfl) rfl rfl ?_
    intro g248 hg248
    refine WL.v (v_assign rfl rfl) rfl <| WL.nt <| WC.seq <| WC.seq <| WC.region <| WL.v (v_assign rfl rfl) rfl <| WL.nt <| WC.block <| WC.loop (fun y : OutS => [(14, .int .i64 y.k), (13, .slice y.ad y.xs.length y.c), (4, .slice ad xs.length c), (1, .pointer (some ⟨g1, 0, none⟩))]) (fun y => y.E ++ (E ++ [.row g1 m.rcells])) (fun y => y.k ≤ 16 ∧ y.xs = List.replicate y.k 255 ∧ BV y.ad y.c y.xs y.E) (fun y => 16 - y.k) ⟨0, some ⟨g248, 0, none⟩, 0, [], [.row g248 []]⟩ ⟨Nat.zero_le _, rfl, Vec.row (k := 0) rfl rfl (Nat.le_refl _)⟩ (.cons rfl (.cons rfl (.cons rfl (.cons rfl .nil)))) (.refl _) <| ?_
    rintro ⟨k, adF, cF, fs, EF⟩ ⟨hk, hfs, hVF⟩
    dsimp only at hk hfs hVF
    dsimp only
    have hfl2 : fs.length = k := (by rw [hfs, List.length_replicate])
    refine WC.seq <| WC.seq <| WC.region <| WL.v (v_move rfl rfl) rfl <| ?_
    refine WL.test (v_lss rfl rfl rfl) (.none rfl) rfl rfl (fun h250 => ?_) (fun h250 => ?_)
    ·
     refine WL.nt <| WC.cond_t rfl <| WC.skip <| WE.then_n <| WC.seq <| WC.block <| WC.region <| WL.v (v_move rfl rfl) rfl <| ?_
     refine WL.buildSlice rfl rfl Tryz.underlying37 sz_5 zero_5 rfl (by decide) rfl (.none rfl) rfl rfl ?_
     intro g254 hg254
     refine WL.as (L' := .row g254 (u8s [255]) :: (EF ++ (E ++ [.row g1 m.rcells]))) rfl ?_
     refine WL.to (L' := EF ++ (.row g254 (u8s [255]) :: (E ++ [.row g1 m.rcells]))) (fun w hS => hS.permC (by intro c h1 h2 h3 e; simp only [h1, h2, h3] <;> omega)) ?_
     refine WL.appendL rfl rfl rfl Tryz.underlying37 Tryz.underlying37 sz_5 by_5 zero_5 rfl rfl hVF (new := u8s [255]) (fun _ => ⟨g254, 0, rfl, fun w hS => allAt (g := g254) w hS⟩) rfl (u8s_one _) (by omega) (.none rfl) rfl rfl ?_
     intro ad255 c255 E255 hV255 hr255
     rw [← u8s_app] at hV255
     have hk255 := hV255.toB
     rw [hk255] at hV255 ⊢
     refine WL.v (v_assign rfl rfl) rfl <| WL.nil <| WE.block_n <| WE.then_n <| WC.region <| WL.v (v_move rfl rfl) rfl <| ?_
     refine WL.v (v_add rfl rfl rfl (show _ = ((k + 1 : Nat) : Int) from (w_i64 (by omega) (by omega)).trans (by omega))) rfl ?_
     refine WL.v (v_assign rfl rfl) rfl <| WL.nil <| ?_
     exact WE.next ⟨k + 1, ad255, c255, _, E255⟩ (by dsimp only; omega) ⟨by dsimp only; omega, by dsimp only; rw [hfs, List.replicate_succ'], hV255⟩ (.cons rfl (.cons rfl (.cons rfl (.cons rfl .nil)))) (List.Sublist.append_left (.cons _ (.refl _)) _)
    ·
     refine WL.nt <| WC.cond_f rfl <| WC.exit <| WE.then_exit <| WE.then_exit <| WE.block_hit <| WE.then_n <| ?_
     refine WC.cut (fun y : OutS => [(13, .slice y.ad y.xs.length y.c), (4, .slice ad xs.length c)]) (fun y => y.E ++ (E ++ [.row g1 m.rcells])) (fun y => y.xs = List.replicate 16 255 ++ numB ((19 + xs.length : Nat) : Int) 2 ++ [m.kind] ∧ BV y.ad y.c y.xs y.E) ?_ ?_
     ·
      refine WC.held ([.row g1 m.rcells]) mixed ?_
      refine WRH.first (g := 5) [0, 1, 2, 3, 6, 7, 8] (by kernel_rfl) (by kernel_rfl) (fun w hS => hS.sub (by repeat (first | exact List.Sublist.refl _ | exact List.nil_sublist _ | refine List.Sublist.cons _ ?_ | refine List.sublist_append_of_sublist_right ?_))) ?_
      refine WH.val (v_move rfl rfl) (.none rfl) rfl rfl <| WH.val (v_move rfl rfl) (.none rfl) rfl rfl <| WH.val (v_len_slice rfl rfl Tryz.underlying37) (.none rfl) rfl rfl <| ?_
      refine WH.val (v_add rfl rfl rfl (show _ = ((19 + xs.length : Nat) : Int) from (w_i64 (by omega) (by omega)).trans (by omega))) (.none rfl) rfl rfl ?_
      refine WH.val (v_fieldAddr0 rfl rfl fld_51_0) (.none rfl) rfl rfl <| WH.val (v_load1 rfl rfl one_3 (cellAt rfl)) (.none rfl) rfl rfl <| ?_
      refine WH.val (v_conv rfl rfl Tryz.underlying5 Tryz.underlying3 (show _ = m.kind from (w_u8m _).trans (by omega))) (.none rfl) rfl rfl ?_
      refine WH.nil ?_
      refine WRH.each (g := 4) [4, 9] (by kernel_rfl) (by decide) ?_
      refine ⟨?_, ?_⟩
      ·
       refine WL.call rfl rfl ck_19 (.none rfl) rfl rfl ?_
       intro w1 hS
       refine (RNum07_c w1 (((19 + xs.length : Nat) : Int)) 2 (by omega) (by omega) (by omega)).mono ?_
       rintro e w' ⟨adZ, cZ, EZ, rfl, hVZ, hS'⟩
       refine ⟨_, _, rfl, hS.join hS', ?_⟩
       refine WL.nilH (fun w hS => hS.sub (by repeat (first | exact List.Sublist.refl _ | exact List.nil_sublist _ | refine List.Sublist.cons _ ?_ | refine List.sublist_append_of_sublist_right ?_))) ?_
       refine WRH.each (g := 3) [5, 9] (by kernel_rfl) (by decide) ?_
       refine ⟨?_, ?_⟩
       ·
        refine WL.to (L' := EF ++ (EZ ++ (E ++ [.row g1 m.rcells]))) (fun w hS => hS.permC (by intro c h1 h2 h3 e; simp only [h1, h2, h3] <;> omega)) ?_
        refine WL.appendL rfl rfl rfl Tryz.underlying37 Tryz.underlying37 sz_5 by_5 zero_5 rfl rfl hVF (new := u8s (numB (((19 + xs.length : Nat) : Int)) 2)) (hVZ.srcE _ (by rw [u8s_len, numB_len]) (fun e he => by simp only [List.mem_append, List.mem_cons, he, true_or, or_true])) (by rw [u8s_len, numB_len]) (u8s_one _) (by omega) (.none rfl) rfl rfl ?_
        intro ad261 c261 E261 hV261 hr261
        rw [← u8s_app] at hV261
        have hk261 := hV261.toB
        rw [hk261] at hV261 ⊢
        refine WL.nilH (fun w hS => hS.sub (by repeat (first | exact List.Sublist.refl _ | exact List.nil_sublist _ | refine List.Sublist.cons _ ?_ | refine List.sublist_append_of_sublist_right ?_))) ?_
        refine WRH.one (g := 2) 9 (by kernel_rfl) ?_
        refine WL.buildSlice rfl rfl Tryz.underlying37 sz_5 zero_5 rfl (by decide) rfl (.none rfl) rfl rfl ?_
        intro g265 hg265
        first | refine WL.as (L' := .row g265 [.int .u8 m.kind] :: (EF ++ (E ++ [.row g1 m.rcells]))) rfl ?_ | refine WL.as (L' := .row g265 [.int .u8 m.kind] :: (EZ ++ (EF ++ (E ++ [.row g1 m.rcells])))) rfl ?_ | refine WL.as (L' := .row g265 [.int .u8 m.kind] :: (E261 ++ (EZ ++ (E ++ [.row g1 m.rcells])))) rfl ?_
        refine WL.nilH (fun w hS => hS.sub (by repeat (first | exact List.Sublist.refl _ | exact List.nil_sublist _ | refine List.Sublist.cons _ ?_ | refine List.sublist_append_of_sublist_right ?_))) ?_
        refine WRH.one (g := 1) 10 (by kernel_rfl) ?_
        refine WL.to (L' := E261 ++ (.row g265 [.int .u8 m.kind] :: (EZ ++ (E ++ [.row g1 m.rcells])))) (fun w hS => hS.permC (by intro c h1 h2 h3 e; simp only [h1, h2, h3] <;> omega)) ?_
        refine WL.appendL rfl rfl rfl Tryz.underlying37 Tryz.underlying37 sz_5 by_5 zero_5 rfl rfl hV261 (new := u8s [m.kind]) (fun _ => ⟨g265, 0, rfl, fun w hS => allAt (g := g265) w hS⟩) rfl (u8s_one _) (by omega) (.none rfl) rfl rfl ?_
        intro ad266 c266 E266 hV266 hr266
        rw [← u8s_app] at hV266
        have hk266 := hV266.toB
        rw [hk266] at hV266 ⊢
        refine WL.nilH (fun w hS => hS.sub (by repeat (first | exact List.Sublist.refl _ | exact List.nil_sublist _ | refine List.Sublist.cons _ ?_ | refine List.sublist_append_of_sublist_right ?_))) ?_
        refine WRH.first (g := 0) [11] (by kernel_rfl) (by kernel_rfl) (fun w hS => hS.sub (by repeat (first | exact List.Sublist.refl _ | exact List.nil_sublist _ | refine List.Sublist.cons _ ?_ | refine List.sublist_append_of_sublist_right ?_))) ?_
        refine WH.val (v_assign rfl rfl) (.none rfl) rfl rfl <| WH.nil <| ?_
        refine WRH.done (by kernel_rfl) ?_
        have hkk : k = 16 := (by omega)
        exact WE.mid ⟨0, ad266, c266, _, E266⟩ ⟨by dsimp only; rw [hfs, hkk], hV266⟩ (.cons rfl (.cons rfl .nil)) (List.Sublist.append_left (.cons _ (List.sublist_append_right _ _)) _)
       ·
        refine WL.buildSlice rfl rfl Tryz.underlying37 sz_5 zero_5 rfl (by decide) rfl (.none rfl) rfl rfl ?_
        intro g265 hg265
        first | refine WL.as (L' := .row g265 [.int .u8 m.kind] :: (EF ++ (E ++ [.row g1 m.rcells]))) rfl ?_ | refine WL.as (L' := .row g265 [.int .u8 m.kind] :: (EZ ++ (EF ++ (E ++ [.row g1 m.rcells])))) rfl ?_ | refine WL.as (L' := .row g265 [.int .u8 m.kind] :: (E261 ++ (EZ ++ (E ++ [.row g1 m.rcells])))) rfl ?_
        refine WL.nilH (fun w hS => hS.sub (by repeat (first | exact List.Sublist.refl _ | exact List.nil_sublist _ | refine List.Sublist.cons _ ?_ | refine List.sublist_append_of_sublist_right ?_))) ?_
        refine WRH.one (g := 2) 5 (by kernel_rfl) ?_
        refine WL.to (L' := EF ++ (.row g265 [.int .u8 m.kind] :: (EZ ++ (E ++ [.row g1 m.rcells])))) (fun w hS => hS.permC (by intro c h1 h2 h3 e; simp only [h1, h2, h3] <;> omega)) ?_
        refine WL.appendL rfl rfl rfl Tryz.underlying37 Tryz.underlying37 sz_5 by_5 zero_5 rfl rfl hVF (new := u8s (numB (((19 + xs.length : Nat) : Int)) 2)) (hVZ.srcE _ (by rw [u8s_len, numB_len]) (fun e he => by simp only [List.mem_append, List.mem_cons, he, true_or, or_true])) (by rw [u8s_len, numB_len]) (u8s_one _) (by omega) (.none rfl) rfl rfl ?_
        intro ad261 c261 E261 hV261 hr261
        rw [← u8s_app] at hV261
        have hk261 := hV261.toB
        rw [hk261] at hV261 ⊢
        refine WL.nilH (fun w hS => hS.sub (by repeat (first | exact List.Sublist.refl _ | exact List.nil_sublist _ | refine List.Sublist.cons _ ?_ | refine List.sublist_append_of_sublist_right ?_))) ?_
        refine WRH.one (g := 1) 10 (by kernel_rfl) ?_
        refine WL.to (L' := E261 ++ (.row g265 [.int .u8 m.kind] :: (EZ ++ (E ++ [.row g1 m.rcells])))) (fun w hS => hS.permC (by intro c h1 h2 h3 e; simp only [h1, h2, h3] <;> omega)) ?_
        refine WL.appendL rfl rfl rfl Tryz.underlying37 Tryz.underlying37 sz_5 by_5 zero_5 rfl rfl hV261 (new := u8s [m.kind]) (fun _ => ⟨g265, 0, rfl, fun w hS => allAt (g := g265) w hS⟩) rfl (u8s_one _) (by omega) (.none rfl) rfl rfl ?_
        intro ad266 c266 E266 hV266 hr266
        rw [← u8s_app] at hV266
        have hk266 := hV266.toB
        rw [hk266] at hV266 ⊢
        refine WL.nilH (fun w hS => hS.sub (by repeat (first | exact List.Sublist.refl _ | exact List.nil_sublist _ | refine List.Sublist.cons _ ?_ | refine List.sublist_append_of_sublist_right ?_))) ?_
        refine WRH.first (g := 0) [11] (by kernel_rfl) (by kernel_rfl) (fun w hS => hS.sub (by repeat (first | exact List.Sublist.refl _ | exact List.nil_sublist _ | refine List.Sublist.cons _ ?_ | refine List.sublist_append_of_sublist_right ?_))) ?_
        refine WH.val (v_assign rfl rfl) (.none rfl) rfl rfl <| WH.nil <| ?_
        refine WRH.done (by kernel_rfl) ?_
        have hkk : k = 16 := (by omega)
        exact WE.mid ⟨0, ad266, c266, _, E266⟩ ⟨by dsimp only; rw [hfs, hkk], hV266⟩ (.cons rfl (.cons rfl .nil)) (List.Sublist.append_left (.cons _ (List.sublist_append_right _ _)) _)
      ·
       refine WL.buildSlice rfl rfl Tryz.underlying37 sz_5 zero_5 rfl (by decide) rfl (.none rfl) rfl rfl ?_
       intro g265 hg265
       first | refine WL.as (L' := .row g265 [.int .u8 m.kind] :: (EF ++ (E ++ [.row g1 m.rcells]))) rfl ?_ | refine WL.as (L' := .row g265 [.int .u8 m.kind] :: (EZ ++ (EF ++ (E ++ [.row g1 m.rcells])))) rfl ?_ | refine WL.as (L' := .row g265 [.int .u8 m.kind] :: (E261 ++ (EZ ++ (E ++ [.row g1 m.rcells])))) rfl ?_
       refine WL.nilH (fun w hS => hS.sub (by repeat (first | exact List.Sublist.refl _ | exact List.nil_sublist _ | refine List.Sublist.cons _ ?_ | refine List.sublist_append_of_sublist_right ?_))) ?_
       refine WRH.one (g := 3) 4 (by kernel_rfl) ?_
       refine WL.call rfl rfl ck_19 (.none rfl) rfl rfl ?_
       intro w1 hS
       refine (RNum07_c w1 (((19 + xs.length : Nat) : Int)) 2 (by omega) (by omega) (by omega)).mono ?_
       rintro e w' ⟨adZ, cZ, EZ, rfl, hVZ, hS'⟩
       refine ⟨_, _, rfl, hS.join hS', ?_⟩
       refine WL.nilH (fun w hS => hS.sub (by repeat (first | exact List.Sublist.refl _ | exact List.nil_sublist _ | refine List.Sublist.cons _ ?_ | refine List.sublist_append_of_sublist_right ?_))) ?_
       refine WRH.one (g := 2) 5 (by kernel_rfl) ?_
       refine WL.to (L' := EF ++ (.row g265 [.int .u8 m.kind] :: (EZ ++ (E ++ [.row g1 m.rcells])))) (fun w hS => hS.permC (by intro c h1 h2 h3 e; simp only [h1, h2, h3] <;> omega)) ?_
       refine WL.appendL rfl rfl rfl Tryz.underlying37 Tryz.underlying37 sz_5 by_5 zero_5 rfl rfl hVF (new := u8s (numB (((19 + xs.length : Nat) : Int)) 2)) (hVZ.srcE _ (by rw [u8s_len, numB_len]) (fun e he => by simp only [List.mem_append, List.mem_cons, he, true_or, or_true])) (by rw [u8s_len, numB_len]) (u8s_one _) (by omega) (.none rfl) rfl rfl ?_
       intro ad261 c261 E261 hV261 hr261
       rw [← u8s_app] at hV261
       have hk261 := hV261.toB
       rw [hk261] at hV261 ⊢
       refine WL.nilH (fun w hS => hS.sub (by repeat (first | exact List.Sublist.refl _ | exact List.nil_sublist _ | refine List.Sublist.cons _ ?_ | refine List.sublist_append_of_sublist_right ?_))) ?_
       refine WRH.one (g := 1) 10 (by kernel_rfl) ?_
       refine WL.to (L' := E261 ++ (.row g265 [.int .u8 m.kind] :: (EZ ++ (E ++ [.row g1 m.rcells])))) (fun w hS => hS.permC (by intro c h1 h2 h3 e; simp only [h1, h2, h3] <;> omega)) ?_
       refine WL.appendL rfl rfl rfl Tryz.underlying37 Tryz.underlying37 sz_5 by_5 zero_5 rfl rfl hV261 (new := u8s [m.kind]) (fun _ => ⟨g265, 0, rfl, fun w hS => allAt (g := g265) w hS⟩) rfl (u8s_one _) (by omega) (.none rfl) rfl rfl ?_
       intro ad266 c266 E266 hV266 hr266
       rw [← u8s_app] at hV266
       have hk266 := hV266.toB
       rw [hk266] at hV266 ⊢
       refine WL.nilH (fun w hS => hS.sub (by repeat (first | exact List.Sublist.refl _ | exact List.nil_sublist _ | refine List.Sublist.cons _ ?_ | refine List.sublist_append_of_sublist_right ?_))) ?_
       refine WRH.first (g := 0) [11] (by kernel_rfl) (by kernel_rfl) (fun w hS => hS.sub (by repeat (first | exact List.Sublist.refl _ | exact List.nil_sublist _ | refine List.Sublist.cons _ ?_ | refine List.sublist_append_of_sublist_right ?_))) ?_
       refine WH.val (v_assign rfl rfl) (.none rfl) rfl rfl <| WH.nil <| ?_
       refine WRH.done (by kernel_rfl) ?_
       have hkk : k = 16 := (by omega)
       exact WE.mid ⟨0, ad266, c266, _, E266⟩ ⟨by dsimp only; rw [hfs, hkk], hV266⟩ (.cons rfl (.cons rfl .nil)) (List.Sublist.append_left (.cons _ (List.sublist_append_right _ _)) _)
     ·
      rintro ⟨_, adY, cY, hs, EY⟩ ⟨hhs, hVY⟩
      dsimp only at hhs hVY
      dsimp only
      have hhl : hs.length = 19 := (by rw [hhs, List.length_append, List.length_append, numB_len]; rfl)
      refine WC.seq <| WC.region <| WL.v (v_move rfl rfl) rfl <| WL.v (v_move rfl rfl) rfl <| ?_
      refine WL.appendL rfl rfl rfl Tryz.underlying37 Tryz.underlying37 sz_5 by_5 zero_5 rfl rfl hVY (new := u8s (xs)) (hV.srcE _ (by rw [u8s_len]) (fun e he => by simp only [List.mem_append, List.mem_cons, he, true_or, or_true])) (by rw [u8s_len, Nat.mul_one]) (u8s_one _) (by omega) (.none rfl) rfl rfl ?_
      intro ad269 c269 E269 hV269 hr269
      rw [← u8s_app] at hV269
      have hk269 := hV269.toB
      rw [hk269] at hV269 ⊢
      refine WL.v (v_assign rfl rfl) rfl <| WL.v (v_assign rfl rfl) rfl <| WL.nt <| WC.ret <| WE.ret2 (P := Tryz.prog) (.inl rfl) Tryz.results7 rfl rfl <| ?_
      have hb0 : bodC m = 0 := (by omega)
      have hc : msgC m = 0 := (by unfold msgC; rw [if_pos hb0, if_neg (by rw [← hx]; omega)])
      exact fun w' h => ResB.good hc hV269 h (by unfold msgB; rw [← hx, hhs])
end Go.Proofs.YtpjbofodllhjbaaGreatDoor
/- The reference's attributes: carrefourref06.Decode, walked (the directives behind '@cut98' are printed by gen/rei.py). -/
namespace Go.Proofs.YtpjbofodllhjbaaGreatDoor
open Go.RowKit

def RDecP (w w' : World) (xs : List Int) (e : Ending) : Prop :=
  match decD AtL.zero.d [] xs with
  | .inr (s, d) => e = .returned (.tuple #[.agg AtL.zero.rcells.toArray, .agg (fltL 3 s d).toArray]) ∧ Frm (fun _ => False) w w'
  | .inl d => ∃ a K, e = .returned (.tuple #[.agg a.rcells.toArray, .agg (fltL 0 0 ⟨#[]⟩).toArray]) ∧ a.d = { d with others := sortO d.others } ∧ AtAll K a ∧ St (fun _ => False) w w' K
end Go.Proofs.YtpjbofodllhjbaaGreatDoor
/- carrefourref07.Decode, walked (printed by gen/rej.py). -/
namespace Go.Proofs.YtpjbofodllhjbaaGreatDoor
open Go.RowKit

def RMsP (w w' : World) (xs : List Int) (e : Ending) : Prop :=
  match decM xs with
  | .inr (c, s, d) => e = .returned (.tuple #[.agg (MsL.zero 0).rcells.toArray, .agg (fltL c s d).toArray]) ∧ Frm (fun _ => False) w w'
  | .inl md => ∃ m K, e = .returned (.tuple #[.agg m.rcells.toArray, .agg (fltL 0 0 ⟨#[]⟩).toArray]) ∧ m.d = md ∧ MsAll K m ∧ St (fun _ => False) w w' K
end Go.Proofs.YtpjbofodllhjbaaGreatDoor
/- bgp: the faults of what is read; prefixes and capabilities that are read. -/
namespace Go.Proofs.YtpjbofodllhjbaaGreatDoor
open Go.RowKit

end Go.Proofs.YtpjbofodllhjbaaGreatDoor
/- bgp: a message that was read: what BgpForm needs of it. -/
namespace Go.Proofs.YtpjbofodllhjbaaGreatDoor
open Go.RowKit

theorem inI_idem (x : Int) : inI (inI x) = inI x := by unfold inI; omega
theorem cutI_of (a x : Int) : cutI (cutI a x) (inI x) = cutI a x := by
  unfold cutI
  rw [inI_idem]
  have hM : (0 : Int) < ((2 ^ (32 - inI x).toNat : Nat) : Int) := by exact_mod_cast Nat.two_pow_pos _
  generalize ((2 ^ (32 - inI x).toNat : Nat) : Int) = M at hM
  have e : (a - a % M) % M = 0 := by
    rw [Int.sub_emod, Int.emod_emod_of_dvd _ (Int.dvd_refl M), Int.sub_self, Int.zero_emod]
  rw [e, Int.sub_zero]
theorem cutI_b {a x : Int} (h : 0 ≤ a ∧ a ≤ 4294967295) : U32 (cutI a x) := by
  unfold cutI U32
  have hM : (0 : Int) < ((2 ^ (32 - inI x).toNat : Nat) : Int) := by exact_mod_cast Nat.two_pow_pos _
  generalize ((2 ^ (32 - inI x).toNat : Nat) : Int) = M at hM
  have h1 := Int.emod_nonneg a (show M ≠ 0 by omega)
  have h2 := Int.mul_ediv_self_le (x := a) (k := M) (by omega)
  have h3 := Int.emod_def a M
  have h4 : 0 ≤ M * (a / M) := Int.mul_nonneg (by omega) (Int.ediv_nonneg h.1 (by omega))
  omega
theorem netsR_ok : ∀ (n : Nat) {xs : List Int} {ps : List PfL}, xs.length ≤ n → Bys xs → netsR xs = some ps → ps.all pfOk = true ∧ ∀ p ∈ ps, U32 p.addr ∧ I64 p.len
  | _, [], ps, _, _, h => by rw [netsR] at h; cases h; exact ⟨rfl, fun p hp => by cases hp⟩
  | 0, x :: xs, ps, hn, _, _ => by simp at hn
  | n + 1, x :: xs, ps, hn, hB, h => by
    rw [netsR_cons] at h
    split at h
    · cases h
    · obtain ⟨q, hq, rfl⟩ := Option.map_eq_some_iff.1 h
      rw [List.length_cons] at hn
      have hBx : Bys xs := fun y hy => hB y (List.mem_cons_of_mem _ hy)
      have ih := netsR_ok n (by rw [List.length_drop]; omega) (fun y hy => hBx y (List.mem_of_mem_drop hy)) hq
      have hb := addrI_b (ys := xs.take (needN x)) fun y hy => hBx y (List.mem_of_mem_take hy)
      refine ⟨?_, fun p hp => ?_⟩
      · rw [List.all_cons, ih.1, Bool.and_true]
        exact decide_eq_true ⟨(cutI_of _ _).symm, (inI_idem x).symm⟩
      · rcases List.mem_cons.1 hp with rfl | hp
        · have := inI_b x
          exact ⟨cutI_b hb, by show _ ≤ inI x; omega, by show inI x ≤ _; omega⟩
        · exact ih.2 p hp
/-- A capability that was read. -/
def CapG (c : Int × List Int) : Prop := 0 ≤ c.1 ∧ c.1 ≤ 255 ∧ c.2.length ≤ 255 ∧ Bys c.2
theorem capsR_ok : ∀ (n : Nat) (acc : List (Int × List Int)) {xs : List Int} {cs : List (Int × List Int)}, xs.length ≤ n → Bys xs → (∀ c ∈ acc, CapG c) → capsR acc xs = some cs → (∀ c ∈ cs, CapG c) ∧ cs.length ≤ acc.length + xs.length
  | _, acc, [], cs, _, _, hA, h => by rw [capsR_nil] at h; cases h; exact ⟨hA, by simp⟩
  | _, acc, [_], cs, _, _, _, h => by rw [capsR] at h; cases h
  | 0, acc, y :: z :: xs, cs, hn, _, _, _ => by simp at hn
  | n + 1, acc, y :: z :: xs, cs, hn, hB, hA, h => by
    rw [capsR_cons] at h
    split at h
    · cases h
    · rw [List.length_cons, List.length_cons] at hn
      have hy := hB y (by simp)
      have hz := hB z (by simp)
      have hBx : Bys xs := fun y hy => hB y (by simp [hy])
      have ih := capsR_ok n _ (by rw [List.length_drop]; omega) (fun y hy => hBx y (List.mem_of_mem_drop hy)) (fun c hc => by
        rcases List.mem_append.1 hc with hc | hc
        · exact hA c hc
        · obtain rfl : c = (y, xs.take z.toNat) := by simpa using hc
          exact ⟨hy.1, hy.2, by rw [List.length_take]; omega, fun x hx => hBx x (List.mem_of_mem_take hx)⟩) h
      refine ⟨ih.1, ?_⟩
      have := ih.2
      rw [List.length_append, List.length_drop, List.length_singleton] at this
      rw [List.length_cons, List.length_cons]
      omega
theorem optsR_ok : ∀ (n : Nat) (acc : List (Int × List Int)) {xs : List Int} {cs : List (Int × List Int)}, xs.length ≤ n → Bys xs → (∀ c ∈ acc, CapG c) → optsR acc xs = .inl cs → (∀ c ∈ cs, CapG c) ∧ cs.length ≤ acc.length + xs.length
  | _, acc, [], cs, _, _, hA, h => by rw [optsR_nil] at h; cases h; exact ⟨hA, by simp⟩
  | _, acc, [_], cs, _, _, _, h => by rw [optsR] at h; cases h
  | 0, acc, y :: z :: xs, cs, hn, _, _, _ => by simp at hn
  | n + 1, acc, y :: z :: xs, cs, hn, hB, hA, h => by
    rw [optsR_cons] at h
    split at h
    · cases h
    split at h
    · cases h
    split at h
    · cases h
    · rename_i acc2 hc
      rw [List.length_cons, List.length_cons] at hn
      have hBx : Bys xs := fun y hy => hB y (by simp [hy])
      have h1 := capsR_ok _ _ (Nat.le_refl _) (fun y hy => hBx y (List.mem_of_mem_take hy)) hA hc
      have h2 := optsR_ok n _ (by rw [List.length_drop]; omega) (fun y hy => hBx y (List.mem_of_mem_drop hy)) h1.1 h
      refine ⟨h2.1, ?_⟩
      have a1 := h1.2
      have a2 := h2.2
      rw [List.length_take] at a1
      rw [List.length_drop] at a2
      rw [List.length_cons, List.length_cons]
      omega
/-- A message that says so. -/
def AtD.m (a : AtD) : AtL := ⟨a.has, a.origin, none, 0, a.path.map fun p => ⟨p.1, none, 0, p.2⟩, a.hop, a.med, a.loc, a.aas, a.aid, none, 0, a.comms, none, 0, a.others.map fun p => ⟨p.1, none, 0, p.2⟩⟩
def MsD.m (d : MsD) : MsL := ⟨d.kind, d.asn, d.hold, d.id, none, 0, d.caps.map fun p => ⟨p.1, none, 0, p.2⟩, none, 0, d.gone, d.atr.m, none, 0, d.nets, d.fc, d.fs, d.fd⟩
theorem AtD.m_d (a : AtD) : a.m.d = a := by
  unfold AtD.m AtL.d
  dsimp only
  rw [List.map_map, List.map_map]
  have e1 : (segD ∘ fun p : Bool × List Int => (⟨p.1, none, 0, p.2⟩ : SegL)) = id := rfl
  have e2 : (othD ∘ fun p : Int × List Int => (⟨p.1, none, 0, p.2⟩ : OthL)) = id := rfl
  rw [e1, e2, List.map_id, List.map_id]
theorem MsD.m_d (d : MsD) : d.m.d = d := by
  unfold MsD.m MsL.d
  dsimp only
  rw [List.map_map, AtD.m_d]
  have e1 : (capD ∘ fun p : Int × List Int => (⟨p.1, none, 0, p.2⟩ : CapL)) = _root_.id := rfl
  rw [e1, List.map_id]
theorem back_of {md : MsD} (hI : md.In) (hb : bareD md.m = md) (h : msgCD md = 0) : decM (msgBD md) = .inl md ∧ Bys (msgBD md) ∧ 0 < (msgBD md).length ∧ (msgBD md).length ≤ 5000 := by
  have e := md.m_d
  have hc : msgC md.m = 0 := by rw [msgC_d, e]; exact h
  have hm : md.m.In := MsL.in_d.2 (by rw [e]; exact hI)
  have e2 : msgB md.m = msgBD md := by rw [msgB_d, e]
  have h1 := decM_msgB hc hm
  have h2 := msgB_bys hm hc
  have h3 := msgB_len md.m
  have h4 := (msgC_bod hc).2
  rw [e2] at h1 h2 h3
  rw [hb] at h1
  exact ⟨h1, h2, by omega, by omega⟩
end Go.Proofs.YtpjbofodllhjbaaGreatDoor
/- bgp: a message that was read is one that BgpForm asks for. -/
namespace Go.Proofs.YtpjbofodllhjbaaGreatDoor
open Go.RowKit

theorem Bys.drop {xs : List Int} (h : Bys xs) (n : Nat) : Bys (xs.drop n) := fun x hx => h x (List.mem_of_mem_drop hx)
theorem Bys.take {xs : List Int} (h : Bys xs) (n : Nat) : Bys (xs.take n) := fun x hx => h x (List.mem_of_mem_take hx)
theorem code_of {d : MsD} {P : Prop} (h : bodCD d = 0 ∨ bodCD d = 6 ∨ bodCD d = 1 ∧ P) : msgCD d = 0 ∨ msgCD d = 6 ∨ msgCD d = 1 ∧ P := by
  unfold msgCD
  rcases h with e | e | ⟨e, hp⟩
  · rw [e, if_pos rfl]
    split
    · exact .inr (.inl rfl)
    · exact .inl rfl
  · rw [e]; exact .inr (.inl rfl)
  · rw [e]; exact .inr (.inr ⟨rfl, hp⟩)
theorem openR_form {xs : List Int} {cs : List (Int × List Int)} (hB : Bys xs) (hn : xs.length ≤ 5000) (h : openR xs = .inl cs) : FormOk { (MsL.zero 1).d with asn := asnB xs, hold := holdB xs, id := idB xs, caps := cs } := by
  have a1 := fOf_b hB 1
  have a2 := fOf_b hB 2
  have a3 := fOf_b hB 3
  have a4 := fOf_b hB 4
  have hid : 0 ≤ idB xs ∧ idB xs ≤ 4294967295 := addrI_b ((hB.take 9).drop 5)
  unfold openR at h
  split at h
  · cases h
  split at h
  · cases h
  rename_i hasn
  split at h
  · cases h
  rename_i hhold
  split at h
  · cases h
  rename_i hidz
  split at h
  · cases h
  split at h
  · rename_i cs2 ho
    cases h
    obtain ⟨hc, hl⟩ := optsR_ok _ _ (Nat.le_refl _) (hB.drop 10) (fun c hc => (by cases hc)) ho
    rw [List.length_drop] at hl
    have hcl : cs.length ≤ 5000 := by simp at hl; omega
    have easn : asnB xs = fOf xs 1 * 256 + fOf xs 2 := rfl
    have ehold : holdB xs = fOf xs 3 * 256 + fOf xs 4 := rfl
    have hz := MsL.in_d.1 (zeroM_in (k := 1) ⟨by decide, by decide⟩)
    have hI : MsD.In { (MsL.zero 1).d with asn := asnB xs, hold := holdB xs, id := idB xs, caps := cs } :=
      ⟨⟨hz.nums.1, ⟨by show _ ≤ asnB xs; omega, by show asnB xs ≤ _; omega⟩, ⟨by show _ ≤ holdB xs; omega, by show holdB xs ≤ _; omega⟩, hid, hz.nums.2.2.2.2.1, hz.nums.2.2.2.2.2⟩, fun c hm => (by
        have := hc c hm
        exact ⟨⟨by have := this.1; omega, by have := this.2.1; omega⟩, by have := this.2.2.1; omega, this.2.2.2⟩), hz.gone, hz.nets, hz.at_, ⟨by show cs.length ≤ _; omega, hz.lens.2⟩⟩
    refine ⟨hI, Nat.zero_le _, Nat.zero_le _, hcl, Nat.zero_le _, Nat.zero_le _, ?_, fun hz => back_of hI ?_ hz⟩
    · have hk := bod_1 (d := { (MsL.zero 1).d with asn := asnB xs, hold := holdB xs, id := idB xs, caps := cs }) rfl
      have ho : openCD { (MsL.zero 1).d with asn := asnB xs, hold := holdB xs, id := idB xs, caps := cs } = 0 ∨ openCD { (MsL.zero 1).d with asn := asnB xs, hold := holdB xs, id := idB xs, caps := cs } = 6 ∨ (openCD { (MsL.zero 1).d with asn := asnB xs, hold := holdB xs, id := idB xs, caps := cs } = 1 ∧ 32 < cs.length) := by
        unfold openCD
        dsimp only
        by_cases h32 : 32 < cs.length
        · right; right
          rw [decide_eq_true (show _ ∨ _ ∨ _ ∨ _ ∨ _ from .inr (.inr (.inr (.inr h32))))]
          exact ⟨rfl, h32⟩
        · rw [decide_eq_false (show ¬ (asnB xs < 1 ∨ 65535 < asnB xs ∨ (holdB xs ≠ 0 ∧ (holdB xs < 3 ∨ 65535 < holdB xs)) ∨ idB xs = 0 ∨ 32 < cs.length) by
            rintro (h | h | ⟨h, h'⟩ | h | h) <;> omega)]
          rw [show (cs.all fun p => decide (0 ≤ p.1 ∧ p.1 ≤ 255 ∧ p.2.length ≤ 255)) = true from List.all_eq_true.2 fun c hm => decide_eq_true ⟨(hc c hm).1, (hc c hm).2.1, (hc c hm).2.2.1⟩]
          show (if 253 < _ then (6 : Int) else 0) = 0 ∨ _
          split
          · exact .inr (.inl rfl)
          · exact .inl rfl
      refine code_of ?_
      rw [hk.1]
      exact ho.imp id (Or.imp id fun h => ⟨h.1, .inr h.2⟩)
    · show bareD _ = _
      unfold bareD
      rw [if_pos (show (MsD.m _).kind = 1 from rfl)]
      rw [show List.map capD (MsD.m { (MsL.zero 1).d with asn := asnB xs, hold := holdB xs, id := idB xs, caps := cs }).caps = cs from congrArg MsD.caps (MsD.m_d { (MsL.zero 1).d with asn := asnB xs, hold := holdB xs, id := idB xs, caps := cs })]
      rfl
  · cases h
theorem note_form {xs : List Int} (hB : Bys xs) (hn : xs.length ≤ 5000) : FormOk { (MsL.zero 3).d with fc := fOf xs 0, fs := fOf xs 1, fd := strD xs } := by
  have a0 := fOf_b hB 0
  have a1 := fOf_b hB 1
  have hd : (strD xs).size = xs.length - 2 := str_size _ _
  have hz := MsL.in_d.1 (zeroM_in (k := 3) ⟨by decide, by decide⟩)
  have hI : MsD.In { (MsL.zero 3).d with fc := fOf xs 0, fs := fOf xs 1, fd := strD xs } :=
    ⟨⟨hz.nums.1, hz.nums.2.1, hz.nums.2.2.1, hz.nums.2.2.2.1, ⟨by show _ ≤ fOf xs 0; omega, by show fOf xs 0 ≤ _; omega⟩, ⟨by show _ ≤ fOf xs 1; omega, by show fOf xs 1 ≤ _; omega⟩⟩, hz.caps, hz.gone, hz.nets, hz.at_, ⟨hz.lens.1, hz.lens.2.1, hz.lens.2.2.1, by show (strD xs).size ≤ _; omega⟩⟩
  refine ⟨hI, Nat.zero_le _, Nat.zero_le _, Nat.zero_le _, Nat.zero_le _, Nat.zero_le _, ?_, fun hz => back_of hI rfl hz⟩
  have hk := bod_3 (d := { (MsL.zero 3).d with fc := fOf xs 0, fs := fOf xs 1, fd := strD xs }) (show ¬ (3 : Int) = 1 by decide) (show ¬ (3 : Int) = 2 by decide) rfl
  refine code_of ?_
  rw [hk.1]
  by_cases h : fOf xs 0 < 1 ∨ 255 < fOf xs 0 ∨ fOf xs 1 < 0 ∨ 255 < fOf xs 1
  · rw [if_pos h]
    exact .inr (.inr ⟨rfl, .inl ⟨rfl, by show fOf xs 0 = 0; omega⟩⟩)
  · rw [if_neg h]
    split
    · exact .inr (.inl rfl)
    · exact .inl rfl
theorem live_form : FormOk (MsL.zero 4).d := by
  have hI : MsD.In (MsL.zero 4).d := MsL.in_d.1 (zeroM_in ⟨by decide, by decide⟩)
  refine ⟨hI, Nat.zero_le _, Nat.zero_le _, Nat.zero_le _, Nat.zero_le _, Nat.zero_le _, .inl ?_, fun hz => back_of hI rfl hz⟩
  have hk := bod_4 (d := (MsL.zero 4).d) (by decide) (by decide) (by decide)
  unfold msgCD
  rw [hk.1, hk.2]
  rfl
end Go.Proofs.YtpjbofodllhjbaaGreatDoor
/- bgp: a message that was read is one that BgpForm asks for: an Update; any. -/
namespace Go.Proofs.YtpjbofodllhjbaaGreatDoor
open Go.RowKit

theorem countR_ok {xs p q : List Int} (hB : Bys xs) (h : countR xs = some (p, q)) : Bys p ∧ Bys q ∧ p.length ≤ xs.length ∧ q.length ≤ xs.length := by
  unfold countR at h
  split at h
  · cases h
  · obtain ⟨rfl, rfl⟩ := Prod.mk.inj (Option.some.inj h)
    exact ⟨(hB.drop 2).take _, hB.drop _, by rw [List.length_take, List.length_drop]; omega, by rw [List.length_drop]; omega⟩
theorem bareD_two {m : MsL} (h : m.kind = 2) : bareD m = { (MsL.zero m.kind).d with gone := m.gone, atr := m.atr.d, nets := m.nets } := by
  unfold bareD
  rw [if_neg (by omega), if_pos h]
theorem upd_form {xs : List Int} {gs ns : List PfL} {a : AtD} (hB : Bys xs) (hn : xs.length ≤ 4400) (h : updR xs = .inl (gs, a, ns)) : FormOk { (MsL.zero 2).d with gone := gs, atr := a, nets := ns } := by
  unfold updR at h
  split at h
  · cases h
  rename_i g r hc1
  split at h
  · cases h
  rename_i s n hc2
  split at h
  · cases h
  rename_i gs' hg
  split at h
  · cases h
  rename_i a' ha
  split at h
  · cases h
  rename_i ns' hn'
  split at h
  · cases h
  rename_i h200
  split at h
  · cases h
  rename_i hmiss
  obtain ⟨rfl, h2⟩ := Prod.mk.inj (Sum.inl.inj h)
  obtain ⟨rfl, rfl⟩ := Prod.mk.inj h2
  obtain ⟨b1, b2, l1, l2⟩ := countR_ok hB hc1
  obtain ⟨b3, b4, l3, l4⟩ := countR_ok b2 hc2
  obtain ⟨n1, n2⟩ := netsR_ok _ (Nat.le_refl _) b1 hg
  obtain ⟨n3, n4⟩ := netsR_ok _ (Nat.le_refl _) b4 hn'
  obtain ⟨hG, seen, hS⟩ := decD_good 4400 _ _ _ _ (Nat.le_refl _) (by omega) b3 SeenI.zero (AtG.zero 4400) ha
  obtain ⟨k1, k2⟩ := hG.chk hS
  obtain ⟨i1, i2⟩ := hG.in_ hS (by decide)
  have hz := MsL.in_d.1 (zeroM_in (k := 2) ⟨by decide, by decide⟩)
  have hI : MsD.In { (MsL.zero 2).d with gone := gs', atr := { a' with others := sortO a'.others }, nets := ns' } :=
    ⟨hz.nums, hz.caps, n2, n4, i1, ⟨hz.lens.1, by show gs'.length ≤ _; omega, by show ns'.length ≤ _; omega, hz.lens.2.2.2⟩⟩
  refine ⟨hI, by show a'.path.length ≤ 1100; omega, by show (sortO a'.others).length ≤ 300; rw [(sortO_perm _).length_eq]; omega, Nat.zero_le _, by show gs'.length ≤ 5000; omega, by show ns'.length ≤ 5000; omega, ?_, fun hc => back_of hI ?_ hc⟩
  · refine code_of ?_
    have hk := bod_2 (d := { (MsL.zero 2).d with gone := gs', atr := { a' with others := sortO a'.others }, nets := ns' }) (show ¬ (2 : Int) = 1 by decide) rfl
    rw [hk.1]
    unfold updCD
    dsimp only
    rw [if_neg h200, n1, n3, decide_eq_false (show ¬ (0 < ns'.length ∧ missI a'.has ≠ 0) from fun hh => hmiss ⟨hh.2, hh.1⟩)]
    show encED { a' with others := sortO a'.others } = 0 ∨ _
    unfold encED
    rw [k1]
    show (if _ then (6 : Int) else 0) = 0 ∨ (if _ then (6 : Int) else 0) = 6 ∨ _
    split
    · exact .inr (.inl rfl)
    · exact .inl rfl
  · refine (bareD_two rfl).trans ?_
    rw [show AtL.d (MsD.m { (MsL.zero 2).d with gone := gs', atr := { a' with others := sortO a'.others }, nets := ns' }).atr = { a' with others := sortO a'.others } from AtD.m_d _]
    rfl
theorem decM_form {xs : List Int} {md : MsD} (hB : Bys xs) (h : decM xs = .inl md) : FormOk md := by
  rcases sizeR_cases xs.length (fOf xs) with ⟨C, S, d, e, hC⟩ | ⟨e, _, _, _, hle, hk1, hk4, _, _⟩
  · unfold decM at h
    rw [e] at h
    dsimp only at h
    rw [if_pos hC] at h
    cases h
  · unfold decM at h
    rw [e] at h
    dsimp only at h
    rw [if_neg (by simp)] at h
    split at h
    · cases h
    rename_i hlen
    have hlen : lenI (fOf xs) = xs.length := Classical.byContradiction hlen
    have hdl : (xs.drop 19).length = xs.length - 19 := List.length_drop ..
    unfold bodyM at h
    split at h
    · rename_i k1
      rw [k1] at h
      split at h
      · rename_i cs ho
        obtain rfl := Sum.inl.inj h
        exact openR_form (hB.drop 19) (by omega) ho
      · cases h
    split at h
    · rename_i k2
      rw [k2] at h
      split at h
      · rename_i g a n hu
        obtain rfl := Sum.inl.inj h
        exact upd_form (hB.drop 19) (by omega) hu
      · cases h
    split at h
    · rename_i k3
      rw [k3] at h
      obtain rfl := Sum.inl.inj h
      exact note_form (hB.drop 19) (by omega)
    · rename_i k1 k2 k3
      have k4 : fOf xs 18 = 4 := by omega
      rw [k4] at h
      obtain rfl := Sum.inl.inj h
      exact live_form
end Go.Proofs.YtpjbofodllhjbaaGreatDoor
/- BgpReads: whatever bytes: the message that they are, or the fault that they have. -/
namespace Go.Proofs.YtpjbofodllhjbaaGreatDoor
open Go.RowKit

/-- What bytes say: the fault, and the message. -/
def DecIs (xs : List Int) (C S : Int) (d : ByteArray) (md : MsD) : Prop := match decM xs with
  | .inr f => f = (C, S, d) ∧ md = (MsL.zero 0).d
  | .inl y => C = 0 ∧ S = 0 ∧ d = ⟨#[]⟩ ∧ md = y
theorem DecIs.bad {xs : List Int} {C S : Int} {d : ByteArray} (h : decM xs = .inr (C, S, d)) : DecIs xs C S d (MsL.zero 0).d := by unfold DecIs; rw [h]; exact ⟨rfl, rfl⟩
theorem DecIs.ok {xs : List Int} {md : MsD} (h : decM xs = .inl md) : DecIs xs 0 0 ⟨#[]⟩ md := by unfold DecIs; rw [h]; exact ⟨rfl, rfl, rfl, rfl⟩
theorem few_zero {m : MsL} (e : m.d = (MsL.zero 0).d) : m.Few ∧ m.In := by
  have z := MsL.in_d.1 (zeroM_in (k := 0) ⟨by decide, by decide⟩)
  have h1 : (m.caps.map capD).length = 0 := by rw [show m.caps.map capD = [] from congrArg MsD.caps e]; rfl
  have h2 : m.gone.length = 0 := by rw [show m.gone = [] from congrArg MsD.gone e]; rfl
  have h3 : m.nets.length = 0 := by rw [show m.nets = [] from congrArg MsD.nets e]; rfl
  have h4 : (m.atr.path.map segD).length = 0 := by rw [show m.atr.path.map segD = [] from congrArg (fun x => AtD.path (MsD.atr x)) e]; rfl
  have h5 : (m.atr.others.map othD).length = 0 := by rw [show m.atr.others.map othD = [] from congrArg (fun x => AtD.others (MsD.atr x)) e]; rfl
  rw [List.length_map] at h1 h4 h5
  exact ⟨⟨by omega, by omega, by omega, by omega, by omega⟩, MsL.in_d.2 (by rw [e]; exact z)⟩
theorem DecIs.few {xs : List Int} {C S : Int} {d : ByteArray} {m : MsL} (hB : Bys xs) (h : DecIs xs C S d m.d) : m.Few ∧ m.In := by
  unfold DecIs at h
  cases hd : decM xs with
  | inr f => rw [hd] at h; exact few_zero h.2
  | inl y =>
    rw [hd] at h
    have := (decM_form hB hd).few h.2.2.2
    exact ⟨this.1, this.2.1⟩
theorem decM_nil : decM [] = .inr (1, 2, ⟨#[]⟩) := rfl
theorem DecAny_c (w0 : World) (ad : Option Addr) (c : Nat) (xs : List Int) (hG : GF w0) (hZ : GZ w0) (hC : CellsAt w0 ad (u8s xs)) (hB : Bys xs) (hle : xs.length ≤ c) (hn : xs.length ≤ 90000) :
    Calls Tryz.prog 10 #[.slice ad xs.length c] w0 fun e w' => ∃ C S d m K, e = .returned (.tuple #[.agg m.cells.toArray, .agg (fltL C S d).toArray]) ∧ MsAll K m ∧ St (fun _ => False) w0 w' K ∧ DecIs xs C S d m.d := by
  by_cases h0 : xs.length = 0
  · obtain rfl : xs = [] := List.length_eq_zero_iff.1 h0
    refine (DecBad_c w0 ad 0 c (fun _ => 0) (fun _ => ⟨Int.le_refl _, show (0 : Int) ≤ 255 by decide⟩) (fun hh => by omega) (by omega) (Nat.zero_le _) 1 2 ⟨#[]⟩ rfl (by decide)).mono ?_
    rintro e w' ⟨rfl, hF⟩
    exact ⟨1, 2, ⟨#[]⟩, MsL.zero 0, [], rfl, MsAll.zero 0, (St.start _ _).ext hF, .bad decM_nil⟩
  · obtain ⟨b, o, rfl, hr⟩ := hC (by rw [u8s_len]; omega)
    refine (Decode_c w0 b o c xs hG hZ ⟨hr, hB, hle⟩ hn).mono fun e w' h => ?_
    unfold DecP at h
    cases hd : decM xs with
    | inr f =>
      obtain ⟨C, S, d⟩ := f
      rw [hd] at h
      exact ⟨C, S, d, MsL.zero 0, [], h.1, MsAll.zero 0, (St.start _ _).ext h.2, .bad hd⟩
    | inl md =>
      rw [hd] at h
      obtain ⟨m, K, he, em, hM, hS⟩ := h
      exact ⟨0, 0, ⟨#[]⟩, m, K, he, hM, hS, by rw [em]; exact .ok hd⟩
end Go.Proofs.YtpjbofodllhjbaaGreatDoor
/- BgpWrites: whatever message: its bytes are the reference's, and they read back. -/
namespace Go.Proofs.YtpjbofodllhjbaaGreatDoor
open Go.RowKit

theorem bareD_congr {a b : MsL} (h : a.d = b.d) : bareD a = bareD b := by
  have e1 : a.kind = b.kind := congrArg MsD.kind h
  have e2 : a.asn = b.asn := congrArg MsD.asn h
  have e3 : a.hold = b.hold := congrArg MsD.hold h
  have e4 : a.id = b.id := congrArg MsD.id h
  have e5 : a.caps.map capD = b.caps.map capD := congrArg MsD.caps h
  have e6 : a.gone = b.gone := congrArg MsD.gone h
  have e7 : a.nets = b.nets := congrArg MsD.nets h
  have e8 : a.atr.d = b.atr.d := congrArg MsD.atr h
  have e9 : a.fc = b.fc := congrArg MsD.fc h
  have e10 : a.fs = b.fs := congrArg MsD.fs h
  have e11 : a.fd = b.fd := congrArg MsD.fd h
  unfold bareD
  rw [e1, e2, e3, e4, e5, e6, e7, e8, e9, e10, e11]
theorem size_msgB {m : MsL} (h : msgC m = 0) (hI : m.In) : sizeR (msgB m).length (fOf (msgB m)) = (((msgB m).length : Int), 0, 0, ⟨#[]⟩) := by
  obtain ⟨_, hk, hl, hle, h4⟩ := bodyM_body h hI
  rw [msgB_of]
  have hh := head_of (zs := msgOf m.kind (bodB m)) (L := 19 + (bodB m).length) (k := m.kind) (fun i hi => msgOf_head hi) (by omega)
  rw [msgOf_len, sizeR_on (by omega) hh.1, hh.2.1, hh.2.2, if_neg (by omega), if_neg (fun h => leastI_zero.1 h hk), if_neg (by
    rintro (h | ⟨h, h'⟩)
    · omega
    · rw [h4 h] at h'; exact h' rfl)]
theorem big_few {m : MsL} (h : bigB m = false) : m.Few ∧ m.atr.path.length ≤ 10 ∧ m.atr.others.length ≤ 10 ∧ m.fd.size ≤ 5000 := by
  unfold bigB at h
  rw [Bool.or_eq_false_iff, Bool.or_eq_false_iff, Bool.or_eq_false_iff] at h
  have := of_decide_eq_false h.1.1.1
  exact ⟨⟨by omega, by omega, by omega, by omega, by omega⟩, by omega, by omega, by omega⟩
theorem same_few {a b : MsL} (h : a.d = b.d) : a.atr.path.length = b.atr.path.length ∧ a.atr.others.length = b.atr.others.length ∧ a.fd = b.fd := by
  have e1 := congrArg (fun x => (AtD.path (MsD.atr x)).length) h
  have e2 := congrArg (fun x => (AtD.others (MsD.atr x)).length) h
  dsimp only [MsL.d, AtL.d] at e1 e2
  rw [List.length_map, List.length_map] at e1 e2
  exact ⟨e1, e2, congrArg MsD.fd h⟩
theorem few_d {a b : MsL} (h : a.d = b.d) (hf : b.Few) : a.Few := by
  obtain ⟨q1, q2, _⟩ := same_few h
  have e1 : a.caps.map capD = b.caps.map capD := congrArg MsD.caps h
  have e2 := congrArg List.length e1
  rw [List.length_map, List.length_map] at e2
  have e3 : a.gone = b.gone := congrArg MsD.gone h
  have e4 : a.nets = b.nets := congrArg MsD.nets h
  obtain ⟨f1, f2, f3, f4, f5⟩ := hf
  exact ⟨by omega, by rw [e3]; exact f2, by rw [e4]; exact f3, by omega, by omega⟩
set_option maxHeartbeats 8000000 in
theorem BgpWrites_all (w0 : World) (m : MsL) (hM : m.At w0) (hI : m.In) (hG : GF w0) (hZ : GZ w0) :
    Calls Tryz.prog 3 #[.agg m.cells.toArray] w0 fun e w' => e = .returned (.bool true) ∧ Frm (fun _ => False) w0 w' := by
  refine enter Tryz.func3 rfl Tryz.ntmps3 rfl (St.start (fun _ => False) w0) ?_
  refine WC.seq <| WC.region <| WL.box rfl rfl rfl (.none rfl) rfl rfl <| ?_
  intro g1 hg1
  refine WL.v (v_assign rfl rfl) rfl <| WL.nt <| WC.seq <| WC.seq <| WC.region <| WL.call rfl rfl ck_4 (.none rfl) rfl rfl <| ?_
  intro w hS
  refine Calls.then (Head07_c w) hS ?_
  refine WL.v (v_not rfl rfl rfl) rfl <| WL.nt <| WC.cond_f rfl <| WC.skip <| WE.then_n <| WC.seq <| WC.seq <| WC.region <| WL.v (v_loadN rfl rfl many_34 rfl allAt) rfl <| WL.call rfl rfl ck_5 (.none rfl) rfl rfl <| ?_
  intro w hS
  refine Calls.then (big_c w m (hM.st hS) hI) hS ?_
  generalize hb : bigB m = bb
  cases bb
  ·
   refine WL.nt <| WC.cond_f rfl <| WC.skip <| WE.then_n <| WC.seq <| WC.region <| ?_
   obtain ⟨hfw, hpl, hol, hfd⟩ := big_few hb
   refine WL.v (v_loadN rfl rfl many_34 rfl allAt) rfl <| WL.call rfl rfl ck_6 (.none rfl) rfl rfl <| ?_
   intro w1 hS
   refine (Enc_c w1 m (hM.st hS) hI (hG.keep (fun h => h) hS) (by omega) (by omega)).mono ?_
   rintro e w' ⟨_, rfl, ad, c, E, rfl, hV, hS'⟩
   refine ⟨_, _, rfl, hS.join hS', ?_⟩
   refine WL.v (v_move rfl rfl) rfl <| WL.v (v_extract rfl rfl rfl) rfl <| WL.v (v_extract rfl rfl rfl) rfl <| WL.v (v_assign rfl rfl) rfl <| WL.v (v_assign rfl rfl) rfl <| WL.nt <| WC.seq <| WC.region <| WL.v (v_loadN rfl rfl many_34 rfl allAt) rfl <| WL.call rfl rfl ck_8 (.none rfl) rfl rfl <| ?_
   intro w1 hS
   refine (Plain_c w1 m (hM.st hS) hI hfw).mono ?_
   rintro e w' ⟨r, Kr, rfl, er, hr, hS'⟩
   refine ⟨_, _, rfl, hS.join hS', ?_⟩
   refine WL.call rfl rfl ck_7 (.none rfl) rfl rfl ?_
   intro w1 hS
   obtain ⟨q1, q2, q3⟩ := same_few er
   refine (REnc07_c w1 r (hr _ (hM.st hS) (fun e he => hS.holds e (by simp [he]))) (MsL.in_d.2 (by rw [er]; exact MsL.in_d.1 hI)) (by omega) (by omega) (by rw [q3]; exact hfd)).mono ?_
   rintro e w' ⟨_, rfl, ad2, c2, E2, rfl, hV2, hS'⟩
   have ec : msgC r = msgC m := (by rw [msgC_d, er, ← msgC_d])
   have eb : msgB r = msgB m := (by rw [msgB_d, er, ← msgB_d])
   rw [ec, eb] at hV2 ⊢
   refine ⟨_, _, rfl, hS.join hS', ?_⟩
   refine WL.v (v_move rfl rfl) rfl <| WL.v (v_extract rfl rfl rfl) rfl <| WL.v (v_extract rfl rfl rfl) rfl <| WL.v (v_assign rfl rfl) rfl <| WL.v (v_assign rfl rfl) rfl <| WL.nt <| WC.seq <| WC.seq <| WC.region <| WL.v (v_move rfl rfl) rfl <| ?_
   refine WL.v (v_move rfl rfl) rfl ?_
   refine WL.v ((v_neq rfl rfl rfl).f ((by omega))) rfl ?_
   refine WL.v (v_move rfl rfl) rfl <| WL.val (v_move rfl rfl) (.some rfl rfl rfl) rfl rfl <| WL.val (v_move rfl rfl) (.some rfl rfl rfl) rfl rfl <| WL.call rfl rfl ck_9 (.some rfl rfl rfl) rfl rfl <| ?_
   intro w hS
   refine Calls.then (Same_c w _ _ _ _ _ _ _ _ (CellsAt.rdo (Vec.cellsAt hV fun e he => hS.holds e (by simp [he]))) (CellsAt.rdo (Vec.cellsAt hV2 fun e he => hS.holds e (by simp [he]))) true (decide_eq_true rfl)) hS ?_
   refine WL.val (v_not rfl rfl rfl) (.some rfl rfl rfl) rfl rfl <| WL.v (v_pick_f rfl rfl rfl) rfl <| WL.nt <| WC.cond_f rfl <| WC.skip <| WE.then_n <| WC.seq <| WC.seq <| WC.region <| WL.v (v_move rfl rfl) rfl <| ?_
   refine WL.test (v_neq rfl rfl rfl) (.none rfl) rfl rfl (fun h36 => ?_) (fun h36 => ?_)
   ·
    refine WL.nt <| WC.cond_t rfl <| WC.seq <| WC.region <| WL.v (v_assign rfl rfl) rfl <| WL.nt <| WC.ret <| WE.then_ret <| WE.ret1 (P := Tryz.prog) (.inl rfl) Tryz.results3 rfl <| ?_
    exact fun w' h => ⟨rfl, h.frm⟩
   ·
    refine WL.nt <| WC.cond_f rfl <| WC.skip <| WE.then_n <| WC.seq <| WC.region <| ?_
    have hc : msgC m = 0 := (by omega)
    rw [if_pos hc] at hV hV2 ⊢
    have hL := msgC_bod hc
    have hml := msgB_len m
    have hby := msgB_bys hI hc
    have hcap := hV.len.2
    have hsz := size_msgB hc hI
    refine WL.v (v_move rfl rfl) rfl <| WL.call rfl rfl ck_10 (.none rfl) rfl rfl <| ?_
    intro w1 hS
    refine (DecAny_c w1 ad c (msgB m) (hG.keep (fun h => h) hS) (hZ.keep (fun h => h) hS) (Vec.cellsAt hV fun e he => hS.holds e (by simp [he])) hby hcap (by omega)).mono ?_
    rintro e w' ⟨C, S, d, x, Kx, rfl, hMx, hS', hI'⟩
    have hf := hI'.few hby
    unfold DecIs at hI'
    rw [decM_msgB hc hI] at hI'
    obtain ⟨rfl, rfl, rfl, ex⟩ := hI'
    refine ⟨_, _, rfl, hS.join hS', ?_⟩
    refine WL.v (v_move rfl rfl) rfl <| WL.v (v_extract rfl rfl rfl) rfl <| WL.v (v_extract rfl rfl rfl) rfl <| WL.alloc rfl zero_34 (.none rfl) rfl rfl <| ?_
    intro g7 hg7
    refine WL.alloc rfl zero_32 (.none rfl) rfl rfl ?_
    intro g8 hg8
    refine WL.storeW rfl rfl rfl rfl many_34 rfl rfl (.none rfl) rfl <| WL.storeW rfl rfl rfl rfl many_32 rfl rfl (.none rfl) rfl <| WL.as (L' := .row g8 (fltL 0 0 ⟨#[]⟩) :: .row g7 x.cells :: (Kx ++ (E2 ++ (Kr ++ (E ++ [.row g1 m.cells]))))) rfl <| WL.nt <| WC.seq <| WC.region <| WL.v (v_move rfl rfl) rfl <| WL.call rfl rfl ck_11 (.none rfl) rfl rfl <| ?_
    intro w1 hS
    refine (Size_c w1 ad (msgB m).length c (fOf (msgB m)) (fOf_byt hby) (CellsAt.rdo (Vec.cellsAt hV fun e he => hS.holds e (by simp [he]))) (by omega) hcap).mono ?_
    rintro e w' ⟨rfl, hF⟩
    rw [hsz]
    refine ⟨.tuple #[.int .i64 ((msgB m).length : Int), .agg (fltL 0 0 ⟨#[]⟩).toArray], _, rfl, hS.ext hF, ?_⟩
    refine WL.v (v_move rfl rfl) rfl <| WL.v (v_extract rfl rfl rfl) rfl <| WL.v (v_extract rfl rfl rfl) rfl <| WL.alloc rfl zero_32 (.none rfl) rfl rfl <| ?_
    intro g10 hg10
    refine WL.v (v_assign rfl rfl) rfl <| WL.storeW rfl rfl rfl rfl many_32 rfl rfl (.none rfl) rfl <| WL.as (L' := .row g10 (fltL 0 0 ⟨#[]⟩) :: .row g8 (fltL 0 0 ⟨#[]⟩) :: .row g7 x.cells :: (Kx ++ (E2 ++ (Kr ++ (E ++ [.row g1 m.cells]))))) rfl <| WL.nt <| WC.seq <| WC.held (.row g10 (fltL 0 0 ⟨#[]⟩) :: .row g8 (fltL 0 0 ⟨#[]⟩) :: .row g7 x.cells :: (Kx ++ (E2 ++ (Kr ++ (E ++ [.row g1 m.cells]))))) mixed <| ?_
    refine WRH.first (g := 6) [0, 1, 2, 3, 4, 5, 6, 7, 8, 9, 10, 11, 12, 13, 14, 15, 17] (by kernel_rfl) (by kernel_rfl) (fun w hS => hS.sub (by repeat (first | exact List.Sublist.refl _ | exact List.nil_sublist _ | refine List.Sublist.cons _ ?_ | refine List.sublist_append_of_sublist_right ?_))) ?_
    refine WH.val (v_loadN rfl rfl many_32 rfl allAt) (.none rfl) rfl rfl <| WH.val (v_build rfl rfl zero_32 plc_32 rfl) (.none rfl) rfl rfl <| ?_
    refine WH.val (v_eql_aggT rfl rfl rfl eqk_32 eqg_32 rfl rfl (by rfl)) (.none rfl) rfl rfl ?_
    refine WH.val (v_move rfl rfl) (.none rfl) rfl rfl <| WH.val (v_loadN rfl rfl many_32 rfl allAt) (.some rfl rfl rfl) rfl rfl <| WH.val (v_build rfl rfl zero_32 plc_32 rfl) (.some rfl rfl rfl) rfl rfl <| ?_
    refine WH.val (v_eql_aggT rfl rfl rfl eqk_32 eqg_32 rfl rfl (by rfl)) (.some rfl rfl rfl) rfl rfl ?_
    refine WH.val (v_pick_t rfl rfl rfl) (.none rfl) rfl rfl <| WH.val (v_move rfl rfl) (.none rfl) rfl rfl <| WH.val (v_move rfl rfl) (.some rfl rfl rfl) rfl rfl <| WH.val (v_move rfl rfl) (.some rfl rfl rfl) rfl rfl <| WH.val (v_len_slice rfl rfl Tryz.underlying37) (.some rfl rfl rfl) rfl rfl <| WH.val ((v_eql rfl rfl rfl).t (rfl)) (.some rfl rfl rfl) rfl rfl <| WH.val (v_pick_t rfl rfl rfl) (.none rfl) rfl rfl <| WH.val (v_move rfl rfl) (.none rfl) rfl rfl <| WH.val (v_loadN rfl rfl many_34 rfl allAt) (.some rfl rfl rfl) rfl rfl <| WH.val (v_loadN rfl rfl many_34 rfl allAt) (.some rfl rfl rfl) rfl rfl <| ?_
    refine WH.nil ?_
    refine WRH.one (g := 5) 16 (by kernel_rfl) ?_
    refine WL.call rfl rfl ck_8 (.some rfl rfl rfl) rfl rfl ?_
    intro w1 hS
    refine (Plain_c w1 x (hMx.at fun e he => hS.holds e (by simp [he])) hf.2 hf.1).mono ?_
    rintro e w' ⟨x', Kx', rfl, ex', hx', hS'⟩
    refine ⟨_, _, rfl, hS.join hS', ?_⟩
    refine WL.nilH (fun w hS => hS.sub (by repeat (first | exact List.Sublist.refl _ | exact List.nil_sublist _ | refine List.Sublist.cons _ ?_ | refine List.sublist_append_of_sublist_right ?_))) ?_
    refine WRH.one (g := 4) 18 (by kernel_rfl) ?_
    refine WL.call rfl rfl ck_8 (.some rfl rfl rfl) rfl rfl ?_
    intro w1 hS
    refine (Plain_c w1 m (hM.st hS) hI hfw).mono ?_
    rintro e w' ⟨m', Km', rfl, em', hm', hS'⟩
    refine ⟨_, _, rfl, hS.join hS', ?_⟩
    refine WL.nilH (fun w hS => hS.sub (by repeat (first | exact List.Sublist.refl _ | exact List.nil_sublist _ | refine List.Sublist.cons _ ?_ | refine List.sublist_append_of_sublist_right ?_))) ?_
    refine WRH.one (g := 3) 19 (by kernel_rfl) ?_
    refine WL.call rfl rfl ck_13 (.some rfl rfl rfl) rfl rfl ?_
    intro w hS
    refine Calls.then (RBare_c _ m') hS ?_
    refine WL.nilH (fun w hS => hS.sub (by repeat (first | exact List.Sublist.refl _ | exact List.nil_sublist _ | refine List.Sublist.cons _ ?_ | refine List.sublist_append_of_sublist_right ?_))) ?_
    refine WRH.one (g := 2) 20 (by kernel_rfl) ?_
    refine WL.call rfl rfl ck_12 (.some rfl rfl rfl) rfl rfl ?_
    intro w hS
    refine Calls.then (RSame07_c _ x' (bareL m') (hx' _ (hMx.at fun e he => hS.holds e (by simp [he])) fun e he => hS.holds e (by simp [he])) (bareL_at (hm' _ (hM.st hS) fun e he => hS.holds e (by simp [he]))) (by rw [ex', ex, bareL_d, bareD_congr em']) (MsL.in_d.2 (by rw [ex']; exact MsL.in_d.1 hf.2)) (few_d ex' hf.1)) hS ?_
    refine WL.nilH (fun w hS => hS.sub (by repeat (first | exact List.Sublist.refl _ | exact List.nil_sublist _ | refine List.Sublist.cons _ ?_ | refine List.sublist_append_of_sublist_right ?_))) ?_
    refine WRH.first (g := 0) [21, 22] (by kernel_rfl) (by kernel_rfl) (fun w hS => hS.sub (by repeat (first | exact List.Sublist.refl _ | exact List.nil_sublist _ | refine List.Sublist.cons _ ?_ | refine List.sublist_append_of_sublist_right ?_))) ?_
    refine WH.val (v_pick_t rfl rfl rfl) (.none rfl) rfl rfl <| WH.val (v_assign rfl rfl) (.none rfl) rfl rfl <| WH.nil <| ?_
    refine WRH.done (by kernel_rfl) ?_
    refine WE.then_n <| WC.ret <| WE.ret1 (P := Tryz.prog) (.inl rfl) Tryz.results3 rfl <| ?_
    exact fun w' h => ⟨rfl, h.frm⟩
  ·
   refine WL.nt <| WC.cond_t rfl <| WC.seq <| WC.region <| WL.v (v_assign rfl rfl) rfl <| WL.nt <| WC.ret <| WE.then_ret <| WE.ret1 (P := Tryz.prog) (.inl rfl) Tryz.results3 rfl <| ?_
   exact fun w' h => ⟨rfl, h.frm⟩
end Go.Proofs.YtpjbofodllhjbaaGreatDoor
/- attr: the two tables that lie there. -/
namespace Go.Proofs.YtpjbofodllhjbaaGreatDoor
open Go.RowKit

theorem laid_tail {P : Program} {x : String × DataW Unit} {r : List (String × DataW Unit)} {w : World} (h : laidMet P (x :: r) w) : laidMet P r w := by
  obtain ⟨ps, ⟨g, t, cs, fuel, p, q, _, _, _, _, hq, rfl⟩, hn, hc⟩ := h
  exact ⟨q, hq, (List.nodup_append.1 hn).2.1, fun b off hm => hc b off (List.mem_append_right _ hm)⟩
theorem laid_attr {w : World} (hL : laidMet Tryz.prog [("carrefour/attr.flags", Rows.laid_carrefour_attr_flags), ("carrefour/attr.sizes", Rows.laid_carrefour_attr_sizes)] w) : GF w ∧ GZ w := by
  constructor
  · have hT := Lib.tabIs_of_head (zs := [0, 64, 64, 64, 128, 64, 64, 192, 192]) (k := .i64) (show Tryz.prog.globalNamed "carrefour/attr.flags" = some 0 by kernel_rfl) (show (Tryz.prog.globals[0]?).map (·.type) = some 115 by kernel_rfl) Tryz.underlying115 Tryz.underlying3 (by kernel_rfl) (by kernel_rfl) hL
    intro i hi
    have := hT.cell (show Tryz.prog.globalNamed "carrefour/attr.flags" = some 0 by kernel_rfl) i hi
    match i, hi with
    | 0, _ | 1, _ | 2, _ | 3, _ | 4, _ | 5, _ | 6, _ | 7, _ | 8, _ => exact this
  · have hT := Lib.tabIs_of_head (zs := [0, 1, -1, 4, 4, 4, 0, 6, -1]) (k := .i64) (show Tryz.prog.globalNamed "carrefour/attr.sizes" = some 2 by kernel_rfl) (show (Tryz.prog.globals[2]?).map (·.type) = some 115 by kernel_rfl) Tryz.underlying115 Tryz.underlying3 (by kernel_rfl) (by kernel_rfl) (laid_tail hL)
    intro i hi
    have := hT.cell (show Tryz.prog.globalNamed "carrefour/attr.sizes" = some 2 by kernel_rfl) i hi
    match i, hi with
    | 0, _ | 1, _ | 2, _ | 3, _ | 4, _ | 5, _ | 6, _ | 7, _ | 8, _ => exact this
end Go.Proofs.YtpjbofodllhjbaaGreatDoor
/- Arguments: a message of BGP. -/
namespace Go.Proofs.YtpjbofodllhjbaaGreatDoor
open Go.RowKit

theorem rows_of {P : Program} {w : World} {e s len : Nat} {a : Option Addr} {α : Type} {enc : α → List Value} {good : α → Prop} (hx : ∀ cs, cs.length = s → Tree P w e cs → ∃ x, cs = enc x ∧ good x) (h : Elems P w e s a len) : ∃ xs : List α, xs.length = len ∧ RowsAt w a s enc xs ∧ ∀ x ∈ xs, good x := by
  by_cases hl : 0 < len
  · obtain ⟨b, off, rfl, hE⟩ := h hl
    have hE' : ∀ i : Fin len, ∃ x, w.rangeAt b (off + i.1 * s) (enc x) ∧ good x := fun i => by
      obtain ⟨cs, hc, hr, hT⟩ := hE i.1 i.2
      obtain ⟨x, rfl, hg⟩ := hx cs hc hT
      exact ⟨x, hr, hg⟩
    refine ⟨List.ofFn fun i => Classical.choose (hE' i), List.length_ofFn, fun i x hi => ?_, fun x hm => ?_⟩
    · rw [List.getElem?_ofFn] at hi
      split at hi
      · rename_i hlt
        obtain rfl := Option.some.inj hi
        exact ⟨b, off, rfl, (Classical.choose_spec (hE' ⟨i, hlt⟩)).1⟩
      · cases hi
    · obtain ⟨i, rfl⟩ := List.mem_ofFn.1 hm
      exact (Classical.choose_spec (hE' i)).2
  · refine ⟨[], by rw [List.length_nil]; omega, fun i x hi => by simp at hi, fun x hm => by cases hm⟩
theorem CellsAt.of_rows {w : World} {a : Option Addr} {f : Int → Value} {xs : List Int} (h : RowsAt w a 1 (fun x => [f x]) xs) : CellsAt w a (xs.map f) := fun hn => by
  rw [List.length_map] at hn
  obtain ⟨b, o, e, _⟩ := h 0 _ (List.getElem?_eq_getElem hn)
  refine ⟨b, o, e, fun j v hj => ?_⟩
  rw [List.getElem?_map] at hj
  cases hx : xs[j]? with
  | none => rw [hx] at hj; cases hj
  | some x =>
    rw [hx] at hj
    obtain rfl := Option.some.inj hj
    obtain ⟨b', o', e', hr⟩ := h j x hx
    rw [e] at e'
    cases e'
    have := hr 0 _ rfl
    rwa [Nat.mul_one, Nat.add_zero] at this
theorem Elems.u8 {w : World} {len : Nat} {a : Option Addr} (h : Elems Tryz.prog w 5 1 a len) : ∃ xs : List Int, xs.length = len ∧ CellsAt w a (u8s xs) ∧ Bys xs := by
  obtain ⟨xs, hl, hr, hg⟩ := rows_of (enc := fun x => [.int .u8 x]) (good := fun x => 0 ≤ x ∧ x ≤ 255) (fun cs hc hT => by
    match cs, hc with
    | [x], _ =>
      obtain ⟨n, rfl, hw⟩ := Tree.int Tryz.underlying5 hT
      exact ⟨n, rfl, wf_u8 hw⟩) h
  exact ⟨xs, hl, CellsAt.of_rows hr, hg⟩
theorem Elems.i64 {w : World} {len : Nat} {a : Option Addr} (h : Elems Tryz.prog w 3 1 a len) : ∃ xs : List Int, xs.length = len ∧ CellsAt w a (i64s xs) ∧ ∀ x ∈ xs, I64 x := by
  obtain ⟨xs, hl, hr, hg⟩ := rows_of (enc := fun x => [.int .i64 x]) (good := fun x => I64 x) (fun cs hc hT => by
    match cs, hc with
    | [x], _ =>
      obtain ⟨n, rfl, hw⟩ := Tree.int Tryz.underlying3 hT
      exact ⟨n, rfl, wf_i64 hw⟩) h
  exact ⟨xs, hl, CellsAt.of_rows hr, hg⟩
theorem Tree.u8sl {w : World} {x : Value} (h : Tree Tryz.prog w 37 [x]) : ∃ a cap, ∃ xs : List Int, x = .slice a xs.length cap ∧ xs.length ≤ cap ∧ cap ≤ maxLen ∧ CellsAt w a (u8s xs) ∧ Bys xs := by
  obtain ⟨a, len, cap, rfl, h1, h2, hE⟩ := Tree.slice (s := 1) Tryz.underlying37 (by kernel_rfl) (by decide) h
  obtain ⟨xs, rfl, hc, hb⟩ := Elems.u8 hE
  exact ⟨a, cap, xs, rfl, h1, h2, hc, hb⟩
theorem Tree.i64sl {w : World} {x : Value} (h : Tree Tryz.prog w 27 [x]) : ∃ a cap, ∃ xs : List Int, x = .slice a xs.length cap ∧ xs.length ≤ cap ∧ cap ≤ maxLen ∧ CellsAt w a (i64s xs) ∧ ∀ x ∈ xs, I64 x := by
  obtain ⟨a, len, cap, rfl, h1, h2, hE⟩ := Tree.slice (s := 1) Tryz.underlying27 (by kernel_rfl) (by decide) h
  obtain ⟨xs, rfl, hc, hb⟩ := Elems.i64 hE
  exact ⟨a, cap, xs, rfl, h1, h2, hc, hb⟩
theorem Tree.flatL {P : Program} {w : World} {t : TypeId} {cs : List Value} {ts : List TypeId} (h : Tree P w t cs) (F : Nat) (hl : layB P F t = true) (hf : flat P F t = ts) : Leaves P w ts cs := hf ▸ Tree.leaves F t cs hl h
theorem maxLen_le : maxLen ≤ 9223372036854775807 := by decide
theorem Tree.caps {w : World} {x : Value} (h : Tree Tryz.prog w 24 [x]) : ∃ a cap, ∃ xs : List CapL, x = .slice a xs.length cap ∧ xs.length ≤ 9223372036854775807 ∧ RowsAt w a 2 CapL.cells xs ∧ ∀ c ∈ xs, CellsAt w c.ad (u8s c.val) ∧ I64 c.code ∧ c.val.length ≤ 9223372036854775807 ∧ Bys c.val := by
  obtain ⟨a, len, cap, rfl, h1, h2, hE⟩ := Tree.slice (s := 2) Tryz.underlying24 (by kernel_rfl) (by decide) h
  have hm := maxLen_le
  obtain ⟨xs, rfl, hr, hg⟩ := rows_of (enc := CapL.cells) (good := fun c => CellsAt w c.ad (u8s c.val) ∧ I64 c.code ∧ c.val.length ≤ 9223372036854775807 ∧ Bys c.val) (fun cs hc hT => by
    have hL := Tree.flatL (ts := [3, 37]) hT 4 (by kernel_rfl) (by kernel_rfl)
    obtain ⟨x, _, rfl, hx, y, _, rfl, hy, rfl⟩ := hL
    obtain ⟨n, rfl, hw⟩ := Tree.int Tryz.underlying3 hx
    obtain ⟨a', cap', ys, rfl, k1, k2, k3, k4⟩ := Tree.u8sl hy
    exact ⟨⟨n, a', cap', ys⟩, rfl, k3, wf_i64 hw, by dsimp only; omega, k4⟩) hE
  exact ⟨a, cap, xs, rfl, by omega, hr, hg⟩
theorem Tree.pfs {w : World} {x : Value} (h : Tree Tryz.prog w 25 [x]) : ∃ a cap, ∃ xs : List PfL, x = .slice a xs.length cap ∧ xs.length ≤ 9223372036854775807 ∧ RowsAt w a 2 PfL.cells xs ∧ ∀ p ∈ xs, U32 p.addr ∧ I64 p.len := by
  obtain ⟨a, len, cap, rfl, h1, h2, hE⟩ := Tree.slice (s := 2) Tryz.underlying25 (by kernel_rfl) (by decide) h
  have hm := maxLen_le
  obtain ⟨xs, rfl, hr, hg⟩ := rows_of (enc := PfL.cells) (good := fun p => U32 p.addr ∧ I64 p.len) (fun cs hc hT => by
    have hL := Tree.flatL (ts := [23, 3]) hT 4 (by kernel_rfl) (by kernel_rfl)
    obtain ⟨x, _, rfl, hx, y, _, rfl, hy, rfl⟩ := hL
    obtain ⟨n, rfl, hw⟩ := Tree.int Tryz.underlying23 hx
    obtain ⟨n2, rfl, hw2⟩ := Tree.int Tryz.underlying3 hy
    exact ⟨⟨n, n2⟩, rfl, wf_u32 hw, wf_i64 hw2⟩) hE
  exact ⟨a, cap, xs, rfl, by omega, hr, hg⟩
theorem Tree.segs {w : World} {x : Value} (h : Tree Tryz.prog w 26 [x]) : ∃ a cap, ∃ xs : List SegL, x = .slice a xs.length cap ∧ xs.length ≤ 9223372036854775807 ∧ RowsAt w a 2 SegL.cells xs ∧ ∀ c ∈ xs, CellsAt w c.ad (i64s c.asl) ∧ c.asl.length ≤ 9223372036854775807 ∧ ∀ x ∈ c.asl, I64 x := by
  obtain ⟨a, len, cap, rfl, h1, h2, hE⟩ := Tree.slice (s := 2) Tryz.underlying26 (by kernel_rfl) (by decide) h
  have hm := maxLen_le
  obtain ⟨xs, rfl, hr, hg⟩ := rows_of (enc := SegL.cells) (good := fun c => CellsAt w c.ad (i64s c.asl) ∧ c.asl.length ≤ 9223372036854775807 ∧ ∀ x ∈ c.asl, I64 x) (fun cs hc hT => by
    have hL := Tree.flatL (ts := [4, 27]) hT 4 (by kernel_rfl) (by kernel_rfl)
    obtain ⟨x, _, rfl, hx, y, _, rfl, hy, rfl⟩ := hL
    obtain ⟨n, rfl⟩ := Tree.bool Tryz.underlying4 hx
    obtain ⟨a', cap', ys, rfl, k1, k2, k3, k4⟩ := Tree.i64sl hy
    exact ⟨⟨n, a', cap', ys⟩, rfl, k3, by dsimp only; omega, k4⟩) hE
  exact ⟨a, cap, xs, rfl, by omega, hr, hg⟩
theorem Tree.oths {w : World} {x : Value} (h : Tree Tryz.prog w 28 [x]) : ∃ a cap, ∃ xs : List OthL, x = .slice a xs.length cap ∧ xs.length ≤ 9223372036854775807 ∧ RowsAt w a 2 OthL.cells xs ∧ ∀ c ∈ xs, CellsAt w c.ad (u8s c.val) ∧ I64 c.ty ∧ c.val.length ≤ 9223372036854775807 ∧ Bys c.val := by
  obtain ⟨a, len, cap, rfl, h1, h2, hE⟩ := Tree.slice (s := 2) Tryz.underlying28 (by kernel_rfl) (by decide) h
  have hm := maxLen_le
  obtain ⟨xs, rfl, hr, hg⟩ := rows_of (enc := OthL.cells) (good := fun c => CellsAt w c.ad (u8s c.val) ∧ I64 c.ty ∧ c.val.length ≤ 9223372036854775807 ∧ Bys c.val) (fun cs hc hT => by
    have hL := Tree.flatL (ts := [3, 37]) hT 4 (by kernel_rfl) (by kernel_rfl)
    obtain ⟨x, _, rfl, hx, y, _, rfl, hy, rfl⟩ := hL
    obtain ⟨n, rfl, hw⟩ := Tree.int Tryz.underlying3 hx
    obtain ⟨a', cap', ys, rfl, k1, k2, k3, k4⟩ := Tree.u8sl hy
    exact ⟨⟨n, a', cap', ys⟩, rfl, k3, wf_i64 hw, by dsimp only; omega, k4⟩) hE
  exact ⟨a, cap, xs, rfl, by omega, hr, hg⟩
theorem msg_leaves {w : World} {cs : List Value} (hL : Leaves Tryz.prog w [3, 3, 3, 23, 24, 25, 3, 3, 26, 23, 3, 3, 3, 23, 27, 28, 25, 3, 3, 9] cs) : ∃ m : MsL, cs = m.cells ∧ m.At w ∧ m.In := by
  obtain ⟨x0, _, rfl, h0, x1, _, rfl, h1, x2, _, rfl, h2, x3, _, rfl, h3, x4, _, rfl, h4, x5, _, rfl, h5, x6, _, rfl, h6, x7, _, rfl, h7, x8, _, rfl, h8, x9, _, rfl, h9, x10, _, rfl, h10, x11, _, rfl, h11, x12, _, rfl, h12, x13, _, rfl, h13, x14, _, rfl, h14, x15, _, rfl, h15, x16, _, rfl, h16, x17, _, rfl, h17, x18, _, rfl, h18, x19, _, rfl, h19, rfl⟩ := hL
  obtain ⟨n0, rfl, w0⟩ := Tree.int Tryz.underlying3 h0
  obtain ⟨n1, rfl, w1⟩ := Tree.int Tryz.underlying3 h1
  obtain ⟨n2, rfl, w2⟩ := Tree.int Tryz.underlying3 h2
  obtain ⟨n3, rfl, w3⟩ := Tree.int Tryz.underlying23 h3
  obtain ⟨a4, c4, l4, rfl, k4, r4, g4⟩ := Tree.caps h4
  obtain ⟨a5, c5, l5, rfl, k5, r5, g5⟩ := Tree.pfs h5
  obtain ⟨n6, rfl, w6⟩ := Tree.int Tryz.underlying3 h6
  obtain ⟨n7, rfl, w7⟩ := Tree.int Tryz.underlying3 h7
  obtain ⟨a8, c8, l8, rfl, k8, r8, g8⟩ := Tree.segs h8
  obtain ⟨n9, rfl, w9⟩ := Tree.int Tryz.underlying23 h9
  obtain ⟨n10, rfl, w10⟩ := Tree.int Tryz.underlying3 h10
  obtain ⟨n11, rfl, w11⟩ := Tree.int Tryz.underlying3 h11
  obtain ⟨n12, rfl, w12⟩ := Tree.int Tryz.underlying3 h12
  obtain ⟨n13, rfl, w13⟩ := Tree.int Tryz.underlying23 h13
  obtain ⟨a14, c14, l14, rfl, k14, j14, r14, g14⟩ := Tree.i64sl h14
  obtain ⟨a15, c15, l15, rfl, k15, r15, g15⟩ := Tree.oths h15
  obtain ⟨a16, c16, l16, rfl, k16, r16, g16⟩ := Tree.pfs h16
  obtain ⟨n17, rfl, w17⟩ := Tree.int Tryz.underlying3 h17
  obtain ⟨n18, rfl, w18⟩ := Tree.int Tryz.underlying3 h18
  obtain ⟨d19, rfl, w19⟩ := Tree.string Tryz.underlying9 h19
  have hm := maxLen_le
  exact ⟨⟨n0, n1, n2, n3, a4, c4, l4, a5, c5, l5, ⟨n6, n7, a8, c8, l8, n9, n10, n11, n12, n13, a14, c14, l14, a15, c15, l15⟩, a16, c16, l16, n17, n18, d19⟩, rfl,
    ⟨r4, fun c hc => (g4 c hc).1, r5, r16, ⟨r8, fun c hc => (g8 c hc).1, r14, r15, fun c hc => (g15 c hc).1⟩⟩,
    ⟨wf_i64 w0, wf_i64 w1, wf_i64 w2, wf_u32 w3, wf_i64 w17, wf_i64 w18, fun c hc => (g4 c hc).2, g5, g16,
      ⟨wf_i64 w6, wf_i64 w7, wf_u32 w9, wf_i64 w10, wf_i64 w11, wf_i64 w12, wf_u32 w13, fun c hc => (g8 c hc).2, g14, fun c hc => (g15 c hc).2, k8, by dsimp only; omega, k15⟩, k4, k5, k16, by dsimp only; omega⟩⟩
theorem Arg.msg {w : World} {v : Value} (h : Arg Tryz.prog w 34 v) : ∃ m : MsL, v = .agg m.cells.toArray ∧ m.At w ∧ m.In := by
  obtain ⟨cs, rfl, hL⟩ := h.agg 6 (by kernel_rfl) (by kernel_rfl) (by kernel_rfl)
  obtain ⟨m, rfl, h1, h2⟩ := msg_leaves hL
  exact ⟨m, rfl, h1, h2⟩
end Go.Proofs.YtpjbofodllhjbaaGreatDoor
