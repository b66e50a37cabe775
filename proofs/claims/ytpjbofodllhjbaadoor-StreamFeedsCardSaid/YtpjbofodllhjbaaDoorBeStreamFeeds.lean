/- Texts joined: engine, contracts and laws, in the order in which they build. -/
import Derived.Test.YtpjbofodllhjbaaDoorBdStreamFeeds
/- The reference's prefixes: carrefourref07.read. -/
namespace Go.Proofs.YtpjbofodllhjbaaDoor
open Go.RowKit

theorem half_pow {z : Int} {i : Nat} (hi : i < 8) (h : 0 ≤ z) : (z / 2 ^ i).tdiv 2 = z / 2 ^ (i + 1) ∧ (z / 2 ^ i).tmod 2 = z / 2 ^ i % 2 ∧ 0 ≤ z / 2 ^ i := by
  have h0 : 0 ≤ z / 2 ^ i := Int.ediv_nonneg h (by have := Nat.two_pow_pos i; have e : (2 : Int) ^ i = ((2 ^ i : Nat) : Int) := by simp
                                                   omega)
  refine ⟨?_, Int.tmod_eq_emod_of_nonneg h0, h0⟩
  rw [Int.tdiv_eq_ediv_of_nonneg h0]
  have : i = 0 ∨ i = 1 ∨ i = 2 ∨ i = 3 ∨ i = 4 ∨ i = 5 ∨ i = 6 ∨ i = 7 := by omega
  rcases this with rfl | rfl | rfl | rfl | rfl | rfl | rfl | rfl <;> omega
theorem bytesB_snoc (zs : List Int) (z : Int) : bytesB (zs ++ [z]) = bytesB zs ++ lowB z 8 := by unfold bytesB; rw [List.flatMap_append, List.flatMap_cons, List.flatMap_nil, List.append_nil]
def ReadP (w w' : World) (xs : List Int) (e : Ending) : Prop :=
  match netsR xs with
  | none => e = .returned (.tuple #[.slice none 0 0, .bool false]) ∧ Frm (fun _ => False) w w'
  | some ps => ∃ ad c E, e = .returned (.tuple #[.slice ad ps.length c, .bool true]) ∧ Vec 2 ad ps.length c (pfsL ps) E ∧ St (fun _ => False) w w' E
theorem ReadP.no {w w' : World} {v : List Int} {L : List Ent} (h : netsR v = none) (hS : St (fun _ => False) w w' L) : ReadP w w' v (.returned (.tuple #[.slice none 0 0, .bool false])) := by
  unfold ReadP
  rw [h]
  exact ⟨rfl, hS.frm⟩
theorem RNumV_c (w : World) (g hc : Nat) (bs : List Int) (cs : List Value) (hV : Vec 1 (some ⟨g, 0, none⟩) 32 hc (i64s bs) [.row g cs]) (hl : bs.length = 32) (hB : Bits bs) (hw : (Ent.row g cs).holds w) :
    Calls Tryd.prog 64 #[.slice (some ⟨g, 0, none⟩) 32 hc] w fun e w' => e = .returned (.int .u32 (bitsN bs)) ∧ Frm (fun _ => False) w w' := by
  obtain ⟨b, o, e, hr⟩ := hV.src2 (by rw [i64s_len]; omega)
  cases e
  have h := RNum01_c w g 0 hc bs (hr w fun e he => by rw [List.mem_singleton.1 he]; exact hw) hB (by omega)
  rw [hl] at h
  exact h
set_option maxHeartbeats 8000000 in
theorem RRead_c (w : World) (b o cv : Nat) (xs : List Int) (hW : Win w b o cv xs) (hn : xs.length ≤ 100000) :
    Calls Tryd.prog 43 #[.slice (some ⟨b, o, none⟩) xs.length cv] w fun e w' => ReadP w w' xs e := by
  have hle := hW.le
  refine enter Tryd.func43 rfl Tryd.ntmps43 rfl (St.start (fun _ => False) w) ?_
  refine WC.seq ?_
  refine WC.region ?_
  refine WL.val (v_assign rfl rfl) (.none rfl) rfl rfl ?_
  refine WL.val (v_assign rfl rfl) (.none rfl) rfl rfl ?_
  refine WL.nil ?_
  refine WE.then_n ?_
  refine WC.seq ?_
  refine WC.region ?_
  refine WL.buildSlice rfl rfl Tryd.underlying47 sz_132 zero_132 rfl (by decide) rfl (.none rfl) rfl rfl ?_
  intro g12 hg12
  refine WL.val (v_assign rfl rfl) (.none rfl) rfl rfl ?_
  refine WL.nil ?_
  refine WE.then_n ?_
  refine WC.seq ?_
  refine WC.region ?_
  refine WL.val (v_assign rfl rfl) (.none rfl) rfl rfl ?_
  refine WL.nil ?_
  refine WE.then_n ?_
  refine WC.seq ?_
  refine WC.block ?_
  refine WC.loop (fun y : Nat × List PfL × Option Addr × Nat × List Ent => [(5, .int .i64 y.1), (4, .slice y.2.2.1 y.2.1.length y.2.2.2.1), (0, .slice (some ⟨b, o, none⟩) xs.length cv)]) (fun y => y.2.2.2.2 ++ []) (fun y => y.1 ≤ xs.length ∧ netsR xs = (netsR (xs.drop y.1)).map (y.2.1 ++ ·) ∧ Vec 2 y.2.2.1 y.2.1.length y.2.2.2.1 (pfsL y.2.1) y.2.2.2.2 ∧ y.2.1.length ≤ y.1) (fun y => xs.length - y.1) (0, [], some ⟨g12, 0, none⟩, 0, [.row g12 []]) ⟨Nat.zero_le _, by dsimp only; rw [List.drop_zero]; cases netsR xs <;> rfl, Vec.row (k := 0) rfl rfl (Nat.le_refl _), Nat.zero_le _⟩ (.cons rfl (.cons rfl (.cons rfl .nil))) (.refl _) ?_
  rintro ⟨k, ps, ad, c, E⟩ ⟨hk, hp, hV, hpl⟩
  dsimp only at hk hp hV hpl
  dsimp only
  refine WC.seq ?_
  refine WC.seq ?_
  refine WC.region ?_
  refine WL.val (v_move rfl rfl) (.none rfl) rfl rfl ?_
  refine WL.val (v_move rfl rfl) (.none rfl) rfl rfl ?_
  refine WL.val (v_len_slice rfl rfl Tryd.underlying22) (.none rfl) rfl rfl ?_
  refine WL.test (v_lss rfl rfl rfl) (.none rfl) rfl rfl (fun h16 => ?_) (fun h16 => ?_)
  ·
   refine WL.nil ?_
   refine WE.then_n ?_
   refine WC.cond_t rfl ?_
   refine WC.skip ?_
   refine WE.then_n ?_
   refine WC.block ?_
   refine WC.seq ?_
   refine WC.region ?_
   obtain ⟨x, hx⟩ : ∃ x, xs[k]? = some x := ⟨xs[k]'(by omega), List.getElem?_eq_getElem _⟩
   have hbx := hW.bys x (List.mem_of_getElem? hx)
   obtain ⟨m, rfl⟩ := Int.eq_ofNat_of_zero_le hbx.1
   rw [drop_cons' hx, netsR_cons] at hp
   have hnm : needN (m : Int) = (m + 7) / 8 := (by unfold needN; rw [Int.toNat_natCast])
   have hdl : (xs.drop (k + 1)).length = xs.length - (k + 1) := List.length_drop ..
   refine WL.val (v_move rfl rfl) (.none rfl) rfl rfl ?_
   refine WL.val (v_move rfl rfl) (.none rfl) rfl rfl ?_
   refine WL.val (v_indexAddr (lo := k) rfl rfl rfl Tryd.underlying22 sz_5 (by omega) (by omega)) (.none rfl) rfl rfl ?_
   refine WL.val (v_load1 rfl rfl one_5 (cellOld (fun h => h) (hW.get hx))) (.none rfl) rfl rfl ?_
   refine WL.val (v_conv rfl rfl Tryd.underlying3 Tryd.underlying5 (w_i64 (by omega) (by omega))) (.none rfl) rfl rfl ?_
   refine WL.val (v_assign rfl rfl) (.none rfl) rfl rfl ?_
   refine WL.nil ?_
   refine WE.then_n ?_
   refine WC.seq ?_
   refine WC.region ?_
   refine WL.val (v_move rfl rfl) (.none rfl) rfl rfl ?_
   refine WL.val (v_add rfl rfl rfl (w_i64 (by omega) (by omega))) (.none rfl) rfl rfl ?_
   refine WL.val (v_assign rfl rfl) (.none rfl) rfl rfl ?_
   refine WL.nil ?_
   refine WE.then_n ?_
   refine WC.seq ?_
   refine WC.seq ?_
   refine WC.region ?_
   refine WL.val (v_move rfl rfl) (.none rfl) rfl rfl ?_
   refine WL.test (v_gtr rfl rfl rfl) (.none rfl) rfl rfl (fun h25 => ?_) (fun h25 => ?_)
   ·
    refine WL.nil ?_
    refine WE.then_n ?_
    refine WC.cond_t rfl ?_
    refine WC.seq ?_
    refine WC.region ?_
    refine WL.val (v_assign rfl rfl) (.none rfl) rfl rfl ?_
    refine WL.val (v_assign rfl rfl) (.none rfl) rfl rfl ?_
    refine WL.nil ?_
    refine WE.then_n ?_
    refine WC.ret ?_
    refine WE.then_ret ?_
    refine WE.block_ret ?_
    refine WE.then_ret ?_
    refine WE.block_ret ?_
    refine WE.then_ret ?_
    refine WE.ret2 (P := Tryd.prog) (.inl rfl) Tryd.results43 rfl rfl ?_
    have e0 : netsR xs = none := (by rw [hp, if_pos (.inl (by omega))]; rfl)
    exact fun w' h => ReadP.no e0 h
   ·
    refine WL.nil ?_
    refine WE.then_n ?_
    refine WC.cond_f rfl ?_
    refine WC.skip ?_
    refine WE.then_n ?_
    refine WC.seq ?_
    refine WC.region ?_
    refine WL.buildSlice rfl rfl Tryd.underlying38 sz_3 zero_3 rfl (by decide) rfl (.none rfl) rfl rfl ?_
    intro g26 hg26
    refine WL.val (v_assign rfl rfl) (.none rfl) rfl rfl ?_
    refine WL.nil ?_
    refine WE.then_n ?_
    refine WC.seq ?_
    refine WC.block ?_
    refine WC.loop (fun y : Nat × Option Addr × Nat × List Ent => [(7, .slice y.2.1 (8 * y.1) y.2.2.1), (6, .int .i64 m), (5, .int .i64 (k + 1 + y.1 : Nat)), (4, .slice ad ps.length c), (0, .slice (some ⟨b, o, none⟩) xs.length cv)]) (fun y => y.2.2.2 ++ (E ++ [])) (fun y => k + 1 + y.1 ≤ xs.length ∧ 8 * y.1 < m + 8 ∧ Vec 1 y.2.1 (8 * y.1) y.2.2.1 (i64s (bytesB ((xs.drop (k + 1)).take y.1))) y.2.2.2) (fun y => xs.length - y.1) (0, some ⟨g26, 0, none⟩, 0, [.row g26 []]) ⟨by dsimp only; omega, by dsimp only; omega, Vec.row (k := 0) rfl rfl (Nat.le_refl _)⟩ (.cons rfl (.cons rfl (.int rfl (by dsimp only; omega) (.cons rfl (.cons rfl .nil))))) (.refl _) ?_
    rintro ⟨j, bd, bc, F⟩ ⟨hj, hj8, hF⟩
    dsimp only at hj hj8 hF
    dsimp only
    refine WC.seq ?_
    refine WC.seq ?_
    refine WC.region ?_
    refine WL.val (v_move rfl rfl) (.none rfl) rfl rfl ?_
    refine WL.val (v_len_slice rfl rfl Tryd.underlying38) (.none rfl) rfl rfl ?_
    refine WL.val (v_mul rfl rfl rfl (w_i64 (by omega) (by omega))) (.none rfl) rfl rfl ?_
    refine WL.val (v_move rfl rfl) (.none rfl) rfl rfl ?_
    refine WL.val (v_mul rfl rfl rfl (w_i64 (by omega) (by omega))) (.none rfl) rfl rfl ?_
    refine WL.test (v_lss rfl rfl rfl) (.none rfl) rfl rfl (fun h32 => ?_) (fun h32 => ?_)
    ·
     refine WL.nil ?_
     refine WE.then_n ?_
     refine WC.cond_t rfl ?_
     refine WC.skip ?_
     refine WE.then_n ?_
     refine WC.block ?_
     refine WC.seq ?_
     refine WC.seq ?_
     refine WC.region ?_
     refine WL.val (v_move rfl rfl) (.none rfl) rfl rfl ?_
     refine WL.val (v_move rfl rfl) (.none rfl) rfl rfl ?_
     refine WL.val (v_len_slice rfl rfl Tryd.underlying22) (.none rfl) rfl rfl ?_
     refine WL.test (v_geq rfl rfl rfl) (.none rfl) rfl rfl (fun h36 => ?_) (fun h36 => ?_)
     ·
      refine WL.nil ?_
      refine WE.then_n ?_
      refine WC.cond_t rfl ?_
      refine WC.seq ?_
      refine WC.region ?_
      refine WL.val (v_assign rfl rfl) (.none rfl) rfl rfl ?_
      refine WL.val (v_assign rfl rfl) (.none rfl) rfl rfl ?_
      refine WL.nil ?_
      refine WE.then_n ?_
      refine WC.ret ?_
      refine WE.then_ret ?_
      refine WE.block_ret ?_
      refine WE.then_ret ?_
      refine WE.block_ret ?_
      refine WE.then_ret ?_
      refine WE.block_ret ?_
      refine WE.then_ret ?_
      refine WE.block_ret ?_
      refine WE.then_ret ?_
      refine WE.ret2 (P := Tryd.prog) (.inl rfl) Tryd.results43 rfl rfl ?_
      have e0 : netsR xs = none := (by rw [hp, if_pos (.inr (by rw [hdl, hnm]; omega))]; rfl)
      exact fun w' h => ReadP.no e0 h
     ·
      refine WL.nil ?_
      refine WE.then_n ?_
      refine WC.cond_f rfl ?_
      refine WC.skip ?_
      refine WE.then_n ?_
      refine WC.seq ?_
      refine WC.region ?_
      obtain ⟨z, hz⟩ : ∃ z, xs[k + 1 + j]? = some z := ⟨xs[k + 1 + j]'(by omega), List.getElem?_eq_getElem _⟩
      have hbz := hW.bys z (List.mem_of_getElem? hz)
      have hzd : (xs.drop (k + 1))[j]? = some z := (by rw [List.getElem?_drop]; exact hz)
      refine WL.val (v_move rfl rfl) (.none rfl) rfl rfl ?_
      refine WL.val (v_move rfl rfl) (.none rfl) rfl rfl ?_
      refine WL.val (v_indexAddr (lo := k + 1 + j) rfl rfl rfl Tryd.underlying22 sz_5 (by omega) (by omega)) (.none rfl) rfl rfl ?_
      refine WL.val (v_load1 rfl rfl one_5 (cellOld (fun h => h) (hW.get hz))) (.none rfl) rfl rfl ?_
      refine WL.val (v_conv rfl rfl Tryd.underlying3 Tryd.underlying5 (w_i64 (by omega) (by omega))) (.none rfl) rfl rfl ?_
      refine WL.val (v_assign rfl rfl) (.none rfl) rfl rfl ?_
      refine WL.nil ?_
      refine WE.then_n ?_
      refine WC.seq ?_
      refine WC.region ?_
      refine WL.val (v_move rfl rfl) (.none rfl) rfl rfl ?_
      refine WL.val (v_add rfl rfl rfl (w_i64 (by omega) (by omega))) (.none rfl) rfl rfl ?_
      refine WL.val (v_assign rfl rfl) (.none rfl) rfl rfl ?_
      refine WL.nil ?_
      refine WE.then_n ?_
      refine WC.seq ?_
      refine WC.region ?_
      refine WL.buildSlice rfl rfl Tryd.underlying38 sz_3 zero_3 rfl (by decide) rfl (.none rfl) rfl rfl ?_
      intro g44 hg44
      refine WL.val (v_assign rfl rfl) (.none rfl) rfl rfl ?_
      refine WL.nil ?_
      refine WE.then_n ?_
      refine WC.seq ?_
      refine WC.seq ?_
      refine WC.region ?_
      refine WL.val (v_assign rfl rfl) (.none rfl) rfl rfl ?_
      refine WL.nil ?_
      refine WE.then_n ?_
      refine WC.block ?_
      refine WC.loop (fun y : Nat × Option Addr × Nat × List Ent => [(10, .int .i64 y.1), (9, .slice y.2.1 y.1 y.2.2.1), (8, .int .i64 (z / 2 ^ y.1)), (7, .slice bd (8 * j) bc), (6, .int .i64 m), (5, .int .i64 (k + 1 + j + 1 : Nat)), (4, .slice ad ps.length c), (0, .slice (some ⟨b, o, none⟩) xs.length cv)]) (fun y => y.2.2.2 ++ (F ++ (E ++ []))) (fun y => y.1 ≤ 8 ∧ Vec 1 y.2.1 y.1 y.2.2.1 (i64s (lowB z y.1)) y.2.2.2) (fun y => 8 - y.1) (0, some ⟨g44, 0, none⟩, 0, [.row g44 []]) ⟨by dsimp only; omega, Vec.row (k := 0) rfl rfl (Nat.le_refl _)⟩ (.cons rfl (.cons rfl (.int rfl (by first | omega | (dsimp only; omega)) (.cons rfl (.cons rfl (.int rfl (by first | omega | (dsimp only; omega)) (.cons rfl (.cons rfl .nil)))))))) (.refl _) ?_
      rintro ⟨i, ed, ec, G⟩ ⟨hi, hG⟩
      dsimp only at hi hG
      dsimp only
      refine WC.seq ?_
      refine WC.seq ?_
      refine WC.region ?_
      refine WL.val (v_move rfl rfl) (.none rfl) rfl rfl ?_
      refine WL.test (v_lss rfl rfl rfl) (.none rfl) rfl rfl (fun h46 => ?_) (fun h46 => ?_)
      ·
       refine WL.nil ?_
       refine WE.then_n ?_
       refine WC.cond_t rfl ?_
       refine WC.skip ?_
       refine WE.then_n ?_
       refine WC.seq ?_
       refine WC.block ?_
       refine WC.seq ?_
       refine WC.region ?_
       obtain ⟨hq1, hq2, hq3⟩ := half_pow (z := z) (i := i) (by omega) hbz.1
       have hq4 := Int.ediv_le_self (a := z) (2 ^ (i + 1)) hbz.1
       have hq5 := (half_pow (z := z) (i := i) (by omega) hbz.1).1
       have hq6 : 0 ≤ z / 2 ^ (i + 1) := (by rw [← hq5, Int.tdiv_eq_ediv_of_nonneg hq3]; omega)
       refine WL.val (v_move rfl rfl) (.none rfl) rfl rfl ?_
       refine WL.val (v_remT rfl rfl rfl (by decide)) (.none rfl) rfl rfl ?_
       rw [hq2]
       refine WL.buildSlice rfl rfl Tryd.underlying38 sz_3 zero_3 rfl (by decide) rfl (.none rfl) rfl rfl ?_
       intro g51 hg51
       refine WL.val (v_move rfl rfl) (.none rfl) rfl rfl ?_
       refine WL.appendL rfl rfl rfl Tryd.underlying38 Tryd.underlying38 sz_3 by_3 zero_3 rfl rfl (Vec.row (g := g51) (k := 1) (c := 1) (s := 1) (cs := [.int .i64 (z / 2 ^ i % 2)]) (xs := [.int .i64 (z / 2 ^ i % 2)]) rfl rfl (Nat.le_refl _)) (new := i64s (lowB z i)) (fun h => by obtain ⟨b', o', e, hr'⟩ := hG.src (L := .row g51 [.int .i64 (z / 2 ^ i % 2)] :: (G ++ (F ++ (E ++ [])))) (fun e he => List.mem_cons_of_mem _ (List.mem_append_left _ he)) (by rw [i64s_len, lowB_len]; exact h); exact ⟨b', o', e, fun w hS => hr' _ _ w hS⟩) (by rw [i64s_len, lowB_len, Nat.mul_one]) (i64s_one _) (by omega) (.none rfl) rfl rfl ?_
       intro ad53 c53 E53 hV53 hr53
       rw [Nat.add_comm 1 i] at hV53 ⊢
       refine WL.val (v_assign rfl rfl) (.none rfl) rfl rfl ?_
       refine WL.nil ?_
       refine WE.then_n ?_
       refine WC.region ?_
       refine WL.val (v_move rfl rfl) (.none rfl) rfl rfl ?_
       refine WL.val (v_quoT rfl rfl rfl (by decide) (show _ = z / 2 ^ (i + 1) from by rw [hq1]; exact w_i64 (by omega) (by omega))) (.none rfl) rfl rfl ?_
       refine WL.val (v_assign rfl rfl) (.none rfl) rfl rfl ?_
       refine WL.nil ?_
       refine WE.block_n ?_
       refine WE.then_n ?_
       refine WC.region ?_
       refine WL.val (v_move rfl rfl) (.none rfl) rfl rfl ?_
       refine WL.val (v_add rfl rfl rfl (w_i64 (by omega) (by omega))) (.none rfl) rfl rfl ?_
       refine WL.val (v_assign rfl rfl) (.none rfl) rfl rfl ?_
       refine WL.nil ?_
       exact WE.next (i + 1, ad53, c53, E53) (by dsimp only; omega) ⟨by dsimp only; omega, hV53⟩ (.int rfl (by dsimp only; omega) (.cons rfl (.cons rfl (.cons rfl (.cons rfl (.cons rfl (.cons rfl (.cons rfl .nil)))))))) (List.Sublist.append_left (List.sublist_append_right G _) _)
      ·
       refine WL.nil ?_
       refine WE.then_n ?_
       refine WC.cond_f rfl ?_
       refine WC.exit ?_
       refine WE.then_exit ?_
       refine WE.then_exit ?_
       refine WE.block_hit ?_
       refine WE.then_n ?_
       refine WC.region ?_
       have hi8 : i = 8 := (by omega)
       rw [hi8] at hG
       rw [hi8]
       refine WL.to (L' := F ++ (G ++ (E ++ []))) (fun w hS => St.front (R := F) G hS) ?_
       refine WL.val (v_move rfl rfl) (.none rfl) rfl rfl ?_
       refine WL.val (v_move rfl rfl) (.none rfl) rfl rfl ?_
       refine WL.appendL rfl rfl rfl Tryd.underlying38 Tryd.underlying38 sz_3 by_3 zero_3 rfl rfl hF (new := i64s (lowB z 8)) (fun h => by obtain ⟨b', o', e, hr'⟩ := hG.src (L := F ++ (G ++ (E ++ []))) (fun e he => List.mem_append_right _ (List.mem_append_left _ he)) (by rw [i64s_len, lowB_len]; exact h); exact ⟨b', o', e, fun w hS => hr' _ _ w hS⟩) (by rw [i64s_len, lowB_len]) (i64s_one _) (by omega) (.none rfl) rfl rfl ?_
       intro ad58 c58 E58 hV58 hr58
       rw [← i64s_app, ← bytesB_snoc, ← take_succ_get hzd, show 8 * j + 8 = 8 * (j + 1) by omega] at hV58
       rw [show 8 * j + 8 = 8 * (j + 1) by omega]
       refine WL.val (v_assign rfl rfl) (.none rfl) rfl rfl ?_
       refine WL.nil ?_
       refine WE.block_n ?_
       exact WE.next (j + 1, ad58, c58, E58) (by dsimp only; omega) ⟨by dsimp only; omega, by dsimp only; omega, hV58⟩ (.cons rfl (.cons rfl (.cons rfl (.cons rfl (.cons rfl .nil))))) (List.Sublist.append_left (List.sublist_append_right G _) _)
    ·
     refine WL.nil ?_
     refine WE.then_n ?_
     refine WC.cond_f rfl ?_
     refine WC.exit ?_
     refine WE.then_exit ?_
     refine WE.then_exit ?_
     refine WE.block_hit ?_
     refine WE.then_n ?_
     refine WC.seq ?_
     refine WC.block ?_
     refine WC.loop (fun y : Nat × Option Addr × Nat × List Ent => [(7, .slice y.2.1 (8 * j + y.1) y.2.2.1), (6, .int .i64 m), (5, .int .i64 (k + 1 + j : Nat)), (4, .slice ad ps.length c), (0, .slice (some ⟨b, o, none⟩) xs.length cv)]) (fun y => y.2.2.2 ++ (E ++ [])) (fun y => 8 * j + y.1 ≤ 32 ∧ Vec 1 y.2.1 (8 * j + y.1) y.2.2.1 (i64s (bytesB ((xs.drop (k + 1)).take j) ++ List.replicate y.1 0)) y.2.2.2) (fun y => 32 - y.1) (0, bd, bc, F) ⟨by dsimp only; omega, by dsimp only; rw [show List.replicate 0 (0 : Int) = [] from rfl, List.append_nil]; exact hF⟩ (.cons rfl (.cons rfl (.cons rfl (.cons rfl (.cons rfl .nil))))) (.refl _) ?_
     rintro ⟨t, hd, hc, H⟩ ⟨ht, hH⟩
     dsimp only at ht hH
     dsimp only
     refine WC.seq ?_
     refine WC.seq ?_
     refine WC.region ?_
     refine WL.val (v_move rfl rfl) (.none rfl) rfl rfl ?_
     refine WL.val (v_len_slice rfl rfl Tryd.underlying38) (.none rfl) rfl rfl ?_
     refine WL.test (v_lss rfl rfl rfl) (.none rfl) rfl rfl (fun h61 => ?_) (fun h61 => ?_)
     ·
      refine WL.nil ?_
      refine WE.then_n ?_
      refine WC.cond_t rfl ?_
      refine WC.skip ?_
      refine WE.then_n ?_
      refine WC.block ?_
      refine WC.region ?_
      refine WL.val (v_move rfl rfl) (.none rfl) rfl rfl ?_
      refine WL.buildSlice rfl rfl Tryd.underlying38 sz_3 zero_3 rfl (by decide) rfl (.none rfl) rfl rfl ?_
      intro g63 hg63
      refine WL.to (L' := H ++ (.row g63 [.int .i64 0] :: (E ++ []))) (fun w hS => St.front (R := H) (L := E ++ []) [.row g63 [.int .i64 0]] hS) ?_
      refine WL.appendL rfl rfl rfl Tryd.underlying38 Tryd.underlying38 sz_3 by_3 zero_3 rfl rfl hH (new := [.int .i64 0]) (fun _ => ⟨g63, 0, rfl, fun w hS => allAt (g := g63) w hS⟩) rfl rfl (by omega) (.none rfl) rfl rfl ?_
      intro ad64 c64 E64 hV64 hr64
      have hrep : i64s (bytesB ((xs.drop (k + 1)).take j) ++ List.replicate t 0) ++ [.int .i64 0] = i64s (bytesB ((xs.drop (k + 1)).take j) ++ List.replicate (t + 1) 0) := (by rw [List.replicate_succ', ← List.append_assoc, i64s_app _ [0]]; rfl)
      rw [hrep, Nat.add_assoc] at hV64
      rw [Nat.add_assoc]
      refine WL.val (v_assign rfl rfl) (.none rfl) rfl rfl ?_
      refine WL.nil ?_
      refine WE.block_n ?_
      exact WE.next (t + 1, ad64, c64, E64) (by dsimp only; omega) ⟨by dsimp only; omega, hV64⟩ (.cons rfl (.cons rfl (.cons rfl (.cons rfl (.cons rfl .nil))))) (List.Sublist.append_left (.cons _ (.refl _)) _)
     ·
      refine WL.nil ?_
      refine WE.then_n ?_
      refine WC.cond_f rfl ?_
      refine WC.exit ?_
      refine WE.then_exit ?_
      refine WE.then_exit ?_
      refine WE.block_hit ?_
      refine WE.then_n ?_
      refine WC.seq ?_
      refine WC.seq ?_
      refine WC.region ?_
      have hzl : ((xs.drop (k + 1)).take j).length = j := (by rw [List.length_take]; omega)
      have hb4 : ((xs.drop (k + 1)).take j).length ≤ 4 := (by omega)
      have ht32 : 8 * j + t = 32 := (by omega)
      have hbe : bytesB ((xs.drop (k + 1)).take j) ++ List.replicate t 0 = b32 ((xs.drop (k + 1)).take j) := (by unfold b32; rw [hzl, show t = 32 - 8 * j by omega])
      rw [hbe, ht32] at hH
      rw [ht32]
      rcases hH with ⟨_, h0, _⟩ | ⟨g, cs, rfl, rfl, hx2, hcl, hkc⟩
      · omega
      refine WL.as (L' := .row g cs :: (E ++ [])) rfl ?_
      refine WL.val (v_move rfl rfl) (.none rfl) rfl rfl ?_
      refine WL.val (v_assign rfl rfl) (.none rfl) rfl rfl ?_
      refine WL.nil ?_
      refine WE.then_n ?_
      refine WC.block ?_
      refine WC.loop (fun y : Nat × List Value => [(11, .int .i64 y.1), (7, .slice (some ⟨g, 0, none⟩) 32 hc), (6, .int .i64 m), (5, .int .i64 (k + 1 + j : Nat)), (4, .slice ad ps.length c), (0, .slice (some ⟨b, o, none⟩) xs.length cv)]) (fun y => .row g y.2 :: (E ++ [])) (fun y => m ≤ y.1 ∧ y.1 ≤ 32 ∧ y.2.length = hc * 1 ∧ ∃ bs : List Int, y.2.take 32 = i64s bs ∧ bs.length = 32 ∧ ∀ q : Nat, q < 32 → bs[q]? = if m ≤ q ∧ q < y.1 then some 0 else (b32 ((xs.drop (k + 1)).take j))[q]?) (fun y => 32 - y.1) (m, cs) ⟨Nat.le_refl _, by dsimp only; omega, hcl, b32 ((xs.drop (k + 1)).take j), by rw [← hx2], b32_len hb4, fun q _ => by rw [if_neg (by dsimp only; omega)]⟩ (.cons rfl (.cons rfl (.cons rfl (.cons rfl (.cons rfl (.cons rfl .nil)))))) (.refl _) ?_
      rintro ⟨i, cs2⟩ ⟨him, hi32, hcl2, bs, hbs, hbl, hbq⟩
      dsimp only at him hi32 hcl2 hbs hbq
      dsimp only
      refine WC.seq ?_
      refine WC.seq ?_
      refine WC.region ?_
      refine WL.val (v_move rfl rfl) (.none rfl) rfl rfl ?_
      refine WL.test (v_lss rfl rfl rfl) (.none rfl) rfl rfl (fun h67 => ?_) (fun h67 => ?_)
      ·
       refine WL.nil ?_
       refine WE.then_n ?_
       refine WC.cond_t rfl ?_
       refine WC.skip ?_
       refine WE.then_n ?_
       refine WC.seq ?_
       refine WC.block ?_
       refine WC.region ?_
       refine WL.val (v_move rfl rfl) (.none rfl) rfl rfl ?_
       refine WL.val (v_move rfl rfl) (.none rfl) rfl rfl ?_
       refine WL.val (v_indexAddr (lo := i) rfl rfl rfl Tryd.underlying38 sz_3 (by omega) (by omega)) (.none rfl) rfl rfl ?_
       refine WL.store1 rfl rfl rfl rfl one_3 (by omega) (.none rfl) rfl ?_
       refine WL.nil ?_
       refine WE.block_n ?_
       refine WE.then_n ?_
       refine WC.region ?_
       refine WL.val (v_move rfl rfl) (.none rfl) rfl rfl ?_
       refine WL.val (v_add rfl rfl rfl (w_i64 (by omega) (by omega))) (.none rfl) rfl rfl ?_
       refine WL.val (v_assign rfl rfl) (.none rfl) rfl rfl ?_
       refine WL.nil ?_
       exact WE.next (i + 1, cs2.set (0 + i * 1) (.int .i64 0)) (by dsimp only; omega) ⟨by dsimp only; omega, by dsimp only; omega, by rw [List.length_set]; exact hcl2, bs.set i 0, by
       dsimp only
       rw [List.take_set, hbs, show 0 + i * 1 = i by omega]
       unfold i64s
       rw [List.map_set], by rw [List.length_set]; exact hbl, fun q hq => by
       rw [List.getElem?_set]
       dsimp only
       by_cases e : i = q
       · subst e
         rw [if_pos rfl, if_pos (by omega), if_pos (by omega)]
       · rw [if_neg e, hbq q hq]
         by_cases h : m ≤ q ∧ q < i
         · rw [if_pos h, if_pos (by omega)]
         · rw [if_neg h, if_neg (by omega)]⟩ (.int rfl (by dsimp only; omega) (.cons rfl (.cons rfl (.cons rfl (.cons rfl (.cons rfl .nil)))))) (.refl _)
      ·
       refine WL.nil ?_
       refine WE.then_n ?_
       refine WC.cond_f rfl ?_
       refine WC.exit ?_
       refine WE.then_exit ?_
       refine WE.then_exit ?_
       refine WE.block_hit ?_
       refine WE.then_n ?_
       refine WC.region ?_
       refine WL.val (v_move rfl rfl) (.none rfl) rfl rfl ?_
       refine WL.val (v_move rfl rfl) (.none rfl) rfl rfl ?_
       have hl32 := b32_len hb4
       have hbl2 : bs = (b32 ((xs.drop (k + 1)).take j)).take m ++ List.replicate (32 - m) 0 := List.ext_getElem? fun q => (by
         by_cases hq : q < 32
         · rw [hbq q hq]
           by_cases h : m ≤ q ∧ q < i
           · rw [if_pos h, List.getElem?_append_right (by rw [List.length_take, hl32]; omega), List.getElem?_replicate, if_pos (by rw [List.length_take, hl32]; omega)]
           · rw [if_neg h, List.getElem?_append_left (by rw [List.length_take, hl32]; omega), List.getElem?_take, if_pos (by omega)]
         · rw [List.getElem?_eq_none (by omega), List.getElem?_eq_none (by rw [List.length_append, List.length_take, List.length_replicate, hl32]; omega)])
       have hBy : Bys ((xs.drop (k + 1)).take j) := fun y hy => hW.bys y (List.mem_of_mem_drop (List.mem_of_mem_take hy))
       have hnum : bitsN bs = cutI (addrI ((xs.drop (k + 1)).take j)) m := (by rw [hbl2, cut_bits hBy hb4 m (by omega)])
       have hbits : Bits bs := (by rw [hbl2]; exact Bits.app (fun y hy => b32_bits _ y (List.mem_of_mem_take hy)) (Bits.zeros _))
       have hVb : Vec 1 (some ⟨g, 0, none⟩) 32 hc (i64s bs) [.row g cs2] := Vec.row (by rw [← hbs]) hcl2 hkc
       have hnj : needN (m : Int) = j := (by rw [hnm]; omega)
       obtain ⟨p, hpe⟩ : ∃ p : PfL, p = ⟨cutI (addrI ((xs.drop (k + 1)).take j)) m, inI m⟩ := ⟨_, rfl⟩
       have hpc : [Value.int .u32 (bitsN bs), .int .i64 m] = p.cells := (by rw [hpe, hnum]; unfold PfL.cells inI; dsimp only; rw [show min (max (m : Int) 0) 32 = m by omega])
       refine WL.call rfl rfl ck_64 (.none rfl) rfl rfl ?_
       intro w hS
       refine Calls.then (RNumV_c _ g hc bs cs2 hVb hbl hbits (hS.holds _ (by simp))) hS ?_
       refine WL.val (v_move rfl rfl) (.none rfl) rfl rfl ?_
       refine WL.val (v_build rfl rfl zero_132 plc_132 rfl) (.none rfl) rfl rfl ?_
       refine WL.buildSlice rfl rfl Tryd.underlying47 sz_132 zero_132 rfl (by decide) rfl (.none rfl) rfl rfl ?_
       intro g78 hg78
       refine WL.rowAs (g := g78) (cs' := p.cells) hpc ?_
       refine WL.to (L' := E ++ (.row g78 p.cells :: [.row g cs2])) (fun w hS => hS.permC (by intro c h1 h2 h3 e; have h0 := h3 e [] []; rw [List.append_nil] at h0; simp only [h1, h2, h3]; omega)) ?_
       refine WL.appendL rfl rfl rfl Tryd.underlying47 Tryd.underlying47 sz_132 by_132 zero_132 rfl rfl hV (new := p.cells) (fun _ => ⟨g78, 0, rfl, fun w hS => allAt (g := g78) w hS⟩) rfl rfl (by omega) (.none rfl) rfl rfl ?_
       intro ad79 c79 E79 hV79 hr79
       rw [← pfsL_snoc, show ps.length + 1 = (ps ++ [p]).length by rw [List.length_append]; rfl] at hV79
       rw [show ps.length + 1 = (ps ++ [p]).length by rw [List.length_append]; rfl]
       refine WL.val (v_assign rfl rfl) (.none rfl) rfl rfl ?_
       refine WL.nil ?_
       refine WE.block_n ?_
       exact WE.next (k + 1 + j, ps ++ [p], ad79, c79, E79) (by dsimp only; omega) ⟨by dsimp only; omega, by
       dsimp only
       rw [hp, if_neg (by rw [hdl, hnj]; omega), hnj, List.drop_drop]
       cases netsR (xs.drop (k + 1 + j)) with
       | none => rfl
       | some q =>
         show some (ps ++ _ :: q) = some ((ps ++ [p]) ++ q)
         rw [hpe, List.append_assoc]; rfl, hV79, by dsimp only; rw [List.length_append]; show ps.length + 1 ≤ _; omega⟩ (.cons rfl (.cons rfl (.cons rfl .nil))) (List.Sublist.append_left (List.nil_sublist _) _)
  ·
   refine WL.nil ?_
   refine WE.then_n ?_
   refine WC.cond_f rfl ?_
   refine WC.exit ?_
   refine WE.then_exit ?_
   refine WE.then_exit ?_
   refine WE.block_hit ?_
   refine WE.then_n ?_
   refine WC.seq ?_
   refine WC.region ?_
   refine WL.val (v_move rfl rfl) (.none rfl) rfl rfl ?_
   refine WL.val (v_assign rfl rfl) (.none rfl) rfl rfl ?_
   refine WL.val (v_assign rfl rfl) (.none rfl) rfl rfl ?_
   refine WL.nil ?_
   refine WE.then_n ?_
   refine WC.ret ?_
   refine WE.ret2 (P := Tryd.prog) (.inl rfl) Tryd.results43 rfl rfl ?_
   have e0 : netsR xs = some ps := (by
     rw [hp, List.drop_eq_nil_of_le (by omega), netsR]
     show some (_ ++ []) = _
     rw [List.append_nil])
   exact fun w' h => by
     unfold ReadP
     rw [e0]
     exact ⟨ad, c, E, rfl, hV, h.sub (List.sublist_append_left _ _)⟩
end Go.Proofs.YtpjbofodllhjbaaDoor
/- The reference: missing. -/
namespace Go.Proofs.YtpjbofodllhjbaaDoor
open Go.RowKit

theorem RMissing_c (w : World) (a : AtL) (h0 : 0 ≤ a.has) (h1 : a.has ≤ 511) : Calls Tryd.prog 45 #[.agg a.rcells.toArray] w fun e w' => e = .returned (.int .i64 (missI a.has)) ∧ Frm (fun _ => False) w w' := by
  have e1 : hasB a.has 1 = decide (a.has / 2 % 2 = 1) := by unfold hasB; exact decide_eq_decide.2 ⟨fun h => h.2.2, fun h => ⟨by omega, by omega, h⟩⟩
  have e2 : hasB a.has 2 = decide (a.has / 4 % 2 = 1) := by unfold hasB; exact decide_eq_decide.2 ⟨fun h => h.2.2, fun h => ⟨by omega, by omega, h⟩⟩
  have e3 : hasB a.has 3 = decide (a.has / 8 % 2 = 1) := by unfold hasB; exact decide_eq_decide.2 ⟨fun h => h.2.2, fun h => ⟨by omega, by omega, h⟩⟩
  have t1 : ∀ n : Int, 0 ≤ n → n.tmod 2 = n % 2 := fun n hn => Int.tmod_eq_emod_of_nonneg hn
  have q2 : IntKind.i64.wrap (a.has.tdiv 2) = a.has / 2 := by rw [Int.tdiv_eq_ediv_of_nonneg h0]; exact w_i64 (by omega) (by omega)
  have q4 : IntKind.i64.wrap (a.has.tdiv 4) = a.has / 4 := by rw [Int.tdiv_eq_ediv_of_nonneg h0]; exact w_i64 (by omega) (by omega)
  have q8 : IntKind.i64.wrap (a.has.tdiv 8) = a.has / 8 := by rw [Int.tdiv_eq_ediv_of_nonneg h0]; exact w_i64 (by omega) (by omega)
  refine enter Tryd.func45 rfl Tryd.ntmps45 rfl (St.start (fun _ => False) w) ?_
  refine WC.seq ?_
  refine WC.region ?_
  refine WL.box rfl rfl rfl (.none rfl) rfl rfl ?_
  intro g1 hg1
  refine WL.val (v_assign rfl rfl) (.none rfl) rfl rfl ?_
  refine WL.nil ?_
  refine WE.then_n ?_
  refine WC.seq ?_
  refine WC.seq ?_
  refine WC.region ?_
  refine WL.val (v_fieldAddr0 rfl rfl fld_51_0) (.none rfl) rfl rfl ?_
  refine WL.val (v_load1 rfl rfl one_3 (cellAt rfl)) (.none rfl) rfl rfl ?_
  refine WL.val (v_quoT rfl rfl rfl (by decide) (q2)) (.none rfl) rfl rfl ?_
  refine WL.val (v_remT rfl rfl rfl (by decide)) (.none rfl) rfl rfl ?_
  rw [t1 _ (by omega)]
  refine WL.test (v_eql rfl rfl rfl) (.none rfl) rfl rfl (fun h7 => ?_) (fun h7 => ?_)
  ·
   refine WL.nil ?_
   refine WE.then_n ?_
   refine WC.cond_t rfl ?_
   refine WC.seq ?_
   refine WC.region ?_
   refine WL.val (v_assign rfl rfl) (.none rfl) rfl rfl ?_
   refine WL.nil ?_
   refine WE.then_n ?_
   refine WC.ret ?_
   refine WE.then_ret ?_
   refine WE.ret1 (P := Tryd.prog) (.inl rfl) Tryd.results45 rfl ?_
   exact fun w' h => ⟨by unfold missI; rw [e1, decide_eq_false (by omega)]; rfl, h.frm⟩
  ·
   refine WL.nil ?_
   refine WE.then_n ?_
   refine WC.cond_f rfl ?_
   refine WC.skip ?_
   refine WE.then_n ?_
   refine WC.seq ?_
   refine WC.seq ?_
   refine WC.region ?_
   refine WL.val (v_fieldAddr0 rfl rfl fld_51_0) (.none rfl) rfl rfl ?_
   refine WL.val (v_load1 rfl rfl one_3 (cellAt rfl)) (.none rfl) rfl rfl ?_
   refine WL.val (v_quoT rfl rfl rfl (by decide) (q4)) (.none rfl) rfl rfl ?_
   refine WL.val (v_remT rfl rfl rfl (by decide)) (.none rfl) rfl rfl ?_
   rw [t1 _ (by omega)]
   refine WL.test (v_eql rfl rfl rfl) (.none rfl) rfl rfl (fun h12 => ?_) (fun h12 => ?_)
   ·
    refine WL.nil ?_
    refine WE.then_n ?_
    refine WC.cond_t rfl ?_
    refine WC.seq ?_
    refine WC.region ?_
    refine WL.val (v_assign rfl rfl) (.none rfl) rfl rfl ?_
    refine WL.nil ?_
    refine WE.then_n ?_
    refine WC.ret ?_
    refine WE.then_ret ?_
    refine WE.ret1 (P := Tryd.prog) (.inl rfl) Tryd.results45 rfl ?_
    exact fun w' h => ⟨by unfold missI; rw [e1, e2, decide_eq_true (by omega), decide_eq_false (by omega)]; rfl, h.frm⟩
   ·
    refine WL.nil ?_
    refine WE.then_n ?_
    refine WC.cond_f rfl ?_
    refine WC.skip ?_
    refine WE.then_n ?_
    refine WC.seq ?_
    refine WC.seq ?_
    refine WC.region ?_
    refine WL.val (v_fieldAddr0 rfl rfl fld_51_0) (.none rfl) rfl rfl ?_
    refine WL.val (v_load1 rfl rfl one_3 (cellAt rfl)) (.none rfl) rfl rfl ?_
    refine WL.val (v_quoT rfl rfl rfl (by decide) (q8)) (.none rfl) rfl rfl ?_
    refine WL.val (v_remT rfl rfl rfl (by decide)) (.none rfl) rfl rfl ?_
    rw [t1 _ (by omega)]
    refine WL.test (v_eql rfl rfl rfl) (.none rfl) rfl rfl (fun h17 => ?_) (fun h17 => ?_)
    ·
     refine WL.nil ?_
     refine WE.then_n ?_
     refine WC.cond_t rfl ?_
     refine WC.seq ?_
     refine WC.region ?_
     refine WL.val (v_assign rfl rfl) (.none rfl) rfl rfl ?_
     refine WL.nil ?_
     refine WE.then_n ?_
     refine WC.ret ?_
     refine WE.then_ret ?_
     refine WE.ret1 (P := Tryd.prog) (.inl rfl) Tryd.results45 rfl ?_
     exact fun w' h => ⟨by unfold missI; rw [e1, e2, e3, decide_eq_true (by omega), decide_eq_true (by omega), decide_eq_false (by omega)]; rfl, h.frm⟩
    ·
     refine WL.nil ?_
     refine WE.then_n ?_
     refine WC.cond_f rfl ?_
     refine WC.skip ?_
     refine WE.then_n ?_
     refine WC.seq ?_
     refine WC.region ?_
     refine WL.val (v_assign rfl rfl) (.none rfl) rfl rfl ?_
     refine WL.nil ?_
     refine WE.then_n ?_
     refine WC.ret ?_
     refine WE.ret1 (P := Tryd.prog) (.inl rfl) Tryd.results45 rfl ?_
     exact fun w' h => ⟨by unfold missI; rw [e1, e2, e3, decide_eq_true (by omega), decide_eq_true (by omega), decide_eq_true (by omega)]; rfl, h.frm⟩
end Go.Proofs.YtpjbofodllhjbaaDoor
/- The reference's attributes: an attribute put in among the others, plainly. -/
namespace Go.Proofs.YtpjbofodllhjbaaDoor
open Go.RowKit

theorem sortO_ins {os : List (Int × List Int)} {t : Int} {v : List Int} (hnd : ((os ++ [(t, v)]).map (·.1)).Nodup) (k : Nat) (hlt : ∀ j x, j < k → (sortO os)[j]? = some x → x.1 < t) (hge : ∀ x, (sortO os)[k]? = some x → t ≤ x.1) :
    sortO (os ++ [(t, v)]) = (sortO os).take k ++ (t, v) :: (sortO os).drop k := by
  have hp := sortO_perm os
  have ha := sortO_asc os
  refine (sortO_is ?_ hnd ?_).symm
  · refine List.perm_middle.trans ?_
    rw [List.take_append_drop]
    exact (hp.cons _).trans (List.perm_append_comm (l₁ := [(t, v)]))
  · have h1 : ∀ a ∈ (sortO os).take k, a.1 < t := fun a h => by
      obtain ⟨j, hj, e⟩ := List.getElem_of_mem h
      rw [List.length_take] at hj
      refine hlt j a (by omega) ?_
      rw [← e, List.getElem_take, List.getElem?_eq_getElem]
    have h2 : ∀ b ∈ (sortO os).drop k, t ≤ b.1 := fun b h => by
      cases hx : (sortO os)[k]? with
      | none => rw [List.drop_eq_nil_of_le (List.getElem?_eq_none_iff.1 hx)] at h; cases h
      | some x =>
        have hd := ha.sublist (List.drop_sublist k _)
        rw [drop_cons' hx] at hd h
        have hk := hge x hx
        rcases List.mem_cons.1 h with rfl | h
        · exact hk
        · exact Int.le_trans hk ((List.pairwise_cons.1 hd).1 b h)
    refine List.pairwise_append.2 ⟨ha.sublist (List.take_sublist k _), List.pairwise_cons.2 ⟨h2, ha.sublist (List.drop_sublist k _)⟩, fun a hA b hb => ?_⟩
    have := h1 a hA
    rcases List.mem_cons.1 hb with rfl | hb
    · show a.1 ≤ t; omega
    · have := h2 b hb; omega
end Go.Proofs.YtpjbofodllhjbaaDoor
/- The reference's attributes: carrefourref06.Decode. (Under way: what stands behind the head of an attribute is not walked yet.) -/
namespace Go.Proofs.YtpjbofodllhjbaaDoor
open Go.RowKit

structure ReS where
  k : Nat
  d : AtD
  seen : List Int
  a : AtL
  es : Array MapEntry
  mc : Nat
  mm : Value → Option Value
  E : List Ent
  K : List Ent
/-- What the reference holds while it reads. -/
structure ReS.Good (y : ReS) (xs : List Int) : Prop where
  k : y.k ≤ xs.length
  dec : decD AtL.zero.d [] xs = decD y.d y.seen (xs.drop y.k)
  seen : SeenI y.d y.seen
  same : y.a.d = { y.d with others := sortO y.d.others }
  own : AtOwn y.K y.a
  oths : Vec 2 y.a.oad y.a.others.length y.a.oc (othsL y.a.others) y.E
  vals : ∀ o ∈ y.a.others, OthOwn y.K o
  map : IMap (KInt .i64) y.es y.mm
  com : (8 : Int) ∉ y.seen → y.a.cad = none ∧ y.a.cc = 0
  ol : y.a.others.length ≤ y.k
  known : ∀ t : Int, (y.mm (.int .i64 t)).getD (.bool false) = .bool (decide (t ∈ y.seen))
def wantL : List Value := [.int .i64 0, .int .i64 64, .int .i64 64, .int .i64 64, .int .i64 128, .int .i64 64, .int .i64 64, .int .i64 192, .int .i64 192]
def sizeL : List Value := [.int .i64 0, .int .i64 1, .int .i64 (-1), .int .i64 4, .int .i64 4, .int .i64 4, .int .i64 0, .int .i64 6, .int .i64 (-1)]
theorem fromN_4 {ys : List Int} (h : fOf ys 0 / 16 % 2 = 1) : fromN ys = 4 := by unfold fromN; rw [if_pos h]
theorem fromN_3 {ys : List Int} (h : ¬ fOf ys 0 / 16 % 2 = 1) : fromN ys = 3 := by unfold fromN; rw [if_neg h]
theorem toN_4 {ys : List Int} (h : fOf ys 0 / 16 % 2 = 1) : toN ys = 4 + (readI ((ys.drop 2).take 2)).toNat := by unfold toN; rw [fromN_4 h, List.drop_take]
theorem toN_3 {ys : List Int} (h : ¬ fOf ys 0 / 16 % 2 = 1) (hl : 3 ≤ ys.length) (h2 : 0 ≤ fOf ys 2) : toN ys = 3 + (fOf ys 2).toNat := by
  unfold toN
  rw [fromN_3 h]
  match ys, hl with
  | a :: b :: c :: zs, _ =>
    show 3 + (0 * 256 + c).toNat = 3 + (fOf (a :: b :: c :: zs) 2).toNat
    rw [show fOf (a :: b :: c :: zs) 2 = c from rfl]
    omega
theorem decD_fail {d : AtD} {seen xs : List Int} {f : Int × ByteArray} (h0 : 0 < xs.length) (h : ¬ (xs.length < fromN xs ∨ xs.length < toN xs ∨ fOf xs 1 ∈ seen)) (hs : stepD d (xs.take (toN xs)) ((xs.take (toN xs)).drop (fromN xs)) = .inr f) : decD d seen xs = .inr f := by
  rw [decD_step h0 h, hs]
theorem decD_go {d d' : AtD} {seen xs : List Int} (h0 : 0 < xs.length) (h : ¬ (xs.length < fromN xs ∨ xs.length < toN xs ∨ fOf xs 1 ∈ seen)) (hs : stepD d (xs.take (toN xs)) ((xs.take (toN xs)).drop (fromN xs)) = .inl d') : decD d seen xs = decD d' (fOf xs 1 :: seen) (xs.drop (toN xs)) := by
  rw [decD_step h0 h, hs]
abbrev badF (all : List Int) : Prop := fOf all 0 / 64 * 64 ≠ flagI (fOf all 1).toNat ∨ (fOf all 0 / 32 % 2 * 32 ≠ 0 ∧ fOf all 0 / 64 * 64 ≠ 192)
abbrev badZ (all v : List Int) : Prop := (0 ≤ sizeI (fOf all 1).toNat ∧ (v.length : Int) ≠ sizeI (fOf all 1).toNat) ∨ (fOf all 1 = 8 ∧ v.length % 4 ≠ 0)
theorem takeD_4 {d : AtD} {all v : List Int} (h : badF all) : takeD d all v = .inr (4, strOf all) := by unfold takeD; exact if_pos h
theorem takeD_5 {d : AtD} {all v : List Int} (h1 : ¬ badF all) (h2 : badZ all v) : takeD d all v = .inr (5, strOf all) := by unfold takeD; rw [if_neg h1]; exact if_pos h2
theorem takeD_9 {d : AtD} {all v : List Int} (h1 : ¬ badF all) (h2 : ¬ badZ all v) (h3 : fOf all 1 = 8 ∧ 256 < v.length / 4) : takeD d all v = .inr (9, strOf all) := by unfold takeD; rw [if_neg h1]; rw [if_neg h2]; exact if_pos h3
theorem takeD_11 {d : AtD} {all v : List Int} (h1 : ¬ badF all) (h2 : ¬ badZ all v) (ht : fOf all 1 = 2) (hp : partsR v = none) : takeD d all v = .inr (11, ⟨#[]⟩) := by
  unfold takeD
  rw [if_neg h1, if_neg h2, if_neg (by omega), ht]
  unfold partsR at hp
  show (match (pathR v).map (fun p => { d with path := p }) with | none => _ | some d' => _) = _
  cases hq : pathR v with
  | none => rfl
  | some p =>
    rw [hq] at hp
    have hb : p.all segBD = false := by
      cases hw : p.all segBD
      · rfl
      · rw [show (Option.bind (some p) fun p => if p.all segBD then some p else none) = if p.all segBD then some p else none from rfl, hw] at hp; cases hp
    exact if_pos ⟨rfl, hb⟩
theorem takeD_ok {d d' : AtD} {all v : List Int} (h1 : ¬ badF all) (h2 : ¬ badZ all v) (h3 : ¬ (fOf all 1 = 8 ∧ 256 < v.length / 4)) (hs : setD d (fOf all 1).toNat v = some d') (hp : fOf all 1 = 2 → d'.path.all segBD = true) (ho : fOf all 1 = 1 → wiB d'.origin 2 = true) (hh : fOf all 1 = 3 → hopB d'.hop = true) :
    takeD d all v = .inl { d' with has := d'.has + 2 ^ (fOf all 1).toNat } := by
  unfold takeD
  rw [if_neg h1, if_neg h2, if_neg h3, hs]
  show (if fOf all 1 = 2 ∧ d'.path.all segBD = false then _ else _) = _
  rw [if_neg (fun ⟨a, b⟩ => by rw [hp a] at b; cases b)]
  rw [if_neg (fun ⟨a, b⟩ => by rw [ho a] at b; cases b), if_neg (fun ⟨a, b⟩ => by rw [hh a] at b; cases b)]
theorem takeD_6 {d : AtD} {all v : List Int} (h1 : ¬ badF all) (h2 : ¬ badZ all v) (ht : fOf all 1 = 1) (ho : wiB (readI v) 2 = false) : takeD d all v = .inr (6, strOf all) := by
  unfold takeD
  rw [if_neg h1, if_neg h2, if_neg (by omega), ht]
  show (if _ ∧ _ then _ else if (1 : Int) = 1 ∧ wiB (readI v) 2 = false then _ else _) = _
  rw [if_neg (fun h => by cases h.1), if_pos ⟨rfl, ho⟩]
theorem takeD_8 {d : AtD} {all v : List Int} (h1 : ¬ badF all) (h2 : ¬ badZ all v) (ht : fOf all 1 = 3) (ho : hopB (readI v) = false) : takeD d all v = .inr (8, strOf all) := by
  unfold takeD
  rw [if_neg h1, if_neg h2, if_neg (by omega), ht]
  show (if _ ∧ _ then _ else if _ ∧ _ then _ else if (3 : Int) = 3 ∧ hopB (readI v) = false then _ else _) = _
  rw [if_neg (fun h => by cases h.1), if_neg (fun h => by cases h.1), if_pos ⟨rfl, ho⟩]
theorem stepD_k {d : AtD} {all v : List Int} (h : 1 ≤ fOf all 1 ∧ fOf all 1 ≤ 8) : stepD d all v = takeD d all v := if_pos h
theorem stepD_o {d : AtD} {all v : List Int} (h : ¬ (1 ≤ fOf all 1 ∧ fOf all 1 ≤ 8)) : stepD d all v = otherD d all v := if_neg h
theorem sizeL_get {t : Nat} (h1 : 1 ≤ t) (h8 : t ≤ 8) : sizeL[t]? = some (.int .i64 (sizeI t)) := by
  have : t = 1 ∨ t = 2 ∨ t = 3 ∨ t = 4 ∨ t = 5 ∨ t = 6 ∨ t = 7 ∨ t = 8 := by omega
  rcases this with rfl | rfl | rfl | rfl | rfl | rfl | rfl | rfl <;> rfl
theorem wantL_get {t : Nat} (h1 : 1 ≤ t) (h8 : t ≤ 8) : wantL[t]? = some (.int .i64 (flagI t)) := by
  have : t = 1 ∨ t = 2 ∨ t = 3 ∨ t = 4 ∨ t = 5 ∨ t = 6 ∨ t = 7 ∨ t = 8 := by omega
  rcases this with rfl | rfl | rfl | rfl | rfl | rfl | rfl | rfl <;> rfl
theorem Win.numk {w : World} {b o c : Nat} {xs : List Int} (h : Win w b o c xs) (lo hi : Nat) (hh : lo ≤ hi) (hl : hi ≤ xs.length) (h6 : hi - lo ≤ 6) : Calls Tryd.prog 65 #[.slice (some ⟨b, sAddr o lo c 1, none⟩) (hi - lo) (c - lo)] w fun e w' => e = .returned (.int .i64 (readI ((xs.take hi).drop lo))) ∧ Frm (fun _ => False) w w' := by
  have hl : ((xs.take hi).drop lo).length = hi - lo := by rw [List.length_drop, List.length_take]; omega
  have e := RNum_c w b (sAddr o lo c 1) (c - lo) ((xs.take hi).drop lo) ((h.take hi).drop lo) (by omega)
  rwa [hl] at e
theorem RParts_u (w : World) (b o cv : Nat) (v : List Int) (hW : Win w b o cv v) (hn : v.length ≤ 100000) :
    Calls Tryd.prog 67 #[.slice (some ⟨b, o, none⟩) v.length cv] w fun e w' => ∃ ss ad c E K ok, e = .returned (.tuple #[.slice ad ss.length c, .bool ok]) ∧ Vec 2 ad ss.length c (segsL ss) E ∧ (∀ s ∈ ss, SegOwn K s) ∧ St (fun _ => False) w w' (E ++ K) ∧
      (ok = false → partsR v = none) ∧ (ok = true → partsR v = some (ss.map segD)) :=
  (RParts_c w b o cv v hW hn).mono fun e w' h => by
    unfold PartsP at h
    cases hp : partsR v with
    | none =>
      rw [hp] at h
      exact ⟨[], none, 0, [], [], false, h.1, Vec.nil 2, (fun _ h => by cases h), (St.start _ _).ext h.2, fun _ => rfl, fun e => by cases e⟩
    | some ps =>
      rw [hp] at h
      obtain ⟨ss, ad, c, E, K, he, hd, hV, hK, hS⟩ := h
      exact ⟨ss, ad, c, E, K, true, he, hV, hK, hS, (fun e => by cases e), fun _ => by rw [hd]⟩
theorem partsR_some {v : List Int} {ps : List (Bool × List Int)} (h : partsR v = some ps) : pathR v = some ps ∧ ps.all segBD = true := by
  unfold partsR at h
  cases hq : pathR v with
  | none => rw [hq] at h; cases h
  | some p =>
    rw [hq] at h
    have h : (if p.all segBD then some p else none) = some ps := h
    split at h
    · cases h; exact ⟨rfl, by assumption⟩
    · cases h
theorem known_add {mm : Value → Option Value} {seen : List Int} {t : Int} (h : ∀ s : Int, (mm (.int .i64 s)).getD (.bool false) = .bool (decide (s ∈ seen))) (s : Int) :
    ((updM mm (.int .i64 t) (some (.bool true))) (.int .i64 s)).getD (.bool false) = .bool (decide (s ∈ t :: seen)) := by
  unfold updM
  by_cases e : s = t
  · subst e
    rw [if_pos rfl, decide_eq_true (List.mem_cons_self ..)]; rfl
  · rw [if_neg (fun h => by injection h with _ h; exact e h), h s]
    congr 1
    exact decide_eq_decide.2 ⟨fun h => List.mem_cons_of_mem _ h, fun h => (List.mem_cons.1 h).resolve_left e⟩
theorem oths_len (os : List OthL) : (othsL os).length = os.length * 2 := by
  induction os with
  | nil => rfl
  | cons o os ih => show (o.cells ++ othsL os).length = _; rw [List.length_append, ih, List.length_cons]; show 2 + _ = _; omega
theorem othsL_app (os ps : List OthL) : othsL (os ++ ps) = othsL os ++ othsL ps := List.flatMap_append
theorem rangeL {w : World} {b o : Nat} {xs ys : List Value} (h : w.rangeAt b o (xs ++ ys)) : w.rangeAt b o xs := fun j v hj => h j v (by rw [List.getElem?_append_left (List.getElem?_eq_some_iff.1 hj).1]; exact hj)
theorem rangeR {w : World} {b o : Nat} {xs ys : List Value} (h : w.rangeAt b o (xs ++ ys)) : w.rangeAt b (o + xs.length) ys := fun j v hj => by
  have := h (xs.length + j) v (by rw [List.getElem?_append_right (by omega)]; simpa using hj)
  rwa [show o + (xs.length + j) = o + xs.length + j by omega] at this
theorem badZ_len {all v : List Int} {t : Nat} (h : ¬ badZ all v) (ht : fOf all 1 = t) (h1 : 1 ≤ t) (h8 : t ≤ 8) : (t = 1 → v.length = 1) ∧ (t = 3 ∨ t = 4 ∨ t = 5 → v.length = 4) ∧ (t = 7 → v.length = 6) ∧ (t = 8 → v.length % 4 = 0) := by
  unfold badZ at h
  rw [ht, Int.toNat_natCast] at h
  have : t = 1 ∨ t = 2 ∨ t = 3 ∨ t = 4 ∨ t = 5 ∨ t = 6 ∨ t = 7 ∨ t = 8 := by omega
  have z1 : sizeI 1 = 1 := rfl
  have z3 : sizeI 3 = 4 := rfl
  have z4 : sizeI 4 = 4 := rfl
  have z5 : sizeI 5 = 4 := rfl
  have z7 : sizeI 7 = 6 := rfl
  rcases this with rfl | rfl | rfl | rfl | rfl | rfl | rfl | rfl <;> (try simp only [z1, z3, z4, z5, z7] at h) <;> omega
theorem readI_one {v : List Int} (h : v.length = 1) : fOf v 0 = readI v := by
  match v, h with
  | [x], _ => show x = 0 * 256 + x; omega
theorem oths_one (os : List OthL) : (othsL os).all one = true := by
  induction os with
  | nil => rfl
  | cons o os ih => show (o.cells ++ othsL os).all one = true; rw [List.all_append, ih]; rfl
theorem AtOwn.oth {K : List Ent} {a : AtL} (h : AtOwn K a) (ad : Option Addr) (c : Nat) (os : List OthL) : AtOwn K { a with oad := ad, oc := c, others := os } := ⟨h.path, h.segs, h.comms⟩
section
variable {P : Program} {ops : Array Oper} {Q : Exit → Act → World → Prop} {n : Nat} {p : Nat → Prop} {w0 : World} {o : Oper} {l : Kn} {L : List Ent}
def loAdS (ad : Option Addr) (lo cap s : Nat) : Option Addr := ad.map fun a => ⟨a.block, sAddr a.off lo cap s, a.spot⟩
/-- x[lo:] of a slice, nil or not. -/
theorem v_slice_loN {C : World → Prop} {t e len cap lo s : Nat} {k : IntKind} {A : Int} {ad : Option Addr} {x xl : Operand} (ho : o.op = .slice t x (some xl) none none) (hx : ev l x = some (.slice ad len cap)) (hl : ev l xl = some (.int k A)) (hu : P.underlying t = some (.slice e)) (hs : (P.info? e).map (·.size) = some s) (hA : A = (lo : Int)) (hle : lo ≤ len)
    (had : ad = none ∨ ∃ b o, ad = some ⟨b, o, none⟩) : Val P C n l o (.slice (loAdS ad lo cap s) (len - lo) (cap - lo)) := by
  rcases had with rfl | ⟨b, off, rfl⟩
  · intro a w ha _
    have h1 := ha.ev hx; have h2 := ha.ev hl
    subst hA
    have hi : (0 : Int) ≤ lo ∧ (lo : Int) ≤ len := by omega
    unfold execOp
    simp [ho, h1, h2, Instr.sliceAt, run_underlying hu, Instr.slice, Instr.sliceBounds, Instr.sliceBound, asIntOf, hle, run_sizeOf hs, loAdS]
  · exact v_slice_lo ho hx hl hu hs hA hle
end
theorem Vec.ad {s k c : Nat} {ad : Option Addr} {xs : List Value} {E : List Ent} (h : Vec s ad k c xs E) : ad = none ∨ ∃ b o, ad = some ⟨b, o, none⟩ := by
  rcases h with ⟨h, _⟩ | ⟨g, _, h, _⟩
  · exact .inl h
  · exact .inr ⟨g, 0, h⟩
end Go.Proofs.YtpjbofodllhjbaaDoor
/- The reference's attributes: carrefourref06.Decode, walked (the directives behind '@cut98' are printed by gen/rei.py). -/
namespace Go.Proofs.YtpjbofodllhjbaaDoor
open Go.RowKit

def RDecP (w w' : World) (xs : List Int) (e : Ending) : Prop :=
  match decD AtL.zero.d [] xs with
  | .inr (s, d) => e = .returned (.tuple #[.agg AtL.zero.rcells.toArray, .agg (fltL 3 s d).toArray]) ∧ Frm (fun _ => False) w w'
  | .inl d => ∃ a K, e = .returned (.tuple #[.agg a.rcells.toArray, .agg (fltL 0 0 ⟨#[]⟩).toArray]) ∧ a.d = { d with others := sortO d.others } ∧ AtAll K a ∧ St (fun _ => False) w w' K
theorem RDecP.no {w w' : World} {xs : List Int} {s : Int} {d : ByteArray} {L : List Ent} (h : decD AtL.zero.d [] xs = .inr (s, d)) (hS : St (fun _ => False) w w' L) : RDecP w w' xs (.returned (.tuple #[.agg AtL.zero.rcells.toArray, .agg (fltL 3 s d).toArray])) := by
  unfold RDecP
  rw [h]
  exact ⟨rfl, hS.frm⟩
theorem sortO_nil : sortO [] = [] := by unfold sortO; exact List.mergeSort_nil
theorem sorted_zero : AtL.zero.d = { AtL.zero.d with others := sortO AtL.zero.d.others } := by
  rw [show AtL.zero.d.others = [] from rfl, sortO_nil]; rfl
set_option maxHeartbeats 8000000 in
theorem RDec06_c (w : World) (b o cv : Nat) (xs : List Int) (hW : Win w b o cv xs) (hn : xs.length ≤ 90000) :
    Calls Tryd.prog 44 #[.slice (some ⟨b, o, none⟩) xs.length cv] w fun e w' => RDecP w w' xs e := by
  have hle := hW.le
  refine enter Tryd.func44 rfl Tryd.ntmps44 rfl (St.start (fun _ => False) w) ?_
  refine WC.seq ?_
  refine WC.region ?_
  refine WL.alloc rfl zero_51 (.none rfl) rfl rfl ?_
  intro g2 hg2
  refine WL.alloc rfl zero_28 (.none rfl) rfl rfl ?_
  intro g3 hg3
  refine WL.nil ?_
  refine WE.then_n ?_
  refine WC.seq ?_
  refine WC.region ?_
  refine WL.val (v_build rfl rfl zero_51 plc_51 rfl) (.none rfl) rfl rfl ?_
  refine WL.alloc rfl zero_51 (.none rfl) rfl rfl ?_
  intro g4 hg4
  refine WL.storeW rfl rfl rfl rfl many_51 rfl rfl (.none rfl) rfl ?_
  refine WL.nil ?_
  refine WE.then_n ?_
  refine WC.seq ?_
  refine WC.region ?_
  refine WL.buildSlice rfl rfl Tryd.underlying38 sz_3 zero_3 rfl (by decide) rfl (.none rfl) rfl rfl ?_
  intro g22 hg22
  refine WL.val (v_assign rfl rfl) (.none rfl) rfl rfl ?_
  refine WL.nil ?_
  refine WE.then_n ?_
  refine WC.seq ?_
  refine WC.region ?_
  refine WL.buildSlice rfl rfl Tryd.underlying38 sz_3 zero_3 rfl (by decide) rfl (.none rfl) rfl rfl ?_
  intro g23 hg23
  refine WL.val (v_assign rfl rfl) (.none rfl) rfl rfl ?_
  refine WL.nil ?_
  refine WE.then_n ?_
  refine WC.seq ?_
  refine WC.region ?_
  refine WL.makeMap rfl (.none rfl) rfl rfl ?_
  intro g24 hg24
  refine WL.as (L' := .obj g24 (.map #[] 0) :: .row g23 sizeL :: .row g22 wantL :: .row g4 AtL.zero.rcells :: .row g3 (fltL 0 0 ⟨#[]⟩) :: [.row g2 AtL.zero.rcells]) rfl ?_
  refine WL.val (v_assign rfl rfl) (.none rfl) rfl rfl ?_
  refine WL.nil ?_
  refine WE.then_n ?_
  refine WC.seq ?_
  refine WC.region ?_
  refine WL.val (v_assign rfl rfl) (.none rfl) rfl rfl ?_
  refine WL.nil ?_
  refine WE.then_n ?_
  refine WC.seq ?_
  refine WC.block ?_
  refine WC.loop (fun y : ReS => [(8, .int .i64 y.k), (7, .map (some g24)), (6, .slice (some ⟨g23, 0, none⟩) 9 9), (5, .slice (some ⟨g22, 0, none⟩) 9 9), (4, .pointer (some ⟨g4, 0, none⟩)), (3, .pointer (some ⟨g3, 0, none⟩)), (2, .pointer (some ⟨g2, 0, none⟩)), (0, .slice (some ⟨b, o, none⟩) xs.length cv)]) (fun y => y.E ++ (y.K ++ (.obj g24 (.map y.es y.mc) :: .row g23 sizeL :: .row g22 wantL :: .row g4 y.a.rcells :: .row g3 (fltL 0 0 ⟨#[]⟩) :: [.row g2 AtL.zero.rcells]))) (fun y => y.Good xs) (fun y => xs.length - y.k) ⟨0, AtL.zero.d, [], .zero, #[], 0, fun _ => none, [], []⟩ ⟨Nat.zero_le _, by dsimp only; rw [List.drop_zero], SeenI.zero, sorted_zero, ⟨⟨[], Vec.nil 2, fun _ h => by cases h⟩, (fun _ h => by cases h), ⟨[], Vec.nil 1, fun _ h => by cases h⟩⟩, Vec.nil 2, (fun _ h => by cases h), IMap.empty _, fun _ => ⟨rfl, rfl⟩, Nat.zero_le _, fun t => by simp⟩ (.cons rfl (.cons rfl (.cons rfl (.cons rfl (.cons rfl (.cons rfl (.cons rfl (.cons rfl .nil)))))))) (.refl _) ?_
  rintro ⟨k, d, seen, a, es, mc, mm, E, K⟩ hg
  obtain ⟨hk, hdec, hseen, hsame, hown, hoths, hvals, hmap, hcom, hol, hknown⟩ := hg
  dsimp only at hk hdec hseen hsame hown hoths hvals hmap hcom hol hknown
  dsimp only
  refine WC.seq ?_
  refine WC.seq ?_
  refine WC.region ?_
  refine WL.val (v_move rfl rfl) (.none rfl) rfl rfl ?_
  refine WL.val (v_move rfl rfl) (.none rfl) rfl rfl ?_
  refine WL.val (v_len_slice rfl rfl Tryd.underlying22) (.none rfl) rfl rfl ?_
  refine WL.test (v_lss rfl rfl rfl) (.none rfl) rfl rfl (fun h28 => ?_) (fun h28 => ?_)
  ·
   refine WL.nil ?_
   refine WE.then_n ?_
   refine WC.cond_t rfl ?_
   refine WC.skip ?_
   refine WE.then_n ?_
   refine WC.block ?_
   refine WC.seq ?_
   refine WC.region ?_
   refine WL.val (v_assign rfl rfl) (.none rfl) rfl rfl ?_
   refine WL.nil ?_
   refine WE.then_n ?_
   refine WC.cut (fun _ : Unit => [(9, .int .i64 (toN (xs.drop k))), (8, .int .i64 k), (7, .map (some g24)), (6, .slice (some ⟨g23, 0, none⟩) 9 9), (5, .slice (some ⟨g22, 0, none⟩) 9 9), (4, .pointer (some ⟨g4, 0, none⟩)), (3, .pointer (some ⟨g3, 0, none⟩)), (2, .pointer (some ⟨g2, 0, none⟩)), (0, .slice (some ⟨b, o, none⟩) xs.length cv)]) (fun _ => E ++ (K ++ (.obj g24 (.map es mc) :: .row g23 sizeL :: .row g22 wantL :: .row g4 a.rcells :: .row g3 (fltL 0 0 ⟨#[]⟩) :: [.row g2 AtL.zero.rcells]))) (fun _ => fromN (xs.drop k) ≤ (xs.drop k).length ∧ toN (xs.drop k) ≤ 70000) ?_ ?_
   ·
    refine WC.seq ?_
    refine WC.region ?_
    have hdl : (xs.drop k).length = xs.length - k := List.length_drop ..
    have hBy : Bys (xs.drop k) := fun y hy => hW.bys y (List.mem_of_mem_drop hy)
    have hb0 := fOf_b hBy 0
    have hb2 := fOf_b hBy 2
    refine WL.val (v_move rfl rfl) (.none rfl) rfl rfl ?_
    refine WL.val (v_move rfl rfl) (.none rfl) rfl rfl ?_
    refine WL.val (v_indexAddr (lo := k) rfl rfl rfl Tryd.underlying22 sz_5 (by omega) (by omega)) (.none rfl) rfl rfl ?_
    refine WL.val (v_load1 rfl rfl one_5 (cellOld (fun h => h) (hW.get (x := fOf (xs.drop k) 0) (by have := fOf_get (xs := xs.drop k) (i := 0) (by omega); rw [List.getElem?_drop] at this; exact this)))) (.none rfl) rfl rfl ?_
    refine WL.val (v_conv rfl rfl Tryd.underlying3 Tryd.underlying5 (w_i64 (by omega) (by omega))) (.none rfl) rfl rfl ?_
    refine WL.val (v_quo rfl rfl rfl (by omega) (by omega) (w_i64 (by omega) (by omega))) (.none rfl) rfl rfl ?_
    refine WL.val (v_rem rfl rfl rfl (by omega) (by omega)) (.none rfl) rfl rfl ?_
    refine WL.test (v_eql rfl rfl rfl) (.none rfl) rfl rfl (fun h36 => ?_) (fun h36 => ?_)
    ·
     refine WL.nil ?_
     refine WE.then_n ?_
     refine WC.cond_t rfl ?_
     refine WC.seq ?_
     refine WC.seq ?_
     refine WC.region ?_
     refine WL.val (v_move rfl rfl) (.none rfl) rfl rfl ?_
     refine WL.val (v_add rfl rfl rfl (w_i64 (by omega) (by omega))) (.none rfl) rfl rfl ?_
     refine WL.val (v_move rfl rfl) (.none rfl) rfl rfl ?_
     refine WL.val (v_len_slice rfl rfl Tryd.underlying22) (.none rfl) rfl rfl ?_
     refine WL.test (v_gtr rfl rfl rfl) (.none rfl) rfl rfl (fun h41 => ?_) (fun h41 => ?_)
     ·
      refine WL.nil ?_
      refine WE.then_n ?_
      refine WC.cond_t rfl ?_
      refine WC.seq ?_
      refine WC.region ?_
      refine WL.val (v_build rfl rfl zero_51 plc_51 rfl) (.none rfl) rfl rfl ?_
      refine WL.val (v_build rfl rfl zero_28 plc_28 rfl) (.none rfl) rfl rfl ?_
      refine WL.storeW rfl rfl rfl rfl many_51 rfl rfl (.none rfl) rfl ?_
      refine WL.storeW rfl rfl rfl rfl many_28 rfl rfl (.none rfl) rfl ?_
      refine WL.nil ?_
      refine WE.then_n ?_
      refine WC.ret ?_
      refine WE.then_ret ?_
      refine WE.then_ret ?_
      refine WE.block_ret ?_
      refine WE.then_ret ?_
      refine WE.block_ret ?_
      refine WE.then_ret ?_
      refine WE.ret2 (P := Tryd.prog) (.inl rfl) Tryd.results44 (resRow rfl many_51 rfl) (resRow rfl many_28 rfl) ?_
      have e0 : decD AtL.zero.d [] xs = .inr (1, ⟨#[]⟩) := (by rw [hdec]; exact decD_bad (by omega) (.inl (by rw [fromN_4 h36]; omega)))
      exact fun w' h => RDecP.no e0 h
     ·
      refine WL.nil ?_
      refine WE.then_n ?_
      refine WC.cond_f rfl ?_
      refine WC.skip ?_
      refine WE.then_n ?_
      refine WC.region ?_
      refine WL.val (v_move rfl rfl) (.none rfl) rfl rfl ?_
      refine WL.val (v_move rfl rfl) (.none rfl) rfl rfl ?_
      refine WL.val (v_add rfl rfl rfl (show _ = ((k + 2 : Nat) : Int) from (w_i64 (by omega) (by omega)).trans (by omega))) (.none rfl) rfl rfl ?_
      refine WL.val (v_move rfl rfl) (.none rfl) rfl rfl ?_
      refine WL.val (v_add rfl rfl rfl (show _ = ((k + 2 + 2 : Nat) : Int) from (w_i64 (by omega) (by omega)).trans (by omega))) (.none rfl) rfl rfl ?_
      have hrd := readI2 (v := (xs.drop (k + 2)).take 2) (fun y hy => hW.bys y (List.mem_of_mem_drop (List.mem_of_mem_take hy))) (by rw [List.length_take, List.length_drop]; omega)
      have hto := toN_4 h36
      rw [List.drop_drop] at hto
      refine WL.val ((v_slice_lh (lo := k + 2) (hi := k + 2 + 2) rfl rfl rfl rfl Tryd.underlying22 sz_5 rfl rfl (by omega) (by omega))) (.none rfl) rfl rfl ?_
      refine WL.call rfl rfl ck_65 (.none rfl) rfl rfl ?_
      intro w hS
      refine Calls.then ((hW.st hS).numd (k + 2) (by omega)) hS ?_
      refine WL.val (v_add rfl rfl rfl (w_i64 (by omega) (by omega))) (.none rfl) rfl rfl ?_
      refine WL.val (v_assign rfl rfl) (.none rfl) rfl rfl ?_
      refine WL.nil ?_
      exact WE.mid () ⟨by rw [fromN_4 h36]; omega, by rw [hto]; omega⟩ (.int rfl (by rw [hto]; omega) (.cons rfl (.cons rfl (.cons rfl (.cons rfl (.cons rfl (.cons rfl (.cons rfl (.cons rfl .nil))))))))) (.refl _)
    ·
     refine WL.nil ?_
     refine WE.then_n ?_
     refine WC.cond_f rfl ?_
     refine WC.seq ?_
     refine WC.seq ?_
     refine WC.region ?_
     refine WL.val (v_move rfl rfl) (.none rfl) rfl rfl ?_
     refine WL.val (v_add rfl rfl rfl (w_i64 (by omega) (by omega))) (.none rfl) rfl rfl ?_
     refine WL.val (v_move rfl rfl) (.none rfl) rfl rfl ?_
     refine WL.val (v_len_slice rfl rfl Tryd.underlying22) (.none rfl) rfl rfl ?_
     refine WL.test (v_gtr rfl rfl rfl) (.none rfl) rfl rfl (fun h56 => ?_) (fun h56 => ?_)
     ·
      refine WL.nil ?_
      refine WE.then_n ?_
      refine WC.cond_t rfl ?_
      refine WC.seq ?_
      refine WC.region ?_
      refine WL.val (v_build rfl rfl zero_51 plc_51 rfl) (.none rfl) rfl rfl ?_
      refine WL.val (v_build rfl rfl zero_28 plc_28 rfl) (.none rfl) rfl rfl ?_
      refine WL.storeW rfl rfl rfl rfl many_51 rfl rfl (.none rfl) rfl ?_
      refine WL.storeW rfl rfl rfl rfl many_28 rfl rfl (.none rfl) rfl ?_
      refine WL.nil ?_
      refine WE.then_n ?_
      refine WC.ret ?_
      refine WE.then_ret ?_
      refine WE.then_ret ?_
      refine WE.block_ret ?_
      refine WE.then_ret ?_
      refine WE.block_ret ?_
      refine WE.then_ret ?_
      refine WE.ret2 (P := Tryd.prog) (.inl rfl) Tryd.results44 (resRow rfl many_51 rfl) (resRow rfl many_28 rfl) ?_
      have e0 : decD AtL.zero.d [] xs = .inr (1, ⟨#[]⟩) := (by rw [hdec]; exact decD_bad (by omega) (.inl (by rw [fromN_3 h36]; omega)))
      exact fun w' h => RDecP.no e0 h
     ·
      refine WL.nil ?_
      refine WE.then_n ?_
      refine WC.cond_f rfl ?_
      refine WC.skip ?_
      refine WE.then_n ?_
      refine WC.region ?_
      refine WL.val (v_move rfl rfl) (.none rfl) rfl rfl ?_
      refine WL.val (v_move rfl rfl) (.none rfl) rfl rfl ?_
      refine WL.val (v_add rfl rfl rfl (w_i64 (by omega) (by omega))) (.none rfl) rfl rfl ?_
      have hto := toN_3 h36 (by omega) hb2.1
      refine WL.val (v_indexAddr (lo := k + 2) rfl rfl rfl Tryd.underlying22 sz_5 (by omega) (by omega)) (.none rfl) rfl rfl ?_
      refine WL.val (v_load1 rfl rfl one_5 (cellOld (fun h => h) (hW.get (x := fOf (xs.drop k) 2) (by have := fOf_get (xs := xs.drop k) (i := 2) (by omega); rw [List.getElem?_drop] at this; exact this)))) (.none rfl) rfl rfl ?_
      refine WL.val (v_conv rfl rfl Tryd.underlying3 Tryd.underlying5 (w_i64 (by omega) (by omega))) (.none rfl) rfl rfl ?_
      refine WL.val (v_add rfl rfl rfl (w_i64 (by omega) (by omega))) (.none rfl) rfl rfl ?_
      refine WL.val (v_assign rfl rfl) (.none rfl) rfl rfl ?_
      refine WL.nil ?_
      exact WE.mid () ⟨by rw [fromN_3 h36]; omega, by rw [hto]; omega⟩ (.int rfl (by rw [hto]; omega) (.cons rfl (.cons rfl (.cons rfl (.cons rfl (.cons rfl (.cons rfl (.cons rfl (.cons rfl .nil))))))))) (.refl _)
   ·
    rintro _ ⟨hfr, hto7⟩
    have hdl : (xs.drop k).length = xs.length - k := List.length_drop ..
    have hBy : Bys (xs.drop k) := fun y hy => hW.bys y (List.mem_of_mem_drop hy)
    have hf34 := fromN_b (xs.drop k)
    have htge := toN_ge (xs.drop k)
    obtain ⟨al, hal⟩ : ∃ al, al = (xs.drop k).take (toN (xs.drop k)) := ⟨_, rfl⟩
    have hWa : Win w b (sAddr o k cv 1) (cv - k) al := (by rw [hal]; exact (hW.drop k).take _)
    refine WC.seq ?_
    refine WC.seq ?_
    refine WC.region ?_
    refine WL.val (v_move rfl rfl) (.none rfl) rfl rfl ?_
    refine WL.val (v_move rfl rfl) (.none rfl) rfl rfl ?_
    refine WL.val (v_add rfl rfl rfl (w_i64 (by omega) (by omega))) (.none rfl) rfl rfl ?_
    refine WL.val (v_move rfl rfl) (.none rfl) rfl rfl ?_
    refine WL.val (v_len_slice rfl rfl Tryd.underlying22) (.none rfl) rfl rfl ?_
    refine WL.test (v_gtr rfl rfl rfl) (.none rfl) rfl rfl (fun h71 => ?_) (fun h71 => ?_)
    ·
     refine WL.nil ?_
     refine WE.then_n ?_
     refine WC.cond_t rfl ?_
     refine WC.seq ?_
     refine WC.region ?_
     refine WL.val (v_build rfl rfl zero_51 plc_51 rfl) (.none rfl) rfl rfl ?_
     refine WL.val (v_build rfl rfl zero_28 plc_28 rfl) (.none rfl) rfl rfl ?_
     refine WL.storeW rfl rfl rfl rfl many_51 rfl rfl (.none rfl) rfl ?_
     refine WL.storeW rfl rfl rfl rfl many_28 rfl rfl (.none rfl) rfl ?_
     refine WL.nil ?_
     refine WE.then_n ?_
     refine WC.ret ?_
     refine WE.then_ret ?_
     refine WE.block_ret ?_
     refine WE.then_ret ?_
     refine WE.block_ret ?_
     refine WE.then_ret ?_
     refine WE.ret2 (P := Tryd.prog) (.inl rfl) Tryd.results44 (resRow rfl many_51 rfl) (resRow rfl many_28 rfl) ?_
     have e0 : decD AtL.zero.d [] xs = .inr (1, ⟨#[]⟩) := (by rw [hdec]; exact decD_bad (by omega) (.inr (.inl (by omega))))
     exact fun w' h => RDecP.no e0 h
    ·
     refine WL.nil ?_
     refine WE.then_n ?_
     refine WC.cond_f rfl ?_
     refine WC.skip ?_
     refine WE.then_n ?_
     refine WC.seq ?_
     refine WC.region ?_
     refine WL.val (v_move rfl rfl) (.none rfl) rfl rfl ?_
     refine WL.val (v_move rfl rfl) (.none rfl) rfl rfl ?_
     refine WL.val (v_move rfl rfl) (.none rfl) rfl rfl ?_
     refine WL.val (v_move rfl rfl) (.none rfl) rfl rfl ?_
     refine WL.val (v_add rfl rfl rfl (show _ = ((k + toN (xs.drop k) : Nat) : Int) from (w_i64 (by omega) (by omega)).trans (by omega))) (.none rfl) rfl rfl ?_
     refine WL.val ((v_slice_lh (lo := k) (hi := k + toN (xs.drop k)) rfl rfl rfl rfl Tryd.underlying22 sz_5 rfl rfl (by omega) (by omega))) (.none rfl) rfl rfl ?_
     have hall : al.length = toN (xs.drop k) := (by rw [hal, List.length_take]; omega)
     have ha0 := fOf_b hWa.bys 0
     have ha1 := fOf_b hWa.bys 1
     have ef0 : fOf al 0 = fOf (xs.drop k) 0 := (by rw [hal]; unfold fOf; rw [List.getD_eq_getElem?_getD, List.getD_eq_getElem?_getD, List.getElem?_take, if_pos (by omega)])
     have ef1 : fOf al 1 = fOf (xs.drop k) 1 := (by rw [hal]; unfold fOf; rw [List.getD_eq_getElem?_getD, List.getD_eq_getElem?_getD, List.getElem?_take, if_pos (by omega)])
     rw [show k + toN (xs.drop k) - k = al.length by omega]
     refine WL.val (v_assign rfl rfl) (.none rfl) rfl rfl ?_
     refine WL.nil ?_
     refine WE.then_n ?_
     refine WC.seq ?_
     refine WC.region ?_
     refine WL.val (v_move rfl rfl) (.none rfl) rfl rfl ?_
     refine WL.val (v_indexAddr (lo := 0) rfl rfl rfl Tryd.underlying22 sz_5 rfl (by omega)) (.none rfl) rfl rfl ?_
     refine WL.val (v_load1 rfl rfl one_5 (cellOld (fun h => h) (hWa.get (fOf_get (by omega))))) (.none rfl) rfl rfl ?_
     refine WL.val (v_conv rfl rfl Tryd.underlying3 Tryd.underlying5 (w_i64 (by omega) (by omega))) (.none rfl) rfl rfl ?_
     refine WL.val (v_quo rfl rfl rfl (by omega) (by omega) (w_i64 (by omega) (by omega))) (.none rfl) rfl rfl ?_
     refine WL.val (v_mul rfl rfl rfl (w_i64 (by omega) (by omega))) (.none rfl) rfl rfl ?_
     refine WL.val (v_assign rfl rfl) (.none rfl) rfl rfl ?_
     refine WL.nil ?_
     refine WE.then_n ?_
     refine WC.seq ?_
     refine WC.region ?_
     refine WL.val (v_move rfl rfl) (.none rfl) rfl rfl ?_
     refine WL.val (v_indexAddr (lo := 1) rfl rfl rfl Tryd.underlying22 sz_5 rfl (by omega)) (.none rfl) rfl rfl ?_
     refine WL.val (v_load1 rfl rfl one_5 (cellOld (fun h => h) (hWa.get (fOf_get (by omega))))) (.none rfl) rfl rfl ?_
     refine WL.val (v_conv rfl rfl Tryd.underlying3 Tryd.underlying5 (w_i64 (by omega) (by omega))) (.none rfl) rfl rfl ?_
     refine WL.val (v_assign rfl rfl) (.none rfl) rfl rfl ?_
     refine WL.nil ?_
     refine WE.then_n ?_
     refine WC.seq ?_
     refine WC.region ?_
     refine WL.val (v_move rfl rfl) (.none rfl) rfl rfl ?_
     refine WL.val ((v_slice_lo (lo := 3) rfl rfl rfl Tryd.underlying22 sz_5 rfl (by omega))) (.none rfl) rfl rfl ?_
     refine WL.val (v_assign rfl rfl) (.none rfl) rfl rfl ?_
     refine WL.nil ?_
     refine WE.then_n ?_
     refine WC.cut (fun _ : Unit => [(13, .slice (some ⟨b, sAddr (sAddr o k cv 1) (fromN (xs.drop k)) (cv - k) 1, none⟩) (al.length - fromN (xs.drop k)) (cv - k - fromN (xs.drop k))), (12, .int .i64 (fOf al 1)), (11, .int .i64 (fOf al 0 / 32 * 32)), (10, .slice (some ⟨b, sAddr o k cv 1, none⟩) al.length (cv - k)), (9, .int .i64 (toN (xs.drop k))), (8, .int .i64 k), (7, .map (some g24)), (6, .slice (some ⟨g23, 0, none⟩) 9 9), (5, .slice (some ⟨g22, 0, none⟩) 9 9), (4, .pointer (some ⟨g4, 0, none⟩)), (3, .pointer (some ⟨g3, 0, none⟩)), (2, .pointer (some ⟨g2, 0, none⟩)), (0, .slice (some ⟨b, o, none⟩) xs.length cv)]) (fun _ => E ++ (K ++ (.obj g24 (.map es mc) :: .row g23 sizeL :: .row g22 wantL :: .row g4 a.rcells :: .row g3 (fltL 0 0 ⟨#[]⟩) :: [.row g2 AtL.zero.rcells]))) (fun _ => al.length = toN (xs.drop k) ∧ toN (xs.drop k) ≤ (xs.drop k).length ∧ fOf al 0 = fOf (xs.drop k) 0 ∧ fOf al 1 = fOf (xs.drop k) 1) ?_ ?_
     ·
      refine WC.seq ?_
      refine WC.region ?_
      refine WL.val (v_move rfl rfl) (.none rfl) rfl rfl ?_
      refine WL.val (v_indexAddr (lo := 0) rfl rfl rfl Tryd.underlying22 sz_5 rfl (by omega)) (.none rfl) rfl rfl ?_
      refine WL.val (v_load1 rfl rfl one_5 (cellOld (fun h => h) (hWa.get (fOf_get (by omega))))) (.none rfl) rfl rfl ?_
      refine WL.val (v_conv rfl rfl Tryd.underlying3 Tryd.underlying5 (w_i64 (by omega) (by omega))) (.none rfl) rfl rfl ?_
      refine WL.val (v_quo rfl rfl rfl (by omega) (by omega) (w_i64 (by omega) (by omega))) (.none rfl) rfl rfl ?_
      refine WL.val (v_rem rfl rfl rfl (by omega) (by omega)) (.none rfl) rfl rfl ?_
      refine WL.test (v_eql rfl rfl rfl) (.none rfl) rfl rfl (fun h98 => ?_) (fun h98 => ?_)
      ·
       refine WL.nil ?_
       refine WE.then_n ?_
       refine WC.cond_t rfl ?_
       refine WC.region ?_
       have hfr4 := fromN_4 (ys := xs.drop k) (by omega)
       refine WL.val (v_move rfl rfl) (.none rfl) rfl rfl ?_
       refine WL.val ((v_slice_lo (lo := 4) rfl rfl rfl Tryd.underlying22 sz_5 rfl (by omega))) (.none rfl) rfl rfl ?_
       refine WL.val (v_assign rfl rfl) (.none rfl) rfl rfl ?_
       refine WL.nil ?_
       exact WE.mid () ⟨hall, by omega, ef0, ef1⟩ (.eq rfl (by rw [hfr4]) (.cons rfl (.int rfl (by omega) (.cons rfl (.cons rfl (.cons rfl (.cons rfl (.cons rfl (.cons rfl (.cons rfl (.cons rfl (.cons rfl (.cons rfl .nil))))))))))))) (.refl _)
      ·
       refine WL.nil ?_
       refine WE.then_n ?_
       refine WC.cond_f rfl ?_
       refine WC.skip ?_
       exact WE.mid () ⟨hall, by omega, ef0, ef1⟩ (.eq rfl (by rw [fromN_3 (ys := xs.drop k) (by omega)]) (.cons rfl (.int rfl (by omega) (.cons rfl (.cons rfl (.cons rfl (.cons rfl (.cons rfl (.cons rfl (.cons rfl (.cons rfl (.cons rfl (.cons rfl .nil))))))))))))) (.refl _)
     ·
      rintro _ ⟨hall, htl, ef0, ef1⟩
      have hdl : (xs.drop k).length = xs.length - k := List.length_drop ..
      have hBy : Bys (xs.drop k) := fun y hy => hW.bys y (List.mem_of_mem_drop hy)
      have hf34 := fromN_b (xs.drop k)
      have htge := toN_ge (xs.drop k)
      have ha0 := fOf_b hWa.bys 0
      have ha1 := fOf_b hWa.bys 1
      obtain ⟨vl, hvl⟩ : ∃ vl, vl = al.drop (fromN (xs.drop k)) := ⟨_, rfl⟩
      have hWv : Win w b (sAddr (sAddr o k cv 1) (fromN (xs.drop k)) (cv - k) 1) (cv - k - fromN (xs.drop k)) vl := (by rw [hvl]; exact hWa.drop _)
      have hvlen : al.length - fromN (xs.drop k) = vl.length := (by rw [hvl, List.length_drop])
      rw [hvlen]
      generalize sAddr (sAddr o k cv 1) (fromN (xs.drop k)) (cv - k) 1 = vo at hWv ⊢
      generalize cv - k - fromN (xs.drop k) = vc at hWv ⊢
      have hvb := hWv.le
      have hah : a.has = d.has := (by have := congrArg AtD.has hsame; exact this)
      have hos : a.others.map othD = sortO d.others := (by have := congrArg AtD.others hsame; exact this)
      refine WC.seq ?_
      refine WC.region ?_
      refine WL.val (v_move rfl rfl) (.none rfl) rfl rfl ?_
      refine WL.val (v_move rfl rfl) (.none rfl) rfl rfl ?_
      refine WL.val (v_add rfl rfl rfl (show _ = ((k + toN (xs.drop k) : Nat) : Int) from (w_i64 (by omega) (by omega)).trans (by omega))) (.none rfl) rfl rfl ?_
      refine WL.val (v_assign rfl rfl) (.none rfl) rfl rfl ?_
      refine WL.nil ?_
      refine WE.then_n ?_
      refine WC.seq ?_
      refine WC.seq ?_
      refine WC.region ?_
      refine WL.val (v_move rfl rfl) (.none rfl) rfl rfl ?_
      refine WL.val (v_move rfl rfl) (.none rfl) rfl rfl ?_
      refine WL.val ((v_lookup (z := .bool false) rfl rfl rfl Tryd.underlying133 (keyI Tryd.underlying3) (KInt.mk _ _) (by kernel_rfl) (mapBlk (c := mc) g24 (List.mem_append_right _ (List.mem_append_right _ (.head _)))) hmap).eq (hknown _)) (.none rfl) rfl rfl ?_
      refine WL.nil ?_
      refine WE.then_n ?_
      refine WC.cond_d rfl (fun h106 => ?_) (fun h106 => ?_)
      ·
       refine WC.seq ?_
       refine WC.region ?_
       refine WL.val (v_build rfl rfl zero_51 plc_51 rfl) (.none rfl) rfl rfl ?_
       refine WL.val (v_build rfl rfl zero_28 plc_28 rfl) (.none rfl) rfl rfl ?_
       refine WL.storeW rfl rfl rfl rfl many_51 rfl rfl (.none rfl) rfl ?_
       refine WL.storeW rfl rfl rfl rfl many_28 rfl rfl (.none rfl) rfl ?_
       refine WL.nil ?_
       refine WE.then_n ?_
       refine WC.ret ?_
       refine WE.then_ret ?_
       refine WE.block_ret ?_
       refine WE.then_ret ?_
       refine WE.block_ret ?_
       refine WE.then_ret ?_
       refine WE.ret2 (P := Tryd.prog) (.inl rfl) Tryd.results44 (resRow rfl many_51 rfl) (resRow rfl many_28 rfl) ?_
       have e0 : decD AtL.zero.d [] xs = .inr (1, ⟨#[]⟩) := (by rw [hdec]; exact decD_bad (by omega) (.inr (.inr (by rw [← ef1]; exact h106))))
       exact fun w' h => RDecP.no e0 h
      ·
       refine WC.skip ?_
       refine WE.then_n ?_
       refine WC.seq ?_
       refine WC.region ?_
       refine WL.val (v_move rfl rfl) (.none rfl) rfl rfl ?_
       refine WL.val (v_move rfl rfl) (.none rfl) rfl rfl ?_
       refine WL.mapUpdate rfl rfl rfl rfl Tryd.underlying133 (keyI Tryd.underlying3) (KInt.mk _ _) (hmap) (.none rfl) rfl ?_
       intro esU cU hMU hsU
       have hnsx : ¬ ((xs.drop k).length < fromN (xs.drop k) ∨ (xs.drop k).length < toN (xs.drop k) ∨ fOf (xs.drop k) 1 ∈ seen) := (by rintro (h | h | h) <;> first | omega | exact h106 (by rw [ef1]; exact h))
       refine WL.nil ?_
       refine WE.then_n ?_
       refine WC.cut (fun z : Nat × Array MapEntry × Nat => [(13, .slice (some ⟨b, vo, none⟩) vl.length vc), (12, .int .i64 z.1), (11, .int .i64 (fOf al 0 / 32 * 32)), (10, .slice (some ⟨b, sAddr o k cv 1, none⟩) al.length (cv - k)), (8, .int .i64 ((k + toN (xs.drop k) : Nat) : Int)), (7, .map (some g24)), (6, .slice (some ⟨g23, 0, none⟩) 9 9), (5, .slice (some ⟨g22, 0, none⟩) 9 9), (4, .pointer (some ⟨g4, 0, none⟩)), (3, .pointer (some ⟨g3, 0, none⟩)), (2, .pointer (some ⟨g2, 0, none⟩)), (0, .slice (some ⟨b, o, none⟩) xs.length cv)]) (fun z => E ++ (K ++ (.obj g24 (.map z.2.1 z.2.2) :: .row g23 sizeL :: .row g22 wantL :: .row g4 (AtL.rcells a) :: .row g3 (fltL 0 0 ⟨#[]⟩) :: [.row g2 AtL.zero.rcells]))) (fun z => fOf al 1 = z.1 ∧ 1 ≤ z.1 ∧ z.1 ≤ 8 ∧ fOf al 1 ∉ seen ∧ IMap (KInt .i64) z.2.1 (updM mm (.int .i64 (fOf al 1)) (some (.bool true)))) ?_ ?_
       ·
        refine WC.seq ?_
        refine WC.region ?_
        refine WL.val (v_move rfl rfl) (.none rfl) rfl rfl ?_
        refine WL.call rfl rfl ck_66 (.none rfl) rfl rfl ?_
        intro w hS
        refine Calls.then (RIn_c _ (fOf al 1) 1 8) hS ?_
        generalize hq : decide (1 ≤ fOf al 1 ∧ fOf al 1 ≤ 8) = b112
        cases b112
        ·
         refine WL.val (v_not rfl rfl rfl) (.none rfl) rfl rfl ?_
         refine WL.nil ?_
         refine WE.then_n ?_
         refine WC.cond_t rfl ?_
         refine WC.seq ?_
         refine WC.seq ?_
         refine WC.region ?_
         refine WL.val (v_move rfl rfl) (.none rfl) rfl rfl ?_
         have hun : ¬ (1 ≤ fOf al 1 ∧ fOf al 1 ≤ 8) := of_decide_eq_false hq
         refine WL.test (v_lss rfl rfl rfl) (.none rfl) rfl rfl (fun h115 => ?_) (fun h115 => ?_)
         ·
          refine WL.nil ?_
          refine WE.then_n ?_
          refine WC.cond_t rfl ?_
          refine WC.seq ?_
          refine WC.orders mixed ?_
          refine WR.first (g := 4) [0, 1] (by kernel_rfl) (by kernel_rfl) ?_
          refine WP.val (v_build rfl rfl zero_51 plc_51 rfl) (.none rfl) rfl rfl ?_
          refine WP.val (v_move rfl rfl) (.none rfl) rfl rfl ?_
          refine WP.nil ?_
          refine WR.each (g := 3) [2, 4] (by kernel_rfl) (by decide) ?_
          refine ⟨?_, ?_⟩
          ·
           refine WL.val (v_convBS (fOf al) rfl rfl Tryd.underlying22 Tryd.underlying5 Tryd.underlying9 (fun w' hS' _ => ⟨b, sAddr o k cv 1, rfl, rd_u8s (hWa.st hS').at_⟩)) (.none rfl) rfl rfl ?_
           refine WL.nilR ?_
           refine WR.first (g := 2) [3] (by kernel_rfl) (by kernel_rfl) ?_
           refine WP.val (v_build rfl rfl zero_28 plc_28 rfl) (.none rfl) rfl rfl ?_
           refine WP.nil ?_
           refine WR.ones (g := 0) [4, 5] (by kernel_rfl) ?_
           refine WL.storeW rfl rfl rfl rfl many_51 rfl rfl (.none rfl) rfl ?_
           refine WL.storeW rfl rfl rfl rfl many_28 rfl rfl (.none rfl) rfl ?_
           refine WL.nilR ?_
           refine WR.done (by kernel_rfl) ?_
           refine WE.then_n ?_
           refine WC.ret ?_
           refine WE.then_ret ?_
           refine WE.then_ret ?_
           refine WE.block_ret ?_
           refine WE.then_ret ?_
           refine WE.block_ret ?_
           refine WE.then_ret ?_
           refine WE.ret2 (P := Tryd.prog) (.inl rfl) Tryd.results44 (resRow rfl many_51 rfl) (resRow rfl many_28 rfl) ?_
           have e0 : decD AtL.zero.d [] xs = .inr (2, strOf al) := (by rw [hdec]; exact decD_fail (by omega) hnsx (by rw [← hal, ← hvl]; rw [stepD_o hun]; unfold otherD; rw [if_pos (by omega)]))
           exact fun w' h => RDecP.no e0 h
          ·
           refine WL.storeW rfl rfl rfl rfl many_51 rfl rfl (.none rfl) rfl ?_
           refine WL.nilR ?_
           refine WR.read (g := 1) [2, 3] (by kernel_rfl) (by kernel_rfl) (by kernel_rfl) (by kernel_rfl) rfl ?_
           refine WQ.val (v_convBS (fOf al) rfl rfl Tryd.underlying22 Tryd.underlying5 Tryd.underlying9 (fun w' hS' _ => ⟨b, sAddr o k cv 1, rfl, rd_u8s (hWa.st hS').at_⟩)) (.none rfl) rfl rfl ?_
           refine WQ.val (v_build rfl rfl zero_28 plc_28 rfl) (.none rfl) rfl rfl ?_
           refine WQ.nilR ?_
           refine WR.ones (g := 0) [5] (by kernel_rfl) ?_
           refine WL.storeW rfl rfl rfl rfl many_28 rfl rfl (.none rfl) rfl ?_
           refine WL.nilR ?_
           refine WR.done (by kernel_rfl) ?_
           refine WE.then_n ?_
           refine WC.ret ?_
           refine WE.then_ret ?_
           refine WE.then_ret ?_
           refine WE.block_ret ?_
           refine WE.then_ret ?_
           refine WE.block_ret ?_
           refine WE.then_ret ?_
           refine WE.ret2 (P := Tryd.prog) (.inl rfl) Tryd.results44 (resRow rfl many_51 rfl) (resRow rfl many_28 rfl) ?_
           have e0 : decD AtL.zero.d [] xs = .inr (2, strOf al) := (by rw [hdec]; exact decD_fail (by omega) hnsx (by rw [← hal, ← hvl]; rw [stepD_o hun]; unfold otherD; rw [if_pos (by omega)]))
           exact fun w' h => RDecP.no e0 h
         ·
          refine WL.nil ?_
          refine WE.then_n ?_
          refine WC.cond_f rfl ?_
          refine WC.skip ?_
          refine WE.then_n ?_
          refine WC.seq ?_
          refine WC.seq ?_
          refine WC.region ?_
          refine WL.val (v_move rfl rfl) (.none rfl) rfl rfl ?_
          refine WL.test (v_geq rfl rfl rfl) (.none rfl) rfl rfl (fun h121 => ?_) (fun h121 => ?_)
          ·
           refine WL.val (v_move rfl rfl) (.none rfl) rfl rfl ?_
           refine WL.val (v_move rfl rfl) (.some rfl rfl rfl) rfl rfl ?_
           refine WL.test (v_neq rfl rfl rfl) (.some rfl rfl rfl) rfl rfl (fun h124 => ?_) (fun h124 => ?_)
           ·
            refine WL.val (v_pick_t rfl rfl rfl) (.none rfl) rfl rfl ?_
            refine WL.nil ?_
            refine WE.then_n ?_
            refine WC.cond_t rfl ?_
            refine WC.seq ?_
            refine WC.region ?_
            refine WL.val (v_assign rfl rfl) (.none rfl) rfl rfl ?_
            refine WL.nil ?_
            refine WE.then_n ?_
            refine WC.cut (fun j : Nat => [(14, .int .i64 j), (13, .slice (some ⟨b, vo, none⟩) vl.length vc), (12, .int .i64 (fOf al 1)), (8, .int .i64 ((k + toN (xs.drop k) : Nat) : Int)), (7, .map (some g24)), (6, .slice (some ⟨g23, 0, none⟩) 9 9), (5, .slice (some ⟨g22, 0, none⟩) 9 9), (4, .pointer (some ⟨g4, 0, none⟩)), (3, .pointer (some ⟨g3, 0, none⟩)), (2, .pointer (some ⟨g2, 0, none⟩)), (0, .slice (some ⟨b, o, none⟩) xs.length cv)]) (fun _ => E ++ (K ++ (.obj g24 (.map esU cU) :: .row g23 sizeL :: .row g22 wantL :: .row g4 (AtL.rcells a) :: .row g3 (fltL 0 0 ⟨#[]⟩) :: [.row g2 AtL.zero.rcells]))) (fun j => j ≤ a.others.length ∧ (∀ i x, i < j → a.others[i]? = some x → x.ty < fOf al 1) ∧ ∀ x, a.others[j]? = some x → fOf al 1 ≤ x.ty) ?_ ?_
            ·
             refine WC.block ?_
             refine WC.loop (fun j : Nat => [(14, .int .i64 j), (13, .slice (some ⟨b, vo, none⟩) vl.length vc), (12, .int .i64 (fOf al 1)), (8, .int .i64 ((k + toN (xs.drop k) : Nat) : Int)), (7, .map (some g24)), (6, .slice (some ⟨g23, 0, none⟩) 9 9), (5, .slice (some ⟨g22, 0, none⟩) 9 9), (4, .pointer (some ⟨g4, 0, none⟩)), (3, .pointer (some ⟨g3, 0, none⟩)), (2, .pointer (some ⟨g2, 0, none⟩)), (0, .slice (some ⟨b, o, none⟩) xs.length cv)]) (fun _ => E ++ (K ++ (.obj g24 (.map esU cU) :: .row g23 sizeL :: .row g22 wantL :: .row g4 (AtL.rcells a) :: .row g3 (fltL 0 0 ⟨#[]⟩) :: [.row g2 AtL.zero.rcells]))) (fun j => j ≤ a.others.length ∧ ∀ i x, i < j → a.others[i]? = some x → x.ty < fOf al 1) (fun j => a.others.length - j) 0 ⟨Nat.zero_le _, fun i x h => by omega⟩ (.cons rfl (.cons rfl (.cons rfl (.cons rfl (.cons rfl (.cons rfl (.cons rfl (.cons rfl (.cons rfl (.cons rfl (.cons rfl .nil))))))))))) (.refl _) ?_
             rintro j ⟨hj, hlt⟩
             refine WC.seq ?_
             refine WC.seq ?_
             refine WC.region ?_
             refine WL.val (v_move rfl rfl) (.none rfl) rfl rfl ?_
             refine WL.val (v_fieldAddr0 rfl rfl fld_51_9) (.none rfl) rfl rfl ?_
             refine WL.val (v_load1 rfl rfl one_49 (cellAt rfl)) (.none rfl) rfl rfl ?_
             refine WL.val (v_len_slice rfl rfl Tryd.underlying49) (.none rfl) rfl rfl ?_
             refine WL.test (v_lss rfl rfl rfl) (.none rfl) rfl rfl (fun h130 => ?_) (fun h130 => ?_)
             ·
              refine WL.val (v_move rfl rfl) (.none rfl) rfl rfl ?_
              refine WL.val (v_fieldAddr0 rfl rfl fld_51_9) (.some rfl rfl rfl) rfl rfl ?_
              refine WL.val (v_load1 rfl rfl one_49 (cellAt rfl)) (.some rfl rfl rfl) rfl rfl ?_
              refine WL.val (v_move rfl rfl) (.some rfl rfl rfl) rfl rfl ?_
              obtain ⟨oj, hoj⟩ : ∃ x, a.others[j]? = some x := ⟨a.others[j]'(by omega), List.getElem?_eq_getElem _⟩
              obtain ⟨ob, oo, eo, ro⟩ := hoths.src (L := E ++ (K ++ (.obj g24 (.map esU cU) :: .row g23 sizeL :: .row g22 wantL :: .row g4 (AtL.rcells a) :: .row g3 (fltL 0 0 ⟨#[]⟩) :: [.row g2 AtL.zero.rcells]))) (fun e he => List.mem_append_left _ he) (by rw [oths_len]; omega)
              have hcj : (othsL a.others)[j * 2]? = some (.int .i64 oj.ty) := (by
                have h2 := flatMap_seg (enc := OthL.cells) (s := 2) (fun _ => rfl) a.others j oj hoj
                have h3 := congrArg (fun l => l[0]?) h2
                simpa [List.getElem?_take, List.getElem?_drop, OthL.cells, othsL] using h3)
              refine WL.val ((v_indexAddr (b := ob) (off := oo) (lo := j) rfl (by show some (Value.slice a.oad _ _) = _; rw [eo]) rfl Tryd.underlying49 sz_135 rfl (by omega))) (.some rfl rfl rfl) rfl rfl ?_
              refine WL.val (v_fieldAddr rfl rfl fld_135_0) (.some rfl rfl rfl) rfl rfl ?_
              refine WL.val (v_load1 rfl rfl one_3 ((fun w hS => ro _ _ w hS (j * 2) _ hcj))) (.some rfl rfl rfl) rfl rfl ?_
              refine WL.val (v_move rfl rfl) (.some rfl rfl rfl) rfl rfl ?_
              refine WL.test (v_lss rfl rfl rfl) (.some rfl rfl rfl) rfl rfl (fun h139 => ?_) (fun h139 => ?_)
              ·
               refine WL.val (v_pick_t rfl rfl rfl) (.none rfl) rfl rfl ?_
               refine WL.nil ?_
               refine WE.then_n ?_
               refine WC.cond_t rfl ?_
               refine WC.skip ?_
               refine WE.then_n ?_
               refine WC.block ?_
               refine WC.region ?_
               refine WL.val (v_move rfl rfl) (.none rfl) rfl rfl ?_
               refine WL.val (v_add rfl rfl rfl (show _ = ((j + 1 : Nat) : Int) from (w_i64 (by omega) (by omega)).trans (by omega))) (.none rfl) rfl rfl ?_
               refine WL.val (v_assign rfl rfl) (.none rfl) rfl rfl ?_
               refine WL.nil ?_
               refine WE.block_n ?_
               exact WE.next (j + 1) (by omega) ⟨by omega, fun i x hi hx => by
               rcases Nat.lt_or_ge i j with h | h
               · exact hlt i x h hx
               · obtain rfl : i = j := by omega
                 rw [hoj] at hx; cases hx; exact h139⟩ (.cons rfl (.cons rfl (.cons rfl (.cons rfl (.cons rfl (.cons rfl (.cons rfl (.cons rfl (.cons rfl (.cons rfl (.cons rfl .nil))))))))))) (.refl _)
              ·
               refine WL.val (v_pick_t rfl rfl rfl) (.none rfl) rfl rfl ?_
               refine WL.nil ?_
               refine WE.then_n ?_
               refine WC.cond_f rfl ?_
               refine WC.exit ?_
               refine WE.then_exit ?_
               refine WE.then_exit ?_
               refine WE.block_hit ?_
               exact WE.mid j ⟨hj, hlt, fun x hx => by rw [hoj] at hx; cases hx; omega⟩ (.cons rfl (.cons rfl (.cons rfl (.cons rfl (.cons rfl (.cons rfl (.cons rfl (.cons rfl (.cons rfl (.cons rfl (.cons rfl .nil))))))))))) (.refl _)
             ·
              refine WL.val (v_move rfl rfl) (.none rfl) rfl rfl ?_
              refine WL.skip rfl rfl rfl rfl rfl rfl ?_
              refine WL.skip rfl rfl rfl rfl rfl rfl ?_
              refine WL.skip rfl rfl rfl rfl rfl rfl ?_
              refine WL.skip rfl rfl rfl rfl rfl rfl ?_
              refine WL.skip rfl rfl rfl rfl rfl rfl ?_
              refine WL.skip rfl rfl rfl rfl rfl rfl ?_
              refine WL.skip rfl rfl rfl rfl rfl rfl ?_
              refine WL.skip rfl rfl rfl rfl rfl rfl ?_
              refine WL.val (v_pick_f rfl rfl rfl) (.none rfl) rfl rfl ?_
              refine WL.nil ?_
              refine WE.then_n ?_
              refine WC.cond_f rfl ?_
              refine WC.exit ?_
              refine WE.then_exit ?_
              refine WE.then_exit ?_
              refine WE.block_hit ?_
              exact WE.mid j ⟨hj, hlt, fun x hx => by have := (List.getElem?_eq_some_iff.1 hx).1; omega⟩ (.cons rfl (.cons rfl (.cons rfl (.cons rfl (.cons rfl (.cons rfl (.cons rfl (.cons rfl (.cons rfl (.cons rfl (.cons rfl .nil))))))))))) (.refl _)
            ·
             rintro j ⟨hj, hlt, hge⟩
             have hvl2 := hoths.len
             have hjt : (a.others.take j).length = j := (by rw [List.length_take]; omega)
             have hjd : (a.others.drop j).length = a.others.length - j := List.length_drop ..
             have hsp : othsL a.others = othsL (a.others.take j) ++ othsL (a.others.drop j) := (by rw [← othsL_app, List.take_append_drop])
             refine WC.seq ?_
             refine WC.region ?_
             refine WL.buildSlice rfl rfl Tryd.underlying49 sz_135 zero_135 rfl (by decide) rfl (.none rfl) rfl rfl ?_
             intro g143 hg143
             refine WL.val (v_fieldAddr0 rfl rfl fld_51_9) (.none rfl) rfl rfl ?_
             refine WL.val (v_load1 rfl rfl one_49 (cellAt rfl)) (.none rfl) rfl rfl ?_
             refine WL.val (v_move rfl rfl) (.none rfl) rfl rfl ?_
             refine WL.val ((v_slice_hi (hi := j) rfl rfl rfl Tryd.underlying49 sz_135 rfl (by omega))) (.none rfl) rfl rfl ?_
             refine WL.appendL rfl rfl rfl Tryd.underlying49 Tryd.underlying49 sz_135 by_135 zero_135 rfl rfl (E := [.row g143 []]) (Vec.row (k := 0) (s := 2) (c := 0) rfl rfl (by omega)) (new := othsL (a.others.take j)) (fun h => (hoths.src (L := .row g143 [] :: (E ++ (K ++ (.obj g24 (.map esU cU) :: .row g23 sizeL :: .row g22 wantL :: .row g4 (AtL.rcells a) :: .row g3 (fltL 0 0 ⟨#[]⟩) :: [.row g2 AtL.zero.rcells])))) (fun e he => List.mem_cons_of_mem _ (List.mem_append_left _ he)) (by rw [oths_len]; omega)).elim fun ob h1 => h1.elim fun oo h2 => ⟨ob, oo, h2.1, fun w hS => rangeL (ys := othsL (a.others.drop j)) (by rw [← hsp]; exact h2.2 _ _ w hS)⟩) (by rw [oths_len, hjt]) (oths_one _) (by omega) (.none rfl) rfl rfl ?_
             intro ad148 c148 E148 hV148 hr148
             rw [Nat.zero_add] at hV148 ⊢
             rw [show List.take (0 * 2) ([] : List Value) = [] from rfl, List.nil_append] at hV148
             refine WL.val (v_assign rfl rfl) (.none rfl) rfl rfl ?_
             refine WL.nil ?_
             refine WE.then_n ?_
             refine WC.seq ?_
             refine WC.region ?_
             refine WL.val (v_move rfl rfl) (.none rfl) rfl rfl ?_
             refine WL.val (v_move rfl rfl) (.none rfl) rfl rfl ?_
             refine WL.buildSlice rfl rfl Tryd.underlying22 sz_5 zero_5 rfl (by decide) rfl (.none rfl) rfl rfl ?_
             intro g151 hg151
             refine WL.val (v_move rfl rfl) (.none rfl) rfl rfl ?_
             refine WL.appendL rfl rfl rfl Tryd.underlying22 Tryd.underlying22 sz_5 by_5 zero_5 rfl rfl (E := [.row g151 []]) (Vec.row (k := 0) (s := 1) (c := 0) rfl rfl (by omega)) (new := u8s vl) (fun h => ⟨b, vo, rfl, fun w hS' => hS'.rng (fun _ h => h) _ _ _ hWv.at_⟩) (by rw [u8s_len]; omega) (u8s_one _) (by omega) (.none rfl) rfl rfl ?_
             intro ad153 c153 E153 hV153 hr153
             rw [Nat.zero_add] at hV153 ⊢
             rw [show List.take (0 * 1) ([] : List Value) = [] from rfl, List.nil_append] at hV153
             refine WL.val (v_build rfl rfl zero_135 plc_135 rfl) (.none rfl) rfl rfl ?_
             refine WL.buildSlice rfl rfl Tryd.underlying49 sz_135 zero_135 rfl (by decide) rfl (.none rfl) rfl rfl ?_
             intro g155 hg155
             refine WL.as (L' := .row g155 (OthL.cells (⟨fOf al 1, ad153, c153, vl⟩ : OthL)) :: (E153 ++ (E148 ++ (E ++ (K ++ (.obj g24 (.map esU cU) :: .row g23 sizeL :: .row g22 wantL :: .row g4 (AtL.rcells a) :: .row g3 (fltL 0 0 ⟨#[]⟩) :: [.row g2 AtL.zero.rcells])))))) rfl ?_
             refine WL.to (L' := E148 ++ (.row g155 (OthL.cells (⟨fOf al 1, ad153, c153, vl⟩ : OthL)) :: (E153 ++ (E ++ (K ++ (.obj g24 (.map esU cU) :: .row g23 sizeL :: .row g22 wantL :: .row g4 (AtL.rcells a) :: .row g3 (fltL 0 0 ⟨#[]⟩) :: [.row g2 AtL.zero.rcells])))))) (fun w hS => by
               have := St.front (R := E148) (L := E ++ (K ++ (.obj g24 (.map esU cU) :: .row g23 sizeL :: .row g22 wantL :: .row g4 (AtL.rcells a) :: .row g3 (fltL 0 0 ⟨#[]⟩) :: [.row g2 AtL.zero.rcells]))) (.row g155 (OthL.cells (⟨fOf al 1, ad153, c153, vl⟩ : OthL)) :: E153) (by simpa only [List.cons_append] using hS)
               simpa only [List.cons_append] using this) ?_
             refine WL.appendL rfl rfl rfl Tryd.underlying49 Tryd.underlying49 sz_135 by_135 zero_135 rfl rfl hV148 (new := OthL.cells (⟨fOf al 1, ad153, c153, vl⟩ : OthL)) (fun _ => ⟨g155, 0, rfl, fun w hS => allAt (g := g155) w hS⟩) rfl rfl (by omega) (.none rfl) rfl rfl ?_
             intro ad156 c156 E156 hV156 hr156
             refine WL.val (v_assign rfl rfl) (.none rfl) rfl rfl ?_
             refine WL.nil ?_
             refine WE.then_n ?_
             refine WC.region ?_
             refine WL.val (v_move rfl rfl) (.none rfl) rfl rfl ?_
             refine WL.val (v_fieldAddr0 rfl rfl fld_51_9) (.none rfl) rfl rfl ?_
             refine WL.val (v_load1 rfl rfl one_49 (cellAt rfl)) (.none rfl) rfl rfl ?_
             refine WL.val (v_move rfl rfl) (.none rfl) rfl rfl ?_
             refine WL.val ((v_slice_loN (lo := j) rfl rfl rfl Tryd.underlying49 sz_135 rfl (by omega) hoths.ad)) (.none rfl) rfl rfl ?_
             refine WL.appendL rfl rfl rfl Tryd.underlying49 Tryd.underlying49 sz_135 by_135 zero_135 rfl rfl hV156 (new := othsL (a.others.drop j)) (fun h => (hoths.src (L := E156 ++ (.row g155 (OthL.cells (⟨fOf al 1, ad153, c153, vl⟩ : OthL)) :: (E153 ++ (E ++ (K ++ (.obj g24 (.map esU cU) :: .row g23 sizeL :: .row g22 wantL :: .row g4 (AtL.rcells a) :: .row g3 (fltL 0 0 ⟨#[]⟩) :: [.row g2 AtL.zero.rcells])))))) (fun e he => List.mem_append_right _ (List.mem_cons_of_mem _ (List.mem_append_right _ (List.mem_append_left _ he)))) (by rw [oths_len]; omega)).elim fun ob h1 => h1.elim fun oo h2 => ⟨ob, oo + j * 2, (by rw [h2.1]; show some (Addr.mk ob (sAddr oo j a.oc 2) none) = _; unfold sAddr; rw [if_neg (by omega)]), fun w hS => (by have := rangeR (xs := othsL (a.others.take j)) (ys := othsL (a.others.drop j)) (by rw [← hsp]; exact h2.2 _ _ w hS); rwa [oths_len, hjt] at this)⟩) (by rw [oths_len, hjd]) (oths_one _) (by omega) (.none rfl) rfl rfl ?_
             intro ad162 c162 E162 hV162 hr162
             have hnl : (a.others.take j ++ (⟨fOf al 1, ad153, c153, vl⟩ : OthL) :: a.others.drop j).length = j + 1 + (a.others.length - j) := (by rw [List.length_append, List.length_cons, hjt, hjd]; omega)
             rw [show othsL (a.others.take j) ++ OthL.cells (⟨fOf al 1, ad153, c153, vl⟩ : OthL) ++ othsL (a.others.drop j) = othsL (a.others.take j ++ (⟨fOf al 1, ad153, c153, vl⟩ : OthL) :: a.others.drop j) by rw [othsL_app, List.append_assoc]; rfl] at hV162
             rw [← hnl] at hV162 ⊢
             refine WL.val (v_fieldAddr0 rfl rfl fld_51_9) (.none rfl) rfl rfl ?_
             refine WL.store1 rfl rfl rfl rfl one_49 (Nat.le_of_ble_eq_true rfl) (.none rfl) rfl ?_
             refine WL.as (L' := E162 ++ (.row g155 (OthL.cells (⟨fOf al 1, ad153, c153, vl⟩ : OthL)) :: (E153 ++ (E ++ (K ++ (.obj g24 (.map esU cU) :: .row g23 sizeL :: .row g22 wantL :: .row g4 (AtL.rcells { a with oad := ad162, oc := c162, others := (a.others.take j ++ (⟨fOf al 1, ad153, c153, vl⟩ : OthL) :: a.others.drop j) }) :: .row g3 (fltL 0 0 ⟨#[]⟩) :: [.row g2 AtL.zero.rcells])))))) rfl ?_
             refine WL.nil ?_
             refine WE.then_n ?_
             refine WC.exit ?_
             refine WE.then_exit ?_
             refine WE.block_hit ?_
             have hoi : otherD d al vl = .inl { d with others := d.others ++ [(fOf al 1, vl)] } := (by unfold otherD; rw [if_neg (by omega), if_pos ⟨by omega, h124⟩])
             have hst := hseen.step hWa.bys h106 (show stepD d al vl = .inl _ by rw [stepD_o hun]; exact hoi)
             have hA' : AtOwn (E153 ++ K) ({ a with oad := ad162, oc := c162, others := (a.others.take j ++ (⟨fOf al 1, ad153, c153, vl⟩ : OthL) :: a.others.drop j) }) := (AtOwn.mono (a := a) hown fun e he => List.mem_append_right _ he : AtOwn (E153 ++ K) a).oth _ _ _
             have hO' : ∀ o' ∈ (a.others.take j ++ (⟨fOf al 1, ad153, c153, vl⟩ : OthL) :: a.others.drop j), OthOwn (E153 ++ K) o' := (by
               intro o' ho'
               rcases List.mem_append.1 ho' with ho' | ho'
               · obtain ⟨E', r1, r2⟩ := hvals o' (List.mem_of_mem_take ho')
                 exact ⟨E', r1, fun e he => List.mem_append_right _ (r2 e he)⟩
               · rcases List.mem_cons.1 ho' with rfl | ho'
                 · exact ⟨E153, hV153, fun e he => List.mem_append_left _ he⟩
                 · obtain ⟨E', r1, r2⟩ := hvals o' (List.mem_of_mem_drop ho')
                   exact ⟨E', r1, fun e he => List.mem_append_right _ (r2 e he)⟩)
             exact WE.to (L' := E162 ++ ((E153 ++ K) ++ (.obj g24 (.map esU cU) :: .row g23 sizeL :: .row g22 wantL :: .row g4 (AtL.rcells { a with oad := ad162, oc := c162, others := (a.others.take j ++ (⟨fOf al 1, ad153, c153, vl⟩ : OthL) :: a.others.drop j) }) :: .row g3 (fltL 0 0 ⟨#[]⟩) :: [.row g2 AtL.zero.rcells]))) (fun w hS => (hS.sub (L' := E162 ++ (E153 ++ (K ++ (.obj g24 (.map esU cU) :: .row g23 sizeL :: .row g22 wantL :: .row g4 (AtL.rcells { a with oad := ad162, oc := c162, others := (a.others.take j ++ (⟨fOf al 1, ad153, c153, vl⟩ : OthL) :: a.others.drop j) }) :: .row g3 (fltL 0 0 ⟨#[]⟩) :: [.row g2 AtL.zero.rcells])))) (List.Sublist.append_left (.cons _ (List.Sublist.append_left (List.sublist_append_right _ _) _)) _)).permC (by intro c h1 h2 h3 e; simp only [h1, h3]; omega)) (WE.next ⟨k + toN (xs.drop k), { d with others := d.others ++ [(fOf al 1, vl)] }, fOf al 1 :: seen, { a with oad := ad162, oc := c162, others := (a.others.take j ++ (⟨fOf al 1, ad153, c153, vl⟩ : OthL) :: a.others.drop j) }, esU, cU, _, E162, E153 ++ K⟩ (by dsimp only; omega) ⟨by dsimp only; omega, by dsimp only; rw [hdec, decD_go (by omega) hnsx (show stepD d _ _ = .inl _ by rw [← hal, ← hvl, stepD_o hun]; exact hoi), List.drop_drop, ← ef1], hst, by
               have h1 := sortO_ins (os := d.others) (t := fOf al 1) (v := vl) hst.nd j (fun i x hi hx => by
                 rw [← hos, List.getElem?_map] at hx
                 obtain ⟨y, hy, rfl⟩ := Option.map_eq_some_iff.1 hx
                 exact hlt i y hi hy) (fun x hx => by
                 rw [← hos, List.getElem?_map] at hx
                 obtain ⟨y, hy, rfl⟩ := Option.map_eq_some_iff.1 hx
                 exact hge y hy)
               show AtL.d { a with oad := ad162, oc := c162, others := (a.others.take j ++ (⟨fOf al 1, ad153, c153, vl⟩ : OthL) :: a.others.drop j) } = _
               rw [show AtL.d { a with oad := ad162, oc := c162, others := (a.others.take j ++ (⟨fOf al 1, ad153, c153, vl⟩ : OthL) :: a.others.drop j) } = { a.d with others := (a.others.take j ++ (⟨fOf al 1, ad153, c153, vl⟩ : OthL) :: a.others.drop j).map othD } from rfl, hsame]
               show AtD.mk _ _ _ _ _ _ _ _ _ _ = AtD.mk _ _ _ _ _ _ _ _ _ _
               congr 1
               rw [h1, ← hos, List.map_append, List.map_cons, List.map_take, List.map_drop]; rfl, hA', hV162, hO', hMU, fun h => hcom (fun h2 => h (List.mem_cons_of_mem _ h2)), by dsimp only; rw [hnl]; omega, known_add hknown⟩ (.cons rfl (.cons rfl (.cons rfl (.cons rfl (.cons rfl (.cons rfl (.cons rfl (.cons rfl .nil)))))))) (.refl _))
           ·
            refine WL.val (v_pick_t rfl rfl rfl) (.none rfl) rfl rfl ?_
            refine WL.nil ?_
            refine WE.then_n ?_
            refine WC.cond_f rfl ?_
            refine WC.skip ?_
            refine WE.then_n ?_
            refine WC.exit ?_
            refine WE.then_exit ?_
            refine WE.block_hit ?_
            exact WE.next ⟨k + toN (xs.drop k), d, fOf al 1 :: seen, a, esU, cU, _, E, K⟩ (by dsimp only; omega) ⟨by dsimp only; omega, by dsimp only; rw [hdec, decD_go (by omega) hnsx (show stepD d _ _ = .inl d by rw [← hal, ← hvl, stepD_o hun]; unfold otherD; rw [if_neg (by omega), if_neg (by omega)]), List.drop_drop, ← ef1], hseen.step hWa.bys h106 (show stepD d al vl = .inl d by rw [stepD_o hun]; unfold otherD; rw [if_neg (by omega), if_neg (by omega)]), hsame, hown, hoths, hvals, hMU, fun h => hcom (fun h2 => h (List.mem_cons_of_mem _ h2)), by dsimp only; omega, known_add hknown⟩ (.cons rfl (.cons rfl (.cons rfl (.cons rfl (.cons rfl (.cons rfl (.cons rfl (.cons rfl .nil)))))))) (.refl _)
          ·
           refine WL.val (v_move rfl rfl) (.none rfl) rfl rfl ?_
           refine WL.skip rfl rfl rfl rfl rfl rfl ?_
           refine WL.skip rfl rfl rfl rfl rfl rfl ?_
           refine WL.val (v_pick_f rfl rfl rfl) (.none rfl) rfl rfl ?_
           refine WL.nil ?_
           refine WE.then_n ?_
           refine WC.cond_f rfl ?_
           refine WC.skip ?_
           refine WE.then_n ?_
           refine WC.exit ?_
           refine WE.then_exit ?_
           refine WE.block_hit ?_
           exact WE.next ⟨k + toN (xs.drop k), d, fOf al 1 :: seen, a, esU, cU, _, E, K⟩ (by dsimp only; omega) ⟨by dsimp only; omega, by dsimp only; rw [hdec, decD_go (by omega) hnsx (show stepD d _ _ = .inl d by rw [← hal, ← hvl, stepD_o hun]; unfold otherD; rw [if_neg (by omega), if_neg (by omega)]), List.drop_drop, ← ef1], hseen.step hWa.bys h106 (show stepD d al vl = .inl d by rw [stepD_o hun]; unfold otherD; rw [if_neg (by omega), if_neg (by omega)]), hsame, hown, hoths, hvals, hMU, fun h => hcom (fun h2 => h (List.mem_cons_of_mem _ h2)), by dsimp only; omega, known_add hknown⟩ (.cons rfl (.cons rfl (.cons rfl (.cons rfl (.cons rfl (.cons rfl (.cons rfl (.cons rfl .nil)))))))) (.refl _)
        ·
         refine WL.val (v_not rfl rfl rfl) (.none rfl) rfl rfl ?_
         refine WL.nil ?_
         refine WE.then_n ?_
         refine WC.cond_f rfl ?_
         refine WC.skip ?_
         have hkn := of_decide_eq_true hq
         obtain ⟨t, ht⟩ := Int.eq_ofNat_of_zero_le ha1.1
         exact WE.mid (t, esU, cU) ⟨ht, by dsimp only; omega, by dsimp only; omega, h106, hMU⟩ (.cons rfl (.int rfl ht (.cons rfl (.cons rfl (.cons rfl (.cons rfl (.cons rfl (.cons rfl (.cons rfl (.cons rfl (.cons rfl (.cons rfl .nil)))))))))))) (.refl _)
       ·
        rintro ⟨t, esU, cU⟩ ⟨ht, ht1, ht8, hns6, hMU⟩
        dsimp only at ht ht1 ht8 hMU
        dsimp only
        have htn : (fOf al 1).toNat = t := (by omega)
        have hnsx : ¬ ((xs.drop k).length < fromN (xs.drop k) ∨ (xs.drop k).length < toN (xs.drop k) ∨ fOf (xs.drop k) 1 ∈ seen) := (by rintro (h | h | h) <;> first | omega | exact hns6 (by rw [ef1]; exact h))
        have hk18 : 1 ≤ fOf al 1 ∧ fOf al 1 ≤ 8 := (by omega)
        refine WC.cut (fun _ : Unit => [(13, .slice (some ⟨b, vo, none⟩) vl.length vc), (12, .int .i64 t), (11, .int .i64 (fOf al 0 / 32 * 32)), (10, .slice (some ⟨b, sAddr o k cv 1, none⟩) al.length (cv - k)), (8, .int .i64 ((k + toN (xs.drop k) : Nat) : Int)), (7, .map (some g24)), (6, .slice (some ⟨g23, 0, none⟩) 9 9), (5, .slice (some ⟨g22, 0, none⟩) 9 9), (4, .pointer (some ⟨g4, 0, none⟩)), (3, .pointer (some ⟨g3, 0, none⟩)), (2, .pointer (some ⟨g2, 0, none⟩)), (0, .slice (some ⟨b, o, none⟩) xs.length cv)]) (fun _ => E ++ (K ++ (.obj g24 (.map esU cU) :: .row g23 sizeL :: .row g22 wantL :: .row g4 (AtL.rcells a) :: .row g3 (fltL 0 0 ⟨#[]⟩) :: [.row g2 AtL.zero.rcells]))) (fun _ => ¬ badF al) ?_ ?_
        ·
         refine WC.seq ?_
         refine WC.region ?_
         refine WL.val (v_move rfl rfl) (.none rfl) rfl rfl ?_
         refine WL.val (v_quo rfl rfl rfl (by omega) (by omega) (w_i64 (by omega) (by omega))) (.none rfl) rfl rfl ?_
         refine WL.val (v_mul rfl rfl rfl (w_i64 (by omega) (by omega))) (.none rfl) rfl rfl ?_
         refine WL.val (v_move rfl rfl) (.none rfl) rfl rfl ?_
         refine WL.val (v_move rfl rfl) (.none rfl) rfl rfl ?_
         refine WL.val (v_indexAddr (lo := t) rfl rfl rfl Tryd.underlying38 sz_3 (by omega) (by omega)) (.none rfl) rfl rfl ?_
         refine WL.val (v_load1 rfl rfl one_3 (cellAt (g := g22) (k := 0 + t * 1) (cs := wantL) (v := .int .i64 (flagI t)) (by rw [show 0 + t * 1 = t by omega]; exact wantL_get ht1 ht8))) (.none rfl) rfl rfl ?_
         refine WL.test (v_neq rfl rfl rfl) (.none rfl) rfl rfl (fun h171 => ?_) (fun h171 => ?_)
         ·
          refine WL.val (v_move rfl rfl) (.none rfl) rfl rfl ?_
          refine WL.skip rfl rfl rfl rfl rfl rfl ?_
          refine WL.skip rfl rfl rfl rfl rfl rfl ?_
          refine WL.skip rfl rfl rfl rfl rfl rfl ?_
          refine WL.skip rfl rfl rfl rfl rfl rfl ?_
          refine WL.skip rfl rfl rfl rfl rfl rfl ?_
          refine WL.skip rfl rfl rfl rfl rfl rfl ?_
          refine WL.skip rfl rfl rfl rfl rfl rfl ?_
          refine WL.skip rfl rfl rfl rfl rfl rfl ?_
          refine WL.skip rfl rfl rfl rfl rfl rfl ?_
          refine WL.skip rfl rfl rfl rfl rfl rfl ?_
          refine WL.val (v_pick_t rfl rfl rfl) (.none rfl) rfl rfl ?_
          refine WL.nil ?_
          refine WE.then_n ?_
          refine WC.cond_t rfl ?_
          refine WC.seq ?_
          refine WC.orders mixed ?_
          refine WR.first (g := 4) [0, 1] (by kernel_rfl) (by kernel_rfl) ?_
          refine WP.val (v_build rfl rfl zero_51 plc_51 rfl) (.none rfl) rfl rfl ?_
          refine WP.val (v_move rfl rfl) (.none rfl) rfl rfl ?_
          refine WP.nil ?_
          refine WR.each (g := 3) [2, 4] (by kernel_rfl) (by decide) ?_
          refine ⟨?_, ?_⟩
          ·
           refine WL.val (v_convBS (fOf al) rfl rfl Tryd.underlying22 Tryd.underlying5 Tryd.underlying9 (fun w' hS' _ => ⟨b, sAddr o k cv 1, rfl, rd_u8s (hWa.st hS').at_⟩)) (.none rfl) rfl rfl ?_
           refine WL.nilR ?_
           refine WR.first (g := 2) [3] (by kernel_rfl) (by kernel_rfl) ?_
           refine WP.val (v_build rfl rfl zero_28 plc_28 rfl) (.none rfl) rfl rfl ?_
           refine WP.nil ?_
           refine WR.ones (g := 0) [4, 5] (by kernel_rfl) ?_
           refine WL.storeW rfl rfl rfl rfl many_51 rfl rfl (.none rfl) rfl ?_
           refine WL.storeW rfl rfl rfl rfl many_28 rfl rfl (.none rfl) rfl ?_
           refine WL.nilR ?_
           refine WR.done (by kernel_rfl) ?_
           refine WE.then_n ?_
           refine WC.ret ?_
           refine WE.then_ret ?_
           refine WE.block_ret ?_
           refine WE.then_ret ?_
           refine WE.block_ret ?_
           refine WE.then_ret ?_
           refine WE.ret2 (P := Tryd.prog) (.inl rfl) Tryd.results44 (resRow rfl many_51 rfl) (resRow rfl many_28 rfl) ?_
           have e0 : decD AtL.zero.d [] xs = .inr (4, strOf al) := (by rw [hdec]; exact decD_fail (by omega) hnsx (by rw [← hal, ← hvl]; rw [stepD_k hk18]; exact takeD_4 (by unfold badF; rw [htn]; omega)))
           exact fun w' h => RDecP.no e0 h
          ·
           refine WL.storeW rfl rfl rfl rfl many_51 rfl rfl (.none rfl) rfl ?_
           refine WL.nilR ?_
           refine WR.read (g := 1) [2, 3] (by kernel_rfl) (by kernel_rfl) (by kernel_rfl) (by kernel_rfl) rfl ?_
           refine WQ.val (v_convBS (fOf al) rfl rfl Tryd.underlying22 Tryd.underlying5 Tryd.underlying9 (fun w' hS' _ => ⟨b, sAddr o k cv 1, rfl, rd_u8s (hWa.st hS').at_⟩)) (.none rfl) rfl rfl ?_
           refine WQ.val (v_build rfl rfl zero_28 plc_28 rfl) (.none rfl) rfl rfl ?_
           refine WQ.nilR ?_
           refine WR.ones (g := 0) [5] (by kernel_rfl) ?_
           refine WL.storeW rfl rfl rfl rfl many_28 rfl rfl (.none rfl) rfl ?_
           refine WL.nilR ?_
           refine WR.done (by kernel_rfl) ?_
           refine WE.then_n ?_
           refine WC.ret ?_
           refine WE.then_ret ?_
           refine WE.block_ret ?_
           refine WE.then_ret ?_
           refine WE.block_ret ?_
           refine WE.then_ret ?_
           refine WE.ret2 (P := Tryd.prog) (.inl rfl) Tryd.results44 (resRow rfl many_51 rfl) (resRow rfl many_28 rfl) ?_
           have e0 : decD AtL.zero.d [] xs = .inr (4, strOf al) := (by rw [hdec]; exact decD_fail (by omega) hnsx (by rw [← hal, ← hvl]; rw [stepD_k hk18]; exact takeD_4 (by unfold badF; rw [htn]; omega)))
           exact fun w' h => RDecP.no e0 h
         ·
          refine WL.val (v_move rfl rfl) (.none rfl) rfl rfl ?_
          refine WL.val (v_move rfl rfl) (.some rfl rfl rfl) rfl rfl ?_
          refine WL.val (v_rem rfl rfl rfl (by omega) (by omega)) (.some rfl rfl rfl) rfl rfl ?_
          refine WL.test (v_neq rfl rfl rfl) (.some rfl rfl rfl) rfl rfl (fun h175 => ?_) (fun h175 => ?_)
          ·
           refine WL.val (v_move rfl rfl) (.some rfl rfl rfl) rfl rfl ?_
           refine WL.val (v_move rfl rfl) (.some rfl rfl rfl) rfl rfl ?_
           refine WL.val (v_move rfl rfl) (.some rfl rfl rfl) rfl rfl ?_
           refine WL.val (v_indexAddr (lo := t) rfl rfl rfl Tryd.underlying38 sz_3 (by omega) (by omega)) (.some rfl rfl rfl) rfl rfl ?_
           refine WL.val (v_load1 rfl rfl one_3 (cellAt (g := g22) (k := 0 + t * 1) (cs := wantL) (v := .int .i64 (flagI t)) (by rw [show 0 + t * 1 = t by omega]; exact wantL_get ht1 ht8))) (.some rfl rfl rfl) rfl rfl ?_
           refine WL.test (v_neq rfl rfl rfl) (.some rfl rfl rfl) rfl rfl (fun h181 => ?_) (fun h181 => ?_)
           ·
            refine WL.val (v_pick_t rfl rfl rfl) (.some rfl rfl rfl) rfl rfl ?_
            refine WL.val (v_pick_f rfl rfl rfl) (.none rfl) rfl rfl ?_
            refine WL.nil ?_
            refine WE.then_n ?_
            refine WC.cond_t rfl ?_
            refine WC.seq ?_
            refine WC.orders mixed ?_
            refine WR.first (g := 4) [0, 1] (by kernel_rfl) (by kernel_rfl) ?_
            refine WP.val (v_build rfl rfl zero_51 plc_51 rfl) (.none rfl) rfl rfl ?_
            refine WP.val (v_move rfl rfl) (.none rfl) rfl rfl ?_
            refine WP.nil ?_
            refine WR.each (g := 3) [2, 4] (by kernel_rfl) (by decide) ?_
            refine ⟨?_, ?_⟩
            ·
             refine WL.val (v_convBS (fOf al) rfl rfl Tryd.underlying22 Tryd.underlying5 Tryd.underlying9 (fun w' hS' _ => ⟨b, sAddr o k cv 1, rfl, rd_u8s (hWa.st hS').at_⟩)) (.none rfl) rfl rfl ?_
             refine WL.nilR ?_
             refine WR.first (g := 2) [3] (by kernel_rfl) (by kernel_rfl) ?_
             refine WP.val (v_build rfl rfl zero_28 plc_28 rfl) (.none rfl) rfl rfl ?_
             refine WP.nil ?_
             refine WR.ones (g := 0) [4, 5] (by kernel_rfl) ?_
             refine WL.storeW rfl rfl rfl rfl many_51 rfl rfl (.none rfl) rfl ?_
             refine WL.storeW rfl rfl rfl rfl many_28 rfl rfl (.none rfl) rfl ?_
             refine WL.nilR ?_
             refine WR.done (by kernel_rfl) ?_
             refine WE.then_n ?_
             refine WC.ret ?_
             refine WE.then_ret ?_
             refine WE.block_ret ?_
             refine WE.then_ret ?_
             refine WE.block_ret ?_
             refine WE.then_ret ?_
             refine WE.ret2 (P := Tryd.prog) (.inl rfl) Tryd.results44 (resRow rfl many_51 rfl) (resRow rfl many_28 rfl) ?_
             have e0 : decD AtL.zero.d [] xs = .inr (4, strOf al) := (by rw [hdec]; exact decD_fail (by omega) hnsx (by rw [← hal, ← hvl]; rw [stepD_k hk18]; exact takeD_4 (by unfold badF; rw [htn]; omega)))
             exact fun w' h => RDecP.no e0 h
            ·
             refine WL.storeW rfl rfl rfl rfl many_51 rfl rfl (.none rfl) rfl ?_
             refine WL.nilR ?_
             refine WR.read (g := 1) [2, 3] (by kernel_rfl) (by kernel_rfl) (by kernel_rfl) (by kernel_rfl) rfl ?_
             refine WQ.val (v_convBS (fOf al) rfl rfl Tryd.underlying22 Tryd.underlying5 Tryd.underlying9 (fun w' hS' _ => ⟨b, sAddr o k cv 1, rfl, rd_u8s (hWa.st hS').at_⟩)) (.none rfl) rfl rfl ?_
             refine WQ.val (v_build rfl rfl zero_28 plc_28 rfl) (.none rfl) rfl rfl ?_
             refine WQ.nilR ?_
             refine WR.ones (g := 0) [5] (by kernel_rfl) ?_
             refine WL.storeW rfl rfl rfl rfl many_28 rfl rfl (.none rfl) rfl ?_
             refine WL.nilR ?_
             refine WR.done (by kernel_rfl) ?_
             refine WE.then_n ?_
             refine WC.ret ?_
             refine WE.then_ret ?_
             refine WE.block_ret ?_
             refine WE.then_ret ?_
             refine WE.block_ret ?_
             refine WE.then_ret ?_
             refine WE.ret2 (P := Tryd.prog) (.inl rfl) Tryd.results44 (resRow rfl many_51 rfl) (resRow rfl many_28 rfl) ?_
             have e0 : decD AtL.zero.d [] xs = .inr (4, strOf al) := (by rw [hdec]; exact decD_fail (by omega) hnsx (by rw [← hal, ← hvl]; rw [stepD_k hk18]; exact takeD_4 (by unfold badF; rw [htn]; omega)))
             exact fun w' h => RDecP.no e0 h
           ·
            refine WL.val (v_pick_t rfl rfl rfl) (.some rfl rfl rfl) rfl rfl ?_
            refine WL.val (v_pick_f rfl rfl rfl) (.none rfl) rfl rfl ?_
            refine WL.nil ?_
            refine WE.then_n ?_
            refine WC.cond_f rfl ?_
            refine WC.skip ?_
            exact WE.mid () (by show ¬ badF al; unfold badF; rw [htn]; omega) (.cons rfl (.cons rfl (.cons rfl (.cons rfl (.cons rfl (.cons rfl (.cons rfl (.cons rfl (.cons rfl (.cons rfl (.cons rfl (.cons rfl .nil)))))))))))) (.refl _)
          ·
           refine WL.val (v_move rfl rfl) (.some rfl rfl rfl) rfl rfl ?_
           refine WL.skip rfl rfl rfl rfl rfl rfl ?_
           refine WL.skip rfl rfl rfl rfl rfl rfl ?_
           refine WL.skip rfl rfl rfl rfl rfl rfl ?_
           refine WL.skip rfl rfl rfl rfl rfl rfl ?_
           refine WL.skip rfl rfl rfl rfl rfl rfl ?_
           refine WL.val (v_pick_f rfl rfl rfl) (.some rfl rfl rfl) rfl rfl ?_
           refine WL.val (v_pick_f rfl rfl rfl) (.none rfl) rfl rfl ?_
           refine WL.nil ?_
           refine WE.then_n ?_
           refine WC.cond_f rfl ?_
           refine WC.skip ?_
           exact WE.mid () (by show ¬ badF al; unfold badF; rw [htn]; omega) (.cons rfl (.cons rfl (.cons rfl (.cons rfl (.cons rfl (.cons rfl (.cons rfl (.cons rfl (.cons rfl (.cons rfl (.cons rfl (.cons rfl .nil)))))))))))) (.refl _)
        ·
         rintro _ hnf
         refine WC.cut (fun _ : Unit => [(13, .slice (some ⟨b, vo, none⟩) vl.length vc), (12, .int .i64 t), (11, .int .i64 (fOf al 0 / 32 * 32)), (10, .slice (some ⟨b, sAddr o k cv 1, none⟩) al.length (cv - k)), (8, .int .i64 ((k + toN (xs.drop k) : Nat) : Int)), (7, .map (some g24)), (6, .slice (some ⟨g23, 0, none⟩) 9 9), (5, .slice (some ⟨g22, 0, none⟩) 9 9), (4, .pointer (some ⟨g4, 0, none⟩)), (3, .pointer (some ⟨g3, 0, none⟩)), (2, .pointer (some ⟨g2, 0, none⟩)), (0, .slice (some ⟨b, o, none⟩) xs.length cv)]) (fun _ => E ++ (K ++ (.obj g24 (.map esU cU) :: .row g23 sizeL :: .row g22 wantL :: .row g4 (AtL.rcells a) :: .row g3 (fltL 0 0 ⟨#[]⟩) :: [.row g2 AtL.zero.rcells]))) (fun _ => ¬ badZ al vl) ?_ ?_
         ·
          refine WC.seq ?_
          refine WC.region ?_
          refine WL.val (v_move rfl rfl) (.none rfl) rfl rfl ?_
          refine WL.val (v_move rfl rfl) (.none rfl) rfl rfl ?_
          refine WL.val (v_indexAddr (lo := t) rfl rfl rfl Tryd.underlying38 sz_3 (by omega) (by omega)) (.none rfl) rfl rfl ?_
          refine WL.val (v_load1 rfl rfl one_3 (cellAt (g := g23) (k := 0 + t * 1) (cs := sizeL) (v := .int .i64 (sizeI t)) (by rw [show 0 + t * 1 = t by omega]; exact sizeL_get ht1 ht8))) (.none rfl) rfl rfl ?_
          refine WL.test (v_geq rfl rfl rfl) (.none rfl) rfl rfl (fun h192 => ?_) (fun h192 => ?_)
          ·
           refine WL.val (v_move rfl rfl) (.none rfl) rfl rfl ?_
           refine WL.val (v_move rfl rfl) (.some rfl rfl rfl) rfl rfl ?_
           refine WL.val (v_len_slice rfl rfl Tryd.underlying22) (.some rfl rfl rfl) rfl rfl ?_
           refine WL.val (v_move rfl rfl) (.some rfl rfl rfl) rfl rfl ?_
           refine WL.val (v_move rfl rfl) (.some rfl rfl rfl) rfl rfl ?_
           refine WL.val (v_indexAddr (lo := t) rfl rfl rfl Tryd.underlying38 sz_3 (by omega) (by omega)) (.some rfl rfl rfl) rfl rfl ?_
           refine WL.val (v_load1 rfl rfl one_3 (cellAt (g := g23) (k := 0 + t * 1) (cs := sizeL) (v := .int .i64 (sizeI t)) (by rw [show 0 + t * 1 = t by omega]; exact sizeL_get ht1 ht8))) (.some rfl rfl rfl) rfl rfl ?_
           refine WL.test (v_neq rfl rfl rfl) (.some rfl rfl rfl) rfl rfl (fun h200 => ?_) (fun h200 => ?_)
           ·
            refine WL.val (v_pick_t rfl rfl rfl) (.none rfl) rfl rfl ?_
            refine WL.val (v_move rfl rfl) (.none rfl) rfl rfl ?_
            refine WL.skip rfl rfl rfl rfl rfl rfl ?_
            refine WL.skip rfl rfl rfl rfl rfl rfl ?_
            refine WL.skip rfl rfl rfl rfl rfl rfl ?_
            refine WL.skip rfl rfl rfl rfl rfl rfl ?_
            refine WL.skip rfl rfl rfl rfl rfl rfl ?_
            refine WL.skip rfl rfl rfl rfl rfl rfl ?_
            refine WL.skip rfl rfl rfl rfl rfl rfl ?_
            refine WL.skip rfl rfl rfl rfl rfl rfl ?_
            refine WL.val (v_pick_t rfl rfl rfl) (.none rfl) rfl rfl ?_
            refine WL.nil ?_
            refine WE.then_n ?_
            refine WC.cond_t rfl ?_
            refine WC.seq ?_
            refine WC.orders mixed ?_
            refine WR.first (g := 4) [0, 1] (by kernel_rfl) (by kernel_rfl) ?_
            refine WP.val (v_build rfl rfl zero_51 plc_51 rfl) (.none rfl) rfl rfl ?_
            refine WP.val (v_move rfl rfl) (.none rfl) rfl rfl ?_
            refine WP.nil ?_
            refine WR.each (g := 3) [2, 4] (by kernel_rfl) (by decide) ?_
            refine ⟨?_, ?_⟩
            ·
             refine WL.val (v_convBS (fOf al) rfl rfl Tryd.underlying22 Tryd.underlying5 Tryd.underlying9 (fun w' hS' _ => ⟨b, sAddr o k cv 1, rfl, rd_u8s (hWa.st hS').at_⟩)) (.none rfl) rfl rfl ?_
             refine WL.nilR ?_
             refine WR.first (g := 2) [3] (by kernel_rfl) (by kernel_rfl) ?_
             refine WP.val (v_build rfl rfl zero_28 plc_28 rfl) (.none rfl) rfl rfl ?_
             refine WP.nil ?_
             refine WR.ones (g := 0) [4, 5] (by kernel_rfl) ?_
             refine WL.storeW rfl rfl rfl rfl many_51 rfl rfl (.none rfl) rfl ?_
             refine WL.storeW rfl rfl rfl rfl many_28 rfl rfl (.none rfl) rfl ?_
             refine WL.nilR ?_
             refine WR.done (by kernel_rfl) ?_
             refine WE.then_n ?_
             refine WC.ret ?_
             refine WE.then_ret ?_
             refine WE.block_ret ?_
             refine WE.then_ret ?_
             refine WE.block_ret ?_
             refine WE.then_ret ?_
             refine WE.ret2 (P := Tryd.prog) (.inl rfl) Tryd.results44 (resRow rfl many_51 rfl) (resRow rfl many_28 rfl) ?_
             have e0 : decD AtL.zero.d [] xs = .inr (5, strOf al) := (by rw [hdec]; exact decD_fail (by omega) hnsx (by rw [← hal, ← hvl]; rw [stepD_k hk18]; exact takeD_5 hnf (by unfold badZ; rw [htn]; omega)))
             exact fun w' h => RDecP.no e0 h
            ·
             refine WL.storeW rfl rfl rfl rfl many_51 rfl rfl (.none rfl) rfl ?_
             refine WL.nilR ?_
             refine WR.read (g := 1) [2, 3] (by kernel_rfl) (by kernel_rfl) (by kernel_rfl) (by kernel_rfl) rfl ?_
             refine WQ.val (v_convBS (fOf al) rfl rfl Tryd.underlying22 Tryd.underlying5 Tryd.underlying9 (fun w' hS' _ => ⟨b, sAddr o k cv 1, rfl, rd_u8s (hWa.st hS').at_⟩)) (.none rfl) rfl rfl ?_
             refine WQ.val (v_build rfl rfl zero_28 plc_28 rfl) (.none rfl) rfl rfl ?_
             refine WQ.nilR ?_
             refine WR.ones (g := 0) [5] (by kernel_rfl) ?_
             refine WL.storeW rfl rfl rfl rfl many_28 rfl rfl (.none rfl) rfl ?_
             refine WL.nilR ?_
             refine WR.done (by kernel_rfl) ?_
             refine WE.then_n ?_
             refine WC.ret ?_
             refine WE.then_ret ?_
             refine WE.block_ret ?_
             refine WE.then_ret ?_
             refine WE.block_ret ?_
             refine WE.then_ret ?_
             refine WE.ret2 (P := Tryd.prog) (.inl rfl) Tryd.results44 (resRow rfl many_51 rfl) (resRow rfl many_28 rfl) ?_
             have e0 : decD AtL.zero.d [] xs = .inr (5, strOf al) := (by rw [hdec]; exact decD_fail (by omega) hnsx (by rw [← hal, ← hvl]; rw [stepD_k hk18]; exact takeD_5 hnf (by unfold badZ; rw [htn]; omega)))
             exact fun w' h => RDecP.no e0 h
           ·
            refine WL.val (v_pick_t rfl rfl rfl) (.none rfl) rfl rfl ?_
            refine WL.val (v_move rfl rfl) (.none rfl) rfl rfl ?_
            refine WL.val (v_move rfl rfl) (.some rfl rfl rfl) rfl rfl ?_
            refine WL.test (v_eql rfl rfl rfl) (.some rfl rfl rfl) rfl rfl (fun h204 => ?_) (fun h204 => ?_)
            ·
             refine WL.val (v_move rfl rfl) (.some rfl rfl rfl) rfl rfl ?_
             refine WL.val (v_move rfl rfl) (.some rfl rfl rfl) rfl rfl ?_
             refine WL.val (v_len_slice rfl rfl Tryd.underlying22) (.some rfl rfl rfl) rfl rfl ?_
             refine WL.val (v_rem rfl rfl rfl (by omega) (by omega)) (.some rfl rfl rfl) rfl rfl ?_
             refine WL.test (v_neq rfl rfl rfl) (.some rfl rfl rfl) rfl rfl (fun h209 => ?_) (fun h209 => ?_)
             ·
              refine WL.val (v_pick_t rfl rfl rfl) (.some rfl rfl rfl) rfl rfl ?_
              refine WL.val (v_pick_f rfl rfl rfl) (.none rfl) rfl rfl ?_
              refine WL.nil ?_
              refine WE.then_n ?_
              refine WC.cond_t rfl ?_
              refine WC.seq ?_
              refine WC.orders mixed ?_
              refine WR.first (g := 4) [0, 1] (by kernel_rfl) (by kernel_rfl) ?_
              refine WP.val (v_build rfl rfl zero_51 plc_51 rfl) (.none rfl) rfl rfl ?_
              refine WP.val (v_move rfl rfl) (.none rfl) rfl rfl ?_
              refine WP.nil ?_
              refine WR.each (g := 3) [2, 4] (by kernel_rfl) (by decide) ?_
              refine ⟨?_, ?_⟩
              ·
               refine WL.val (v_convBS (fOf al) rfl rfl Tryd.underlying22 Tryd.underlying5 Tryd.underlying9 (fun w' hS' _ => ⟨b, sAddr o k cv 1, rfl, rd_u8s (hWa.st hS').at_⟩)) (.none rfl) rfl rfl ?_
               refine WL.nilR ?_
               refine WR.first (g := 2) [3] (by kernel_rfl) (by kernel_rfl) ?_
               refine WP.val (v_build rfl rfl zero_28 plc_28 rfl) (.none rfl) rfl rfl ?_
               refine WP.nil ?_
               refine WR.ones (g := 0) [4, 5] (by kernel_rfl) ?_
               refine WL.storeW rfl rfl rfl rfl many_51 rfl rfl (.none rfl) rfl ?_
               refine WL.storeW rfl rfl rfl rfl many_28 rfl rfl (.none rfl) rfl ?_
               refine WL.nilR ?_
               refine WR.done (by kernel_rfl) ?_
               refine WE.then_n ?_
               refine WC.ret ?_
               refine WE.then_ret ?_
               refine WE.block_ret ?_
               refine WE.then_ret ?_
               refine WE.block_ret ?_
               refine WE.then_ret ?_
               refine WE.ret2 (P := Tryd.prog) (.inl rfl) Tryd.results44 (resRow rfl many_51 rfl) (resRow rfl many_28 rfl) ?_
               have e0 : decD AtL.zero.d [] xs = .inr (5, strOf al) := (by rw [hdec]; exact decD_fail (by omega) hnsx (by rw [← hal, ← hvl]; rw [stepD_k hk18]; exact takeD_5 hnf (by unfold badZ; rw [htn]; omega)))
               exact fun w' h => RDecP.no e0 h
              ·
               refine WL.storeW rfl rfl rfl rfl many_51 rfl rfl (.none rfl) rfl ?_
               refine WL.nilR ?_
               refine WR.read (g := 1) [2, 3] (by kernel_rfl) (by kernel_rfl) (by kernel_rfl) (by kernel_rfl) rfl ?_
               refine WQ.val (v_convBS (fOf al) rfl rfl Tryd.underlying22 Tryd.underlying5 Tryd.underlying9 (fun w' hS' _ => ⟨b, sAddr o k cv 1, rfl, rd_u8s (hWa.st hS').at_⟩)) (.none rfl) rfl rfl ?_
               refine WQ.val (v_build rfl rfl zero_28 plc_28 rfl) (.none rfl) rfl rfl ?_
               refine WQ.nilR ?_
               refine WR.ones (g := 0) [5] (by kernel_rfl) ?_
               refine WL.storeW rfl rfl rfl rfl many_28 rfl rfl (.none rfl) rfl ?_
               refine WL.nilR ?_
               refine WR.done (by kernel_rfl) ?_
               refine WE.then_n ?_
               refine WC.ret ?_
               refine WE.then_ret ?_
               refine WE.block_ret ?_
               refine WE.then_ret ?_
               refine WE.block_ret ?_
               refine WE.then_ret ?_
               refine WE.ret2 (P := Tryd.prog) (.inl rfl) Tryd.results44 (resRow rfl many_51 rfl) (resRow rfl many_28 rfl) ?_
               have e0 : decD AtL.zero.d [] xs = .inr (5, strOf al) := (by rw [hdec]; exact decD_fail (by omega) hnsx (by rw [← hal, ← hvl]; rw [stepD_k hk18]; exact takeD_5 hnf (by unfold badZ; rw [htn]; omega)))
               exact fun w' h => RDecP.no e0 h
             ·
              refine WL.val (v_pick_t rfl rfl rfl) (.some rfl rfl rfl) rfl rfl ?_
              refine WL.val (v_pick_f rfl rfl rfl) (.none rfl) rfl rfl ?_
              refine WL.nil ?_
              refine WE.then_n ?_
              refine WC.cond_f rfl ?_
              refine WC.skip ?_
              exact WE.mid () (by show ¬ badZ al vl; unfold badZ; rw [htn]; omega) (.cons rfl (.cons rfl (.cons rfl (.cons rfl (.cons rfl (.cons rfl (.cons rfl (.cons rfl (.cons rfl (.cons rfl (.cons rfl (.cons rfl .nil)))))))))))) (.refl _)
            ·
             refine WL.val (v_move rfl rfl) (.some rfl rfl rfl) rfl rfl ?_
             refine WL.skip rfl rfl rfl rfl rfl rfl ?_
             refine WL.skip rfl rfl rfl rfl rfl rfl ?_
             refine WL.skip rfl rfl rfl rfl rfl rfl ?_
             refine WL.skip rfl rfl rfl rfl rfl rfl ?_
             refine WL.val (v_pick_f rfl rfl rfl) (.some rfl rfl rfl) rfl rfl ?_
             refine WL.val (v_pick_f rfl rfl rfl) (.none rfl) rfl rfl ?_
             refine WL.nil ?_
             refine WE.then_n ?_
             refine WC.cond_f rfl ?_
             refine WC.skip ?_
             exact WE.mid () (by show ¬ badZ al vl; unfold badZ; rw [htn]; omega) (.cons rfl (.cons rfl (.cons rfl (.cons rfl (.cons rfl (.cons rfl (.cons rfl (.cons rfl (.cons rfl (.cons rfl (.cons rfl (.cons rfl .nil)))))))))))) (.refl _)
          ·
           refine WL.val (v_move rfl rfl) (.none rfl) rfl rfl ?_
           refine WL.skip rfl rfl rfl rfl rfl rfl ?_
           refine WL.skip rfl rfl rfl rfl rfl rfl ?_
           refine WL.skip rfl rfl rfl rfl rfl rfl ?_
           refine WL.skip rfl rfl rfl rfl rfl rfl ?_
           refine WL.skip rfl rfl rfl rfl rfl rfl ?_
           refine WL.skip rfl rfl rfl rfl rfl rfl ?_
           refine WL.skip rfl rfl rfl rfl rfl rfl ?_
           refine WL.val (v_pick_f rfl rfl rfl) (.none rfl) rfl rfl ?_
           refine WL.val (v_move rfl rfl) (.none rfl) rfl rfl ?_
           refine WL.val (v_move rfl rfl) (.some rfl rfl rfl) rfl rfl ?_
           refine WL.test (v_eql rfl rfl rfl) (.some rfl rfl rfl) rfl rfl (fun h204 => ?_) (fun h204 => ?_)
           ·
            refine WL.val (v_move rfl rfl) (.some rfl rfl rfl) rfl rfl ?_
            refine WL.val (v_move rfl rfl) (.some rfl rfl rfl) rfl rfl ?_
            refine WL.val (v_len_slice rfl rfl Tryd.underlying22) (.some rfl rfl rfl) rfl rfl ?_
            refine WL.val (v_rem rfl rfl rfl (by omega) (by omega)) (.some rfl rfl rfl) rfl rfl ?_
            refine WL.test (v_neq rfl rfl rfl) (.some rfl rfl rfl) rfl rfl (fun h209 => ?_) (fun h209 => ?_)
            ·
             refine WL.val (v_pick_t rfl rfl rfl) (.some rfl rfl rfl) rfl rfl ?_
             refine WL.val (v_pick_f rfl rfl rfl) (.none rfl) rfl rfl ?_
             refine WL.nil ?_
             refine WE.then_n ?_
             refine WC.cond_t rfl ?_
             refine WC.seq ?_
             refine WC.orders mixed ?_
             refine WR.first (g := 4) [0, 1] (by kernel_rfl) (by kernel_rfl) ?_
             refine WP.val (v_build rfl rfl zero_51 plc_51 rfl) (.none rfl) rfl rfl ?_
             refine WP.val (v_move rfl rfl) (.none rfl) rfl rfl ?_
             refine WP.nil ?_
             refine WR.each (g := 3) [2, 4] (by kernel_rfl) (by decide) ?_
             refine ⟨?_, ?_⟩
             ·
              refine WL.val (v_convBS (fOf al) rfl rfl Tryd.underlying22 Tryd.underlying5 Tryd.underlying9 (fun w' hS' _ => ⟨b, sAddr o k cv 1, rfl, rd_u8s (hWa.st hS').at_⟩)) (.none rfl) rfl rfl ?_
              refine WL.nilR ?_
              refine WR.first (g := 2) [3] (by kernel_rfl) (by kernel_rfl) ?_
              refine WP.val (v_build rfl rfl zero_28 plc_28 rfl) (.none rfl) rfl rfl ?_
              refine WP.nil ?_
              refine WR.ones (g := 0) [4, 5] (by kernel_rfl) ?_
              refine WL.storeW rfl rfl rfl rfl many_51 rfl rfl (.none rfl) rfl ?_
              refine WL.storeW rfl rfl rfl rfl many_28 rfl rfl (.none rfl) rfl ?_
              refine WL.nilR ?_
              refine WR.done (by kernel_rfl) ?_
              refine WE.then_n ?_
              refine WC.ret ?_
              refine WE.then_ret ?_
              refine WE.block_ret ?_
              refine WE.then_ret ?_
              refine WE.block_ret ?_
              refine WE.then_ret ?_
              refine WE.ret2 (P := Tryd.prog) (.inl rfl) Tryd.results44 (resRow rfl many_51 rfl) (resRow rfl many_28 rfl) ?_
              have e0 : decD AtL.zero.d [] xs = .inr (5, strOf al) := (by rw [hdec]; exact decD_fail (by omega) hnsx (by rw [← hal, ← hvl]; rw [stepD_k hk18]; exact takeD_5 hnf (by unfold badZ; rw [htn]; omega)))
              exact fun w' h => RDecP.no e0 h
             ·
              refine WL.storeW rfl rfl rfl rfl many_51 rfl rfl (.none rfl) rfl ?_
              refine WL.nilR ?_
              refine WR.read (g := 1) [2, 3] (by kernel_rfl) (by kernel_rfl) (by kernel_rfl) (by kernel_rfl) rfl ?_
              refine WQ.val (v_convBS (fOf al) rfl rfl Tryd.underlying22 Tryd.underlying5 Tryd.underlying9 (fun w' hS' _ => ⟨b, sAddr o k cv 1, rfl, rd_u8s (hWa.st hS').at_⟩)) (.none rfl) rfl rfl ?_
              refine WQ.val (v_build rfl rfl zero_28 plc_28 rfl) (.none rfl) rfl rfl ?_
              refine WQ.nilR ?_
              refine WR.ones (g := 0) [5] (by kernel_rfl) ?_
              refine WL.storeW rfl rfl rfl rfl many_28 rfl rfl (.none rfl) rfl ?_
              refine WL.nilR ?_
              refine WR.done (by kernel_rfl) ?_
              refine WE.then_n ?_
              refine WC.ret ?_
              refine WE.then_ret ?_
              refine WE.block_ret ?_
              refine WE.then_ret ?_
              refine WE.block_ret ?_
              refine WE.then_ret ?_
              refine WE.ret2 (P := Tryd.prog) (.inl rfl) Tryd.results44 (resRow rfl many_51 rfl) (resRow rfl many_28 rfl) ?_
              have e0 : decD AtL.zero.d [] xs = .inr (5, strOf al) := (by rw [hdec]; exact decD_fail (by omega) hnsx (by rw [← hal, ← hvl]; rw [stepD_k hk18]; exact takeD_5 hnf (by unfold badZ; rw [htn]; omega)))
              exact fun w' h => RDecP.no e0 h
            ·
             refine WL.val (v_pick_t rfl rfl rfl) (.some rfl rfl rfl) rfl rfl ?_
             refine WL.val (v_pick_f rfl rfl rfl) (.none rfl) rfl rfl ?_
             refine WL.nil ?_
             refine WE.then_n ?_
             refine WC.cond_f rfl ?_
             refine WC.skip ?_
             exact WE.mid () (by show ¬ badZ al vl; unfold badZ; rw [htn]; omega) (.cons rfl (.cons rfl (.cons rfl (.cons rfl (.cons rfl (.cons rfl (.cons rfl (.cons rfl (.cons rfl (.cons rfl (.cons rfl (.cons rfl .nil)))))))))))) (.refl _)
           ·
            refine WL.val (v_move rfl rfl) (.some rfl rfl rfl) rfl rfl ?_
            refine WL.skip rfl rfl rfl rfl rfl rfl ?_
            refine WL.skip rfl rfl rfl rfl rfl rfl ?_
            refine WL.skip rfl rfl rfl rfl rfl rfl ?_
            refine WL.skip rfl rfl rfl rfl rfl rfl ?_
            refine WL.val (v_pick_f rfl rfl rfl) (.some rfl rfl rfl) rfl rfl ?_
            refine WL.val (v_pick_f rfl rfl rfl) (.none rfl) rfl rfl ?_
            refine WL.nil ?_
            refine WE.then_n ?_
            refine WC.cond_f rfl ?_
            refine WC.skip ?_
            exact WE.mid () (by show ¬ badZ al vl; unfold badZ; rw [htn]; omega) (.cons rfl (.cons rfl (.cons rfl (.cons rfl (.cons rfl (.cons rfl (.cons rfl (.cons rfl (.cons rfl (.cons rfl (.cons rfl (.cons rfl .nil)))))))))))) (.refl _)
         ·
          rintro _ hnz
          obtain ⟨hz1, hz4, hz7, hz8⟩ := badZ_len hnz ht ht1 ht8
          have hp2 := pow2_9 t ht8
          have hs0 := hseen.h0
          have hs1 := hseen.h1
          have hfin : ∀ (a' : AtL) (K' : List Ent) (d1 : AtD), (∀ e ∈ K, e ∈ K') → AtOwn K' a' → a'.others = a.others → a'.oad = a.oad → a'.oc = a.oc → (t = 8 ∨ (a'.cad = a.cad ∧ a'.cc = a.cc)) → takeD d al vl = .inl d1 → a'.d = { d1 with others := sortO d1.others } →
              ReS.Good ⟨k + toN (xs.drop k), d1, fOf al 1 :: seen, a', esU, cU, updM mm (.int .i64 (fOf al 1)) (some (.bool true)), E, K'⟩ xs := (by
            intro a' K' d1 hm hA e1 e2 e3 e4 htk hd'
            refine ⟨by dsimp only; omega, by dsimp only; rw [hdec, decD_go (by omega) hnsx (show stepD d _ _ = .inl d1 by rw [← hal, ← hvl, stepD_k hk18]; exact htk), List.drop_drop, ← ef1], hseen.step hWa.bys hns6 (show stepD d al vl = .inl d1 by rw [stepD_k hk18]; exact htk), hd', hA, by dsimp only; rw [e1, e2, e3]; exact hoths, ?_, hMU, fun h => ?_, by dsimp only; rw [e1]; omega, known_add hknown⟩
            · dsimp only
              rw [e1]
              intro o' ho'
              obtain ⟨E', r1, r2⟩ := hvals o' ho'
              exact ⟨E', r1, fun e he => hm e (r2 e he)⟩
            · dsimp only at h ⊢
              rcases e4 with e4 | ⟨e4, e5⟩
              · exact absurd (List.mem_cons.2 (.inl (by omega))) h
              · rw [e4, e5]; exact hcom fun h2 => h (List.mem_cons_of_mem _ h2))
          refine WC.seq ?_
          refine WC.region ?_
          refine WL.val (v_assign rfl rfl) (.none rfl) rfl rfl ?_
          refine WL.nil ?_
          refine WE.then_n ?_
          refine WC.seq ?_
          refine WC.seq ?_
          refine WC.region ?_
          refine WL.val (v_assign rfl rfl) (.none rfl) rfl rfl ?_
          refine WL.nil ?_
          refine WE.then_n ?_
          refine WC.block ?_
          refine WC.loop (fun i : Nat => [(17, .int .i64 i), (16, .int .i64 (2 ^ i)), (13, .slice (some ⟨b, vo, none⟩) vl.length vc), (12, .int .i64 t), (10, .slice (some ⟨b, sAddr o k cv 1, none⟩) al.length (cv - k)), (8, .int .i64 ((k + toN (xs.drop k) : Nat) : Int)), (7, .map (some g24)), (6, .slice (some ⟨g23, 0, none⟩) 9 9), (5, .slice (some ⟨g22, 0, none⟩) 9 9), (4, .pointer (some ⟨g4, 0, none⟩)), (3, .pointer (some ⟨g3, 0, none⟩)), (2, .pointer (some ⟨g2, 0, none⟩)), (0, .slice (some ⟨b, o, none⟩) xs.length cv)]) (fun _ => E ++ (K ++ (.obj g24 (.map esU cU) :: .row g23 sizeL :: .row g22 wantL :: .row g4 (AtL.rcells a) :: .row g3 (fltL 0 0 ⟨#[]⟩) :: [.row g2 AtL.zero.rcells]))) (fun i => i ≤ t) (fun i => t - i) 0 (Nat.zero_le _) (.cons rfl (.int rfl (by decide) (.cons rfl (.cons rfl (.cons rfl (.cons rfl (.cons rfl (.cons rfl (.cons rfl (.cons rfl (.cons rfl (.cons rfl (.cons rfl .nil))))))))))))) (.refl _) ?_
          intro i hi
          refine WC.seq ?_
          refine WC.seq ?_
          refine WC.region ?_
          refine WL.val (v_move rfl rfl) (.none rfl) rfl rfl ?_
          refine WL.val (v_move rfl rfl) (.none rfl) rfl rfl ?_
          refine WL.test (v_lss rfl rfl rfl) (.none rfl) rfl rfl (fun h218 => ?_) (fun h218 => ?_)
          ·
           refine WL.nil ?_
           refine WE.then_n ?_
           refine WC.cond_t rfl ?_
           refine WC.skip ?_
           refine WE.then_n ?_
           refine WC.seq ?_
           refine WC.block ?_
           refine WC.region ?_
           refine WL.val (v_move rfl rfl) (.none rfl) rfl rfl ?_
           have hpi := pow2_9 i (by omega)
           refine WL.val (v_mul rfl rfl rfl (show _ = (2 : Int) ^ (i + 1) from (w_i64 (by omega) (by omega)).trans (by rw [Int.pow_succ]; omega))) (.none rfl) rfl rfl ?_
           refine WL.val (v_assign rfl rfl) (.none rfl) rfl rfl ?_
           refine WL.nil ?_
           refine WE.block_n ?_
           refine WE.then_n ?_
           refine WC.region ?_
           refine WL.val (v_move rfl rfl) (.none rfl) rfl rfl ?_
           refine WL.val (v_add rfl rfl rfl (w_i64 (by omega) (by omega))) (.none rfl) rfl rfl ?_
           refine WL.val (v_assign rfl rfl) (.none rfl) rfl rfl ?_
           refine WL.nil ?_
           exact WE.next (i + 1) (by omega) (by omega) (.int rfl (by omega) (.cons rfl (.cons rfl (.cons rfl (.cons rfl (.cons rfl (.cons rfl (.cons rfl (.cons rfl (.cons rfl (.cons rfl (.cons rfl (.cons rfl .nil))))))))))))) (.refl _)
          ·
           refine WL.nil ?_
           refine WE.then_n ?_
           refine WC.cond_f rfl ?_
           refine WC.exit ?_
           refine WE.then_exit ?_
           refine WE.then_exit ?_
           refine WE.block_hit ?_
           refine WE.then_n ?_
           refine WC.seq ?_
           refine WC.region ?_
           have hit : i = t := (by omega)
           rw [hit]
           refine WL.val (v_fieldAddr0 rfl rfl fld_51_0) (.none rfl) rfl rfl ?_
           refine WL.val (v_load1 rfl rfl one_3 (cellAt rfl)) (.none rfl) rfl rfl ?_
           refine WL.val (v_move rfl rfl) (.none rfl) rfl rfl ?_
           refine WL.val (v_add rfl rfl rfl (show _ = a.has + 2 ^ t from w_i64 (by omega) (by omega))) (.none rfl) rfl rfl ?_
           refine WL.val (v_fieldAddr0 rfl rfl fld_51_0) (.none rfl) rfl rfl ?_
           refine WL.store1 rfl rfl rfl rfl one_3 (Nat.le_of_ble_eq_true rfl) (.none rfl) rfl ?_
           refine WL.as (L' := E ++ (K ++ (.obj g24 (.map esU cU) :: .row g23 sizeL :: .row g22 wantL :: .row g4 (AtL.rcells { a with has := a.has + 2 ^ t }) :: .row g3 (fltL 0 0 ⟨#[]⟩) :: [.row g2 AtL.zero.rcells]))) rfl ?_
           refine WL.nil ?_
           refine WE.then_n ?_
           refine WC.seq ?_
           refine WC.seq ?_
           refine WC.region ?_
           refine WL.val (v_move rfl rfl) (.none rfl) rfl rfl ?_
           refine WL.test (v_eql rfl rfl rfl) (.none rfl) rfl rfl (fun h229 => ?_) (fun h229 => ?_)
           ·
            refine WL.nil ?_
            refine WE.then_n ?_
            refine WC.cond_t rfl ?_
            refine WC.seq ?_
            refine WC.region ?_
            refine WL.val (v_move rfl rfl) (.none rfl) rfl rfl ?_
            have er := readI_one (hz1 (by omega))
            have hl1 := hz1 (by omega)
            have hb1 := fOf_b hWv.bys 0
            refine WL.val (v_indexAddr (lo := 0) rfl rfl rfl Tryd.underlying22 sz_5 rfl (by omega)) (.none rfl) rfl rfl ?_
            refine WL.val (v_load1 rfl rfl one_5 (cellOld (fun h => h) (hWv.get (fOf_get (i := 0) (by omega))))) (.none rfl) rfl rfl ?_
            rw [er] at hb1 ⊢
            refine WL.val (v_conv rfl rfl Tryd.underlying3 Tryd.underlying5 (w_i64 (by omega) (by omega))) (.none rfl) rfl rfl ?_
            refine WL.val (v_fieldAddr0 rfl rfl fld_51_1) (.none rfl) rfl rfl ?_
            refine WL.store1 rfl rfl rfl rfl one_3 (Nat.le_of_ble_eq_true rfl) (.none rfl) rfl ?_
            refine WL.as (L' := E ++ (K ++ (.obj g24 (.map esU cU) :: .row g23 sizeL :: .row g22 wantL :: .row g4 (AtL.rcells { a with has := a.has + 2 ^ t, origin := readI vl }) :: .row g3 (fltL 0 0 ⟨#[]⟩) :: [.row g2 AtL.zero.rcells]))) rfl ?_
            refine WL.nil ?_
            refine WE.then_n ?_
            refine WC.seq ?_
            refine WC.region ?_
            refine WL.val (v_fieldAddr0 rfl rfl fld_51_1) (.none rfl) rfl rfl ?_
            refine WL.val (v_load1 rfl rfl one_3 (cellAt rfl)) (.none rfl) rfl rfl ?_
            refine WL.test (v_gtr rfl rfl rfl) (.none rfl) rfl rfl (fun h237 => ?_) (fun h237 => ?_)
            ·
             refine WL.nil ?_
             refine WE.then_n ?_
             refine WC.cond_t rfl ?_
             refine WC.seq ?_
             refine WC.orders mixed ?_
             refine WR.first (g := 4) [0, 1] (by kernel_rfl) (by kernel_rfl) ?_
             refine WP.val (v_build rfl rfl zero_51 plc_51 rfl) (.none rfl) rfl rfl ?_
             refine WP.val (v_move rfl rfl) (.none rfl) rfl rfl ?_
             refine WP.nil ?_
             refine WR.each (g := 3) [2, 4] (by kernel_rfl) (by decide) ?_
             refine ⟨?_, ?_⟩
             ·
              refine WL.val (v_convBS (fOf al) rfl rfl Tryd.underlying22 Tryd.underlying5 Tryd.underlying9 (fun w' hS' _ => ⟨b, sAddr o k cv 1, rfl, rd_u8s (hWa.st hS').at_⟩)) (.none rfl) rfl rfl ?_
              refine WL.nilR ?_
              refine WR.first (g := 2) [3] (by kernel_rfl) (by kernel_rfl) ?_
              refine WP.val (v_build rfl rfl zero_28 plc_28 rfl) (.none rfl) rfl rfl ?_
              refine WP.nil ?_
              refine WR.ones (g := 0) [4, 5] (by kernel_rfl) ?_
              refine WL.storeW rfl rfl rfl rfl many_51 rfl rfl (.none rfl) rfl ?_
              refine WL.storeW rfl rfl rfl rfl many_28 rfl rfl (.none rfl) rfl ?_
              refine WL.nilR ?_
              refine WR.done (by kernel_rfl) ?_
              refine WE.then_n ?_
              refine WC.ret ?_
              refine WE.then_ret ?_
              refine WE.block_ret ?_
              refine WE.then_ret ?_
              refine WE.block_ret ?_
              refine WE.then_ret ?_
              refine WE.ret2 (P := Tryd.prog) (.inl rfl) Tryd.results44 (resRow rfl many_51 rfl) (resRow rfl many_28 rfl) ?_
              have e0 : decD AtL.zero.d [] xs = .inr (6, strOf al) := (by rw [hdec]; exact decD_fail (by omega) hnsx (by rw [← hal, ← hvl]; rw [stepD_k hk18]; exact takeD_6 hnf hnz (by omega) (by have h7 : readI vl > 2 := h237; unfold wiB; exact decide_eq_false (by omega))))
              exact fun w' h => RDecP.no e0 h
             ·
              refine WL.storeW rfl rfl rfl rfl many_51 rfl rfl (.none rfl) rfl ?_
              refine WL.nilR ?_
              refine WR.read (g := 1) [2, 3] (by kernel_rfl) (by kernel_rfl) (by kernel_rfl) (by kernel_rfl) rfl ?_
              refine WQ.val (v_convBS (fOf al) rfl rfl Tryd.underlying22 Tryd.underlying5 Tryd.underlying9 (fun w' hS' _ => ⟨b, sAddr o k cv 1, rfl, rd_u8s (hWa.st hS').at_⟩)) (.none rfl) rfl rfl ?_
              refine WQ.val (v_build rfl rfl zero_28 plc_28 rfl) (.none rfl) rfl rfl ?_
              refine WQ.nilR ?_
              refine WR.ones (g := 0) [5] (by kernel_rfl) ?_
              refine WL.storeW rfl rfl rfl rfl many_28 rfl rfl (.none rfl) rfl ?_
              refine WL.nilR ?_
              refine WR.done (by kernel_rfl) ?_
              refine WE.then_n ?_
              refine WC.ret ?_
              refine WE.then_ret ?_
              refine WE.block_ret ?_
              refine WE.then_ret ?_
              refine WE.block_ret ?_
              refine WE.then_ret ?_
              refine WE.ret2 (P := Tryd.prog) (.inl rfl) Tryd.results44 (resRow rfl many_51 rfl) (resRow rfl many_28 rfl) ?_
              have e0 : decD AtL.zero.d [] xs = .inr (6, strOf al) := (by rw [hdec]; exact decD_fail (by omega) hnsx (by rw [← hal, ← hvl]; rw [stepD_k hk18]; exact takeD_6 hnf hnz (by omega) (by have h7 : readI vl > 2 := h237; unfold wiB; exact decide_eq_false (by omega))))
              exact fun w' h => RDecP.no e0 h
            ·
             refine WL.nil ?_
             refine WE.then_n ?_
             refine WC.cond_f rfl ?_
             refine WC.skip ?_
             refine WE.then_n ?_
             refine WC.seq ?_
             refine WC.seq ?_
             refine WC.region ?_
             refine WL.val (v_move rfl rfl) (.none rfl) rfl rfl ?_
             refine WL.val ((v_eql rfl rfl rfl).f (by omega)) (.none rfl) rfl rfl ?_
             refine WL.nil ?_
             refine WE.then_n ?_
             refine WC.cond_f rfl ?_
             refine WC.skip ?_
             refine WE.then_n ?_
             refine WC.seq ?_
             refine WC.seq ?_
             refine WC.region ?_
             refine WL.val (v_move rfl rfl) (.none rfl) rfl rfl ?_
             refine WL.val ((v_eql rfl rfl rfl).f (by omega)) (.none rfl) rfl rfl ?_
             refine WL.nil ?_
             refine WE.then_n ?_
             refine WC.cond_f rfl ?_
             refine WC.skip ?_
             refine WE.then_n ?_
             refine WC.seq ?_
             refine WC.seq ?_
             refine WC.region ?_
             refine WL.val (v_move rfl rfl) (.none rfl) rfl rfl ?_
             refine WL.val ((v_eql rfl rfl rfl).f (by omega)) (.none rfl) rfl rfl ?_
             refine WL.nil ?_
             refine WE.then_n ?_
             refine WC.cond_f rfl ?_
             refine WC.skip ?_
             refine WE.then_n ?_
             refine WC.seq ?_
             refine WC.seq ?_
             refine WC.region ?_
             refine WL.val (v_move rfl rfl) (.none rfl) rfl rfl ?_
             refine WL.val ((v_eql rfl rfl rfl).f (by omega)) (.none rfl) rfl rfl ?_
             refine WL.nil ?_
             refine WE.then_n ?_
             refine WC.cond_f rfl ?_
             refine WC.skip ?_
             refine WE.then_n ?_
             refine WC.seq ?_
             refine WC.seq ?_
             refine WC.region ?_
             refine WL.val (v_move rfl rfl) (.none rfl) rfl rfl ?_
             refine WL.val ((v_eql rfl rfl rfl).f (by omega)) (.none rfl) rfl rfl ?_
             refine WL.nil ?_
             refine WE.then_n ?_
             refine WC.cond_f rfl ?_
             refine WC.skip ?_
             refine WE.then_n ?_
             refine WC.seq ?_
             refine WC.region ?_
             refine WL.val (v_move rfl rfl) (.none rfl) rfl rfl ?_
             refine WL.val ((v_eql rfl rfl rfl).f (by omega)) (.none rfl) rfl rfl ?_
             refine WL.nil ?_
             refine WE.then_n ?_
             refine WC.cond_f rfl ?_
             refine WC.skip ?_
             refine WE.block_n ?_
             have htk : takeD d al vl = .inl ({ d with has := d.has + 2 ^ t, origin := readI vl }) := (by
               have := takeD_ok (d := d) (d' := { d with origin := readI vl }) hnf hnz (by omega) (by rw [htn, show t = 1 by omega]; rfl) (by intro h; omega) (by intro _; have h7 : ¬ readI vl > 2 := h237; show wiB (readI vl) 2 = true; unfold wiB; exact decide_eq_true (by omega)) (by intro h; omega)
               rw [this, htn])
             have hdd : AtL.d { a with has := a.has + 2 ^ t, origin := readI vl } = { ({ d with has := d.has + 2 ^ t, origin := readI vl } : AtD) with others := sortO d.others } := (by
               rw [show AtL.d { a with has := a.has + 2 ^ t, origin := readI vl } = { a.d with has := a.has + 2 ^ t, origin := readI vl } from rfl, hsame, hah])
             exact WE.next ⟨k + toN (xs.drop k), { d with has := d.has + 2 ^ t, origin := readI vl }, fOf al 1 :: seen, { a with has := a.has + 2 ^ t, origin := readI vl }, esU, cU, _, E, K⟩ (by dsimp only; omega) (hfin _ _ _ (fun _ h => h) ⟨hown.path, hown.segs, hown.comms⟩ rfl rfl rfl (.inr ⟨rfl, rfl⟩) htk hdd) (.cons rfl (.cons rfl (.cons rfl (.cons rfl (.cons rfl (.cons rfl (.cons rfl (.cons rfl .nil)))))))) (.refl _)
           ·
            refine WL.nil ?_
            refine WE.then_n ?_
            refine WC.cond_f rfl ?_
            refine WC.skip ?_
            refine WE.then_n ?_
            refine WC.seq ?_
            refine WC.seq ?_
            refine WC.region ?_
            refine WL.val (v_move rfl rfl) (.none rfl) rfl rfl ?_
            refine WL.test (v_eql rfl rfl rfl) (.none rfl) rfl rfl (fun h243 => ?_) (fun h243 => ?_)
            ·
             refine WL.nil ?_
             refine WE.then_n ?_
             refine WC.cond_t rfl ?_
             refine WC.seq ?_
             refine WC.region ?_
             refine WL.val (v_move rfl rfl) (.none rfl) rfl rfl ?_
             refine WL.call rfl rfl ck_67 (.none rfl) rfl rfl ?_
             intro w1 hS
             refine (RParts_u w1 b vo vc vl (hWv.st hS) (by omega)).mono ?_
             rintro e w' ⟨ss, ad2, c2, E2, K2, ok, rfl, hV2, hK2, hS2, hno, hyes⟩
             refine ⟨_, _, rfl, hS.join hS2, ?_⟩
             refine WL.val (v_move rfl rfl) (.none rfl) rfl rfl ?_
             refine WL.val (v_extract rfl rfl rfl) (.none rfl) rfl rfl ?_
             refine WL.val (v_extract rfl rfl rfl) (.none rfl) rfl rfl ?_
             cases ok
             ·
              refine WL.val (v_assign rfl rfl) (.none rfl) rfl rfl ?_
              refine WL.val (v_assign rfl rfl) (.none rfl) rfl rfl ?_
              refine WL.nil ?_
              refine WE.then_n ?_
              refine WC.seq ?_
              refine WC.seq ?_
              refine WC.region ?_
              refine WL.val (v_move rfl rfl) (.none rfl) rfl rfl ?_
              refine WL.val (v_not rfl rfl rfl) (.none rfl) rfl rfl ?_
              refine WL.nil ?_
              refine WE.then_n ?_
              refine WC.cond_t rfl ?_
              refine WC.seq ?_
              refine WC.region ?_
              refine WL.val (v_build rfl rfl zero_51 plc_51 rfl) (.none rfl) rfl rfl ?_
              refine WL.val (v_build rfl rfl zero_28 plc_28 rfl) (.none rfl) rfl rfl ?_
              refine WL.storeW rfl rfl rfl rfl many_51 rfl rfl (.none rfl) rfl ?_
              refine WL.storeW rfl rfl rfl rfl many_28 rfl rfl (.none rfl) rfl ?_
              refine WL.nil ?_
              refine WE.then_n ?_
              refine WC.ret ?_
              refine WE.then_ret ?_
              refine WE.then_ret ?_
              refine WE.block_ret ?_
              refine WE.then_ret ?_
              refine WE.block_ret ?_
              refine WE.then_ret ?_
              refine WE.ret2 (P := Tryd.prog) (.inl rfl) Tryd.results44 (resRow rfl many_51 rfl) (resRow rfl many_28 rfl) ?_
              have e0 : decD AtL.zero.d [] xs = .inr (11, ⟨#[]⟩) := (by rw [hdec]; exact decD_fail (by omega) hnsx (by rw [← hal, ← hvl]; rw [stepD_k hk18]; exact takeD_11 hnf hnz (by omega) (hno rfl)))
              exact fun w' h => RDecP.no e0 h
             ·
              refine WL.val (v_assign rfl rfl) (.none rfl) rfl rfl ?_
              refine WL.val (v_assign rfl rfl) (.none rfl) rfl rfl ?_
              refine WL.nil ?_
              refine WE.then_n ?_
              refine WC.seq ?_
              refine WC.seq ?_
              refine WC.region ?_
              refine WL.val (v_move rfl rfl) (.none rfl) rfl rfl ?_
              refine WL.val (v_not rfl rfl rfl) (.none rfl) rfl rfl ?_
              refine WL.nil ?_
              refine WE.then_n ?_
              refine WC.cond_f rfl ?_
              refine WC.skip ?_
              refine WE.then_n ?_
              refine WC.region ?_
              refine WL.val (v_move rfl rfl) (.none rfl) rfl rfl ?_
              refine WL.val (v_fieldAddr0 rfl rfl fld_51_2) (.none rfl) rfl rfl ?_
              refine WL.store1 rfl rfl rfl rfl one_48 (Nat.le_of_ble_eq_true rfl) (.none rfl) rfl ?_
              refine WL.as (L' := (E2 ++ K2) ++ (E ++ (K ++ (.obj g24 (.map esU cU) :: .row g23 sizeL :: .row g22 wantL :: .row g4 (AtL.rcells { a with has := a.has + 2 ^ t, pad := ad2, pc := c2, path := ss }) :: .row g3 (fltL 0 0 ⟨#[]⟩) :: [.row g2 AtL.zero.rcells])))) rfl ?_
              refine WL.to (L' := E ++ (((E2 ++ K2) ++ K) ++ (.obj g24 (.map esU cU) :: .row g23 sizeL :: .row g22 wantL :: .row g4 (AtL.rcells { a with has := a.has + 2 ^ t, pad := ad2, pc := c2, path := ss }) :: .row g3 (fltL 0 0 ⟨#[]⟩) :: [.row g2 AtL.zero.rcells]))) (fun w hS => hS.permC (by intro c h1 h2 h3 e; simp only [h1, h3]; omega)) ?_
              refine WL.nil ?_
              refine WE.then_n ?_
              refine WC.seq ?_
              refine WC.seq ?_
              refine WC.region ?_
              refine WL.val (v_move rfl rfl) (.none rfl) rfl rfl ?_
              refine WL.val ((v_eql rfl rfl rfl).f (by omega)) (.none rfl) rfl rfl ?_
              refine WL.nil ?_
              refine WE.then_n ?_
              refine WC.cond_f rfl ?_
              refine WC.skip ?_
              refine WE.then_n ?_
              refine WC.seq ?_
              refine WC.seq ?_
              refine WC.region ?_
              refine WL.val (v_move rfl rfl) (.none rfl) rfl rfl ?_
              refine WL.val ((v_eql rfl rfl rfl).f (by omega)) (.none rfl) rfl rfl ?_
              refine WL.nil ?_
              refine WE.then_n ?_
              refine WC.cond_f rfl ?_
              refine WC.skip ?_
              refine WE.then_n ?_
              refine WC.seq ?_
              refine WC.seq ?_
              refine WC.region ?_
              refine WL.val (v_move rfl rfl) (.none rfl) rfl rfl ?_
              refine WL.val ((v_eql rfl rfl rfl).f (by omega)) (.none rfl) rfl rfl ?_
              refine WL.nil ?_
              refine WE.then_n ?_
              refine WC.cond_f rfl ?_
              refine WC.skip ?_
              refine WE.then_n ?_
              refine WC.seq ?_
              refine WC.seq ?_
              refine WC.region ?_
              refine WL.val (v_move rfl rfl) (.none rfl) rfl rfl ?_
              refine WL.val ((v_eql rfl rfl rfl).f (by omega)) (.none rfl) rfl rfl ?_
              refine WL.nil ?_
              refine WE.then_n ?_
              refine WC.cond_f rfl ?_
              refine WC.skip ?_
              refine WE.then_n ?_
              refine WC.seq ?_
              refine WC.region ?_
              refine WL.val (v_move rfl rfl) (.none rfl) rfl rfl ?_
              refine WL.val ((v_eql rfl rfl rfl).f (by omega)) (.none rfl) rfl rfl ?_
              refine WL.nil ?_
              refine WE.then_n ?_
              refine WC.cond_f rfl ?_
              refine WC.skip ?_
              refine WE.block_n ?_
              obtain ⟨hpr, hpa⟩ := partsR_some (hyes rfl)
              have htk : takeD d al vl = .inl { d with has := d.has + 2 ^ t, path := ss.map segD } := (by
                have := takeD_ok (d := d) (d' := { d with path := ss.map segD }) hnf hnz (by omega) (by rw [htn, show t = 2 by omega]; show (pathR vl).map _ = _; rw [hpr]; rfl) (fun _ => hpa) (by intro h; omega) (by intro h; omega)
                rw [this, htn])
              have hdd : AtL.d { a with has := a.has + 2 ^ t, pad := ad2, pc := c2, path := ss } = { ({ d with has := d.has + 2 ^ t, path := ss.map segD } : AtD) with others := sortO d.others } := (by
                rw [show AtL.d { a with has := a.has + 2 ^ t, pad := ad2, pc := c2, path := ss } = { a.d with has := a.has + 2 ^ t, path := ss.map segD } from rfl, hsame, hah])
              have hA2 : AtOwn ((E2 ++ K2) ++ K) { a with has := a.has + 2 ^ t, pad := ad2, pc := c2, path := ss } := ⟨⟨E2, hV2, fun e he => List.mem_append_left _ (List.mem_append_left _ he)⟩, fun s hs => (by
                obtain ⟨E', r1, r2⟩ := hK2 s hs
                exact ⟨E', r1, fun e he => List.mem_append_left _ (List.mem_append_right _ (r2 e he))⟩), (by
                obtain ⟨E', r1, r2⟩ := hown.comms
                exact ⟨E', r1, fun e he => List.mem_append_right _ (r2 e he)⟩)⟩
              exact WE.next ⟨k + toN (xs.drop k), { d with has := d.has + 2 ^ t, path := ss.map segD }, fOf al 1 :: seen, { a with has := a.has + 2 ^ t, pad := ad2, pc := c2, path := ss }, esU, cU, _, E, (E2 ++ K2) ++ K⟩ (by dsimp only; omega) (hfin _ _ _ (fun e he => List.mem_append_right _ he) hA2 rfl rfl rfl (.inr ⟨rfl, rfl⟩) htk hdd) (.cons rfl (.cons rfl (.cons rfl (.cons rfl (.cons rfl (.cons rfl (.cons rfl (.cons rfl .nil)))))))) (.refl _)
            ·
             refine WL.nil ?_
             refine WE.then_n ?_
             refine WC.cond_f rfl ?_
             refine WC.skip ?_
             refine WE.then_n ?_
             refine WC.seq ?_
             refine WC.seq ?_
             refine WC.region ?_
             refine WL.val (v_move rfl rfl) (.none rfl) rfl rfl ?_
             refine WL.test (v_eql rfl rfl rfl) (.none rfl) rfl rfl (fun h256 => ?_) (fun h256 => ?_)
             ·
              refine WL.nil ?_
              refine WE.then_n ?_
              refine WC.cond_t rfl ?_
              refine WC.seq ?_
              refine WC.region ?_
              refine WL.val (v_move rfl rfl) (.none rfl) rfl rfl ?_
              have hl4 := hz4 (by omega)
              have hrb := readI_b 4 vl hl4 hWv.bys
              have hp4 : (256 : Int) ^ 4 = 4294967296 := (by decide)
              refine WL.call rfl rfl ck_65 (.none rfl) rfl rfl ?_
              intro w hS
              refine Calls.then (RNum_c _ b vo vc vl (hWv.st hS) (by omega)) hS ?_
              refine WL.val (v_fieldAddr0 rfl rfl fld_51_3) (.none rfl) rfl rfl ?_
              refine WL.store1 rfl rfl rfl rfl one_3 (Nat.le_of_ble_eq_true rfl) (.none rfl) rfl ?_
              refine WL.as (L' := E ++ (K ++ (.obj g24 (.map esU cU) :: .row g23 sizeL :: .row g22 wantL :: .row g4 (AtL.rcells { a with has := a.has + 2 ^ t, hop := readI vl }) :: .row g3 (fltL 0 0 ⟨#[]⟩) :: [.row g2 AtL.zero.rcells]))) rfl ?_
              refine WL.nil ?_
              refine WE.then_n ?_
              refine WC.seq ?_
              refine WC.region ?_
              refine WL.val (v_fieldAddr0 rfl rfl fld_51_3) (.none rfl) rfl rfl ?_
              refine WL.val (v_load1 rfl rfl one_3 (cellAt rfl)) (.none rfl) rfl rfl ?_
              refine WL.call rfl rfl ck_68 (.none rfl) rfl rfl ?_
              intro w hS
              refine Calls.then (RHop_c _ (readI vl) (by omega) (by omega)) hS ?_
              generalize hq3 : hopB (readI vl) = b262
              cases b262
              ·
               refine WL.val (v_not rfl rfl rfl) (.none rfl) rfl rfl ?_
               refine WL.nil ?_
               refine WE.then_n ?_
               refine WC.cond_t rfl ?_
               refine WC.seq ?_
               refine WC.orders mixed ?_
               refine WR.first (g := 4) [0, 1] (by kernel_rfl) (by kernel_rfl) ?_
               refine WP.val (v_build rfl rfl zero_51 plc_51 rfl) (.none rfl) rfl rfl ?_
               refine WP.val (v_move rfl rfl) (.none rfl) rfl rfl ?_
               refine WP.nil ?_
               refine WR.each (g := 3) [2, 4] (by kernel_rfl) (by decide) ?_
               refine ⟨?_, ?_⟩
               ·
                refine WL.val (v_convBS (fOf al) rfl rfl Tryd.underlying22 Tryd.underlying5 Tryd.underlying9 (fun w' hS' _ => ⟨b, sAddr o k cv 1, rfl, rd_u8s (hWa.st hS').at_⟩)) (.none rfl) rfl rfl ?_
                refine WL.nilR ?_
                refine WR.first (g := 2) [3] (by kernel_rfl) (by kernel_rfl) ?_
                refine WP.val (v_build rfl rfl zero_28 plc_28 rfl) (.none rfl) rfl rfl ?_
                refine WP.nil ?_
                refine WR.ones (g := 0) [4, 5] (by kernel_rfl) ?_
                refine WL.storeW rfl rfl rfl rfl many_51 rfl rfl (.none rfl) rfl ?_
                refine WL.storeW rfl rfl rfl rfl many_28 rfl rfl (.none rfl) rfl ?_
                refine WL.nilR ?_
                refine WR.done (by kernel_rfl) ?_
                refine WE.then_n ?_
                refine WC.ret ?_
                refine WE.then_ret ?_
                refine WE.block_ret ?_
                refine WE.then_ret ?_
                refine WE.block_ret ?_
                refine WE.then_ret ?_
                refine WE.ret2 (P := Tryd.prog) (.inl rfl) Tryd.results44 (resRow rfl many_51 rfl) (resRow rfl many_28 rfl) ?_
                have e0 : decD AtL.zero.d [] xs = .inr (8, strOf al) := (by rw [hdec]; exact decD_fail (by omega) hnsx (by rw [← hal, ← hvl]; rw [stepD_k hk18]; exact takeD_8 hnf hnz (by omega) hq3))
                exact fun w' h => RDecP.no e0 h
               ·
                refine WL.storeW rfl rfl rfl rfl many_51 rfl rfl (.none rfl) rfl ?_
                refine WL.nilR ?_
                refine WR.read (g := 1) [2, 3] (by kernel_rfl) (by kernel_rfl) (by kernel_rfl) (by kernel_rfl) rfl ?_
                refine WQ.val (v_convBS (fOf al) rfl rfl Tryd.underlying22 Tryd.underlying5 Tryd.underlying9 (fun w' hS' _ => ⟨b, sAddr o k cv 1, rfl, rd_u8s (hWa.st hS').at_⟩)) (.none rfl) rfl rfl ?_
                refine WQ.val (v_build rfl rfl zero_28 plc_28 rfl) (.none rfl) rfl rfl ?_
                refine WQ.nilR ?_
                refine WR.ones (g := 0) [5] (by kernel_rfl) ?_
                refine WL.storeW rfl rfl rfl rfl many_28 rfl rfl (.none rfl) rfl ?_
                refine WL.nilR ?_
                refine WR.done (by kernel_rfl) ?_
                refine WE.then_n ?_
                refine WC.ret ?_
                refine WE.then_ret ?_
                refine WE.block_ret ?_
                refine WE.then_ret ?_
                refine WE.block_ret ?_
                refine WE.then_ret ?_
                refine WE.ret2 (P := Tryd.prog) (.inl rfl) Tryd.results44 (resRow rfl many_51 rfl) (resRow rfl many_28 rfl) ?_
                have e0 : decD AtL.zero.d [] xs = .inr (8, strOf al) := (by rw [hdec]; exact decD_fail (by omega) hnsx (by rw [← hal, ← hvl]; rw [stepD_k hk18]; exact takeD_8 hnf hnz (by omega) hq3))
                exact fun w' h => RDecP.no e0 h
              ·
               refine WL.val (v_not rfl rfl rfl) (.none rfl) rfl rfl ?_
               refine WL.nil ?_
               refine WE.then_n ?_
               refine WC.cond_f rfl ?_
               refine WC.skip ?_
               refine WE.then_n ?_
               refine WC.seq ?_
               refine WC.seq ?_
               refine WC.region ?_
               refine WL.val (v_move rfl rfl) (.none rfl) rfl rfl ?_
               refine WL.val ((v_eql rfl rfl rfl).f (by omega)) (.none rfl) rfl rfl ?_
               refine WL.nil ?_
               refine WE.then_n ?_
               refine WC.cond_f rfl ?_
               refine WC.skip ?_
               refine WE.then_n ?_
               refine WC.seq ?_
               refine WC.seq ?_
               refine WC.region ?_
               refine WL.val (v_move rfl rfl) (.none rfl) rfl rfl ?_
               refine WL.val ((v_eql rfl rfl rfl).f (by omega)) (.none rfl) rfl rfl ?_
               refine WL.nil ?_
               refine WE.then_n ?_
               refine WC.cond_f rfl ?_
               refine WC.skip ?_
               refine WE.then_n ?_
               refine WC.seq ?_
               refine WC.seq ?_
               refine WC.region ?_
               refine WL.val (v_move rfl rfl) (.none rfl) rfl rfl ?_
               refine WL.val ((v_eql rfl rfl rfl).f (by omega)) (.none rfl) rfl rfl ?_
               refine WL.nil ?_
               refine WE.then_n ?_
               refine WC.cond_f rfl ?_
               refine WC.skip ?_
               refine WE.then_n ?_
               refine WC.seq ?_
               refine WC.region ?_
               refine WL.val (v_move rfl rfl) (.none rfl) rfl rfl ?_
               refine WL.val ((v_eql rfl rfl rfl).f (by omega)) (.none rfl) rfl rfl ?_
               refine WL.nil ?_
               refine WE.then_n ?_
               refine WC.cond_f rfl ?_
               refine WC.skip ?_
               refine WE.block_n ?_
               have htk : takeD d al vl = .inl ({ d with has := d.has + 2 ^ t, hop := readI vl }) := (by
                 have := takeD_ok (d := d) (d' := { d with hop := readI vl }) hnf hnz (by omega) (by rw [htn, show t = 3 by omega]; rfl) (by intro h; omega) (by intro h; omega) (by intro _; exact hq3)
                 rw [this, htn])
               have hdd : AtL.d { a with has := a.has + 2 ^ t, hop := readI vl } = { ({ d with has := d.has + 2 ^ t, hop := readI vl } : AtD) with others := sortO d.others } := (by
                 rw [show AtL.d { a with has := a.has + 2 ^ t, hop := readI vl } = { a.d with has := a.has + 2 ^ t, hop := readI vl } from rfl, hsame, hah])
               exact WE.next ⟨k + toN (xs.drop k), { d with has := d.has + 2 ^ t, hop := readI vl }, fOf al 1 :: seen, { a with has := a.has + 2 ^ t, hop := readI vl }, esU, cU, _, E, K⟩ (by dsimp only; omega) (hfin _ _ _ (fun _ h => h) ⟨hown.path, hown.segs, hown.comms⟩ rfl rfl rfl (.inr ⟨rfl, rfl⟩) htk hdd) (.cons rfl (.cons rfl (.cons rfl (.cons rfl (.cons rfl (.cons rfl (.cons rfl (.cons rfl .nil)))))))) (.refl _)
             ·
              refine WL.nil ?_
              refine WE.then_n ?_
              refine WC.cond_f rfl ?_
              refine WC.skip ?_
              refine WE.then_n ?_
              refine WC.seq ?_
              refine WC.seq ?_
              refine WC.region ?_
              refine WL.val (v_move rfl rfl) (.none rfl) rfl rfl ?_
              refine WL.test (v_eql rfl rfl rfl) (.none rfl) rfl rfl (fun h269 => ?_) (fun h269 => ?_)
              ·
               refine WL.nil ?_
               refine WE.then_n ?_
               refine WC.cond_t rfl ?_
               refine WC.region ?_
               refine WL.val (v_move rfl rfl) (.none rfl) rfl rfl ?_
               have hl4 := hz4 (by omega)
               have hrb := readI_b 4 vl hl4 hWv.bys
               have hp4 : (256 : Int) ^ 4 = 4294967296 := (by decide)
               refine WL.call rfl rfl ck_65 (.none rfl) rfl rfl ?_
               intro w hS
               refine Calls.then (RNum_c _ b vo vc vl (hWv.st hS) (by omega)) hS ?_
               refine WL.val (v_fieldAddr0 rfl rfl fld_51_4) (.none rfl) rfl rfl ?_
               refine WL.store1 rfl rfl rfl rfl one_3 (Nat.le_of_ble_eq_true rfl) (.none rfl) rfl ?_
               refine WL.as (L' := E ++ (K ++ (.obj g24 (.map esU cU) :: .row g23 sizeL :: .row g22 wantL :: .row g4 (AtL.rcells { a with has := a.has + 2 ^ t, med := readI vl }) :: .row g3 (fltL 0 0 ⟨#[]⟩) :: [.row g2 AtL.zero.rcells]))) rfl ?_
               refine WL.nil ?_
               refine WE.then_n ?_
               refine WC.seq ?_
               refine WC.seq ?_
               refine WC.region ?_
               refine WL.val (v_move rfl rfl) (.none rfl) rfl rfl ?_
               refine WL.val ((v_eql rfl rfl rfl).f (by omega)) (.none rfl) rfl rfl ?_
               refine WL.nil ?_
               refine WE.then_n ?_
               refine WC.cond_f rfl ?_
               refine WC.skip ?_
               refine WE.then_n ?_
               refine WC.seq ?_
               refine WC.seq ?_
               refine WC.region ?_
               refine WL.val (v_move rfl rfl) (.none rfl) rfl rfl ?_
               refine WL.val ((v_eql rfl rfl rfl).f (by omega)) (.none rfl) rfl rfl ?_
               refine WL.nil ?_
               refine WE.then_n ?_
               refine WC.cond_f rfl ?_
               refine WC.skip ?_
               refine WE.then_n ?_
               refine WC.seq ?_
               refine WC.region ?_
               refine WL.val (v_move rfl rfl) (.none rfl) rfl rfl ?_
               refine WL.val ((v_eql rfl rfl rfl).f (by omega)) (.none rfl) rfl rfl ?_
               refine WL.nil ?_
               refine WE.then_n ?_
               refine WC.cond_f rfl ?_
               refine WC.skip ?_
               refine WE.block_n ?_
               have htk : takeD d al vl = .inl ({ d with has := d.has + 2 ^ t, med := readI vl }) := (by
                 have := takeD_ok (d := d) (d' := { d with med := readI vl }) hnf hnz (by omega) (by rw [htn, show t = 4 by omega]; rfl) (by intro h; omega) (by intro h; omega) (by intro h; omega)
                 rw [this, htn])
               have hdd : AtL.d { a with has := a.has + 2 ^ t, med := readI vl } = { ({ d with has := d.has + 2 ^ t, med := readI vl } : AtD) with others := sortO d.others } := (by
                 rw [show AtL.d { a with has := a.has + 2 ^ t, med := readI vl } = { a.d with has := a.has + 2 ^ t, med := readI vl } from rfl, hsame, hah])
               exact WE.next ⟨k + toN (xs.drop k), { d with has := d.has + 2 ^ t, med := readI vl }, fOf al 1 :: seen, { a with has := a.has + 2 ^ t, med := readI vl }, esU, cU, _, E, K⟩ (by dsimp only; omega) (hfin _ _ _ (fun _ h => h) ⟨hown.path, hown.segs, hown.comms⟩ rfl rfl rfl (.inr ⟨rfl, rfl⟩) htk hdd) (.cons rfl (.cons rfl (.cons rfl (.cons rfl (.cons rfl (.cons rfl (.cons rfl (.cons rfl .nil)))))))) (.refl _)
              ·
               refine WL.nil ?_
               refine WE.then_n ?_
               refine WC.cond_f rfl ?_
               refine WC.skip ?_
               refine WE.then_n ?_
               refine WC.seq ?_
               refine WC.seq ?_
               refine WC.region ?_
               refine WL.val (v_move rfl rfl) (.none rfl) rfl rfl ?_
               refine WL.test (v_eql rfl rfl rfl) (.none rfl) rfl rfl (fun h274 => ?_) (fun h274 => ?_)
               ·
                refine WL.nil ?_
                refine WE.then_n ?_
                refine WC.cond_t rfl ?_
                refine WC.region ?_
                refine WL.val (v_move rfl rfl) (.none rfl) rfl rfl ?_
                have hl4 := hz4 (by omega)
                have hrb := readI_b 4 vl hl4 hWv.bys
                have hp4 : (256 : Int) ^ 4 = 4294967296 := (by decide)
                refine WL.call rfl rfl ck_65 (.none rfl) rfl rfl ?_
                intro w hS
                refine Calls.then (RNum_c _ b vo vc vl (hWv.st hS) (by omega)) hS ?_
                refine WL.val (v_fieldAddr0 rfl rfl fld_51_5) (.none rfl) rfl rfl ?_
                refine WL.store1 rfl rfl rfl rfl one_3 (Nat.le_of_ble_eq_true rfl) (.none rfl) rfl ?_
                refine WL.as (L' := E ++ (K ++ (.obj g24 (.map esU cU) :: .row g23 sizeL :: .row g22 wantL :: .row g4 (AtL.rcells { a with has := a.has + 2 ^ t, loc := readI vl }) :: .row g3 (fltL 0 0 ⟨#[]⟩) :: [.row g2 AtL.zero.rcells]))) rfl ?_
                refine WL.nil ?_
                refine WE.then_n ?_
                refine WC.seq ?_
                refine WC.seq ?_
                refine WC.region ?_
                refine WL.val (v_move rfl rfl) (.none rfl) rfl rfl ?_
                refine WL.val ((v_eql rfl rfl rfl).f (by omega)) (.none rfl) rfl rfl ?_
                refine WL.nil ?_
                refine WE.then_n ?_
                refine WC.cond_f rfl ?_
                refine WC.skip ?_
                refine WE.then_n ?_
                refine WC.seq ?_
                refine WC.region ?_
                refine WL.val (v_move rfl rfl) (.none rfl) rfl rfl ?_
                refine WL.val ((v_eql rfl rfl rfl).f (by omega)) (.none rfl) rfl rfl ?_
                refine WL.nil ?_
                refine WE.then_n ?_
                refine WC.cond_f rfl ?_
                refine WC.skip ?_
                refine WE.block_n ?_
                have htk : takeD d al vl = .inl ({ d with has := d.has + 2 ^ t, loc := readI vl }) := (by
                  have := takeD_ok (d := d) (d' := { d with loc := readI vl }) hnf hnz (by omega) (by rw [htn, show t = 5 by omega]; rfl) (by intro h; omega) (by intro h; omega) (by intro h; omega)
                  rw [this, htn])
                have hdd : AtL.d { a with has := a.has + 2 ^ t, loc := readI vl } = { ({ d with has := d.has + 2 ^ t, loc := readI vl } : AtD) with others := sortO d.others } := (by
                  rw [show AtL.d { a with has := a.has + 2 ^ t, loc := readI vl } = { a.d with has := a.has + 2 ^ t, loc := readI vl } from rfl, hsame, hah])
                exact WE.next ⟨k + toN (xs.drop k), { d with has := d.has + 2 ^ t, loc := readI vl }, fOf al 1 :: seen, { a with has := a.has + 2 ^ t, loc := readI vl }, esU, cU, _, E, K⟩ (by dsimp only; omega) (hfin _ _ _ (fun _ h => h) ⟨hown.path, hown.segs, hown.comms⟩ rfl rfl rfl (.inr ⟨rfl, rfl⟩) htk hdd) (.cons rfl (.cons rfl (.cons rfl (.cons rfl (.cons rfl (.cons rfl (.cons rfl (.cons rfl .nil)))))))) (.refl _)
               ·
                refine WL.nil ?_
                refine WE.then_n ?_
                refine WC.cond_f rfl ?_
                refine WC.skip ?_
                refine WE.then_n ?_
                refine WC.seq ?_
                refine WC.seq ?_
                refine WC.region ?_
                refine WL.val (v_move rfl rfl) (.none rfl) rfl rfl ?_
                refine WL.test (v_eql rfl rfl rfl) (.none rfl) rfl rfl (fun h279 => ?_) (fun h279 => ?_)
                ·
                 refine WL.nil ?_
                 refine WE.then_n ?_
                 refine WC.cond_t rfl ?_
                 refine WC.seq ?_
                 refine WC.region ?_
                 refine WL.val (v_move rfl rfl) (.none rfl) rfl rfl ?_
                 have hl7 := hz7 (by omega)
                 have hla : (vl.take 2).length = 2 := (by rw [List.length_take]; omega)
                 have hlb : (vl.drop 2).length = 4 := (by rw [List.length_drop]; omega)
                 refine WL.val ((v_slice_hi (hi := 2) rfl rfl rfl Tryd.underlying22 sz_5 rfl (by omega))) (.none rfl) rfl rfl ?_
                 refine WL.call rfl rfl ck_65 (.none rfl) rfl rfl ?_
                 intro w hS
                 refine Calls.then (by rw [show (Value.slice (some ⟨b, vo, none⟩) 2 vc) = .slice (some ⟨b, vo, none⟩) (vl.take 2).length vc by rw [hla]]; exact RNum_c _ b vo vc (vl.take 2) ((hWv.take 2).st hS) (by omega)) hS ?_
                 refine WL.val (v_fieldAddr0 rfl rfl fld_51_6) (.none rfl) rfl rfl ?_
                 refine WL.store1 rfl rfl rfl rfl one_3 (Nat.le_of_ble_eq_true rfl) (.none rfl) rfl ?_
                 refine WL.as (L' := E ++ (K ++ (.obj g24 (.map esU cU) :: .row g23 sizeL :: .row g22 wantL :: .row g4 (AtL.rcells { a with has := a.has + 2 ^ t, aas := readI (vl.take 2) }) :: .row g3 (fltL 0 0 ⟨#[]⟩) :: [.row g2 AtL.zero.rcells]))) rfl ?_
                 refine WL.nil ?_
                 refine WE.then_n ?_
                 refine WC.region ?_
                 refine WL.val (v_move rfl rfl) (.none rfl) rfl rfl ?_
                 refine WL.val ((v_slice_lo (lo := 2) rfl rfl rfl Tryd.underlying22 sz_5 rfl (by omega))) (.none rfl) rfl rfl ?_
                 refine WL.call rfl rfl ck_65 (.none rfl) rfl rfl ?_
                 intro w hS
                 refine Calls.then (by rw [show vl.length - 2 = (vl.drop 2).length by omega]; exact RNum_c _ b (sAddr vo 2 vc 1) (vc - 2) (vl.drop 2) ((hWv.drop 2).st hS) (by omega)) hS ?_
                 refine WL.val (v_fieldAddr0 rfl rfl fld_51_7) (.none rfl) rfl rfl ?_
                 refine WL.store1 rfl rfl rfl rfl one_3 (Nat.le_of_ble_eq_true rfl) (.none rfl) rfl ?_
                 refine WL.as (L' := E ++ (K ++ (.obj g24 (.map esU cU) :: .row g23 sizeL :: .row g22 wantL :: .row g4 (AtL.rcells { a with has := a.has + 2 ^ t, aas := readI (vl.take 2), aid := readI (vl.drop 2) }) :: .row g3 (fltL 0 0 ⟨#[]⟩) :: [.row g2 AtL.zero.rcells]))) rfl ?_
                 refine WL.nil ?_
                 refine WE.then_n ?_
                 refine WC.seq ?_
                 refine WC.region ?_
                 refine WL.val (v_move rfl rfl) (.none rfl) rfl rfl ?_
                 refine WL.val ((v_eql rfl rfl rfl).f (by omega)) (.none rfl) rfl rfl ?_
                 refine WL.nil ?_
                 refine WE.then_n ?_
                 refine WC.cond_f rfl ?_
                 refine WC.skip ?_
                 refine WE.block_n ?_
                 have htk : takeD d al vl = .inl ({ d with has := d.has + 2 ^ t, aas := readI (vl.take 2), aid := readI (vl.drop 2) }) := (by
                   have := takeD_ok (d := d) (d' := { d with aas := readI (vl.take 2), aid := readI (vl.drop 2) }) hnf hnz (by omega) (by rw [htn, show t = 7 by omega]; rfl) (by intro h; omega) (by intro h; omega) (by intro h; omega)
                   rw [this, htn])
                 have hdd : AtL.d { a with has := a.has + 2 ^ t, aas := readI (vl.take 2), aid := readI (vl.drop 2) } = { ({ d with has := d.has + 2 ^ t, aas := readI (vl.take 2), aid := readI (vl.drop 2) } : AtD) with others := sortO d.others } := (by
                   rw [show AtL.d { a with has := a.has + 2 ^ t, aas := readI (vl.take 2), aid := readI (vl.drop 2) } = { a.d with has := a.has + 2 ^ t, aas := readI (vl.take 2), aid := readI (vl.drop 2) } from rfl, hsame, hah])
                 exact WE.next ⟨k + toN (xs.drop k), { d with has := d.has + 2 ^ t, aas := readI (vl.take 2), aid := readI (vl.drop 2) }, fOf al 1 :: seen, { a with has := a.has + 2 ^ t, aas := readI (vl.take 2), aid := readI (vl.drop 2) }, esU, cU, _, E, K⟩ (by dsimp only; omega) (hfin _ _ _ (fun _ h => h) ⟨hown.path, hown.segs, hown.comms⟩ rfl rfl rfl (.inr ⟨rfl, rfl⟩) htk hdd) (.cons rfl (.cons rfl (.cons rfl (.cons rfl (.cons rfl (.cons rfl (.cons rfl (.cons rfl .nil)))))))) (.refl _)
                ·
                 refine WL.nil ?_
                 refine WE.then_n ?_
                 refine WC.cond_f rfl ?_
                 refine WC.skip ?_
                 refine WE.then_n ?_
                 refine WC.seq ?_
                 refine WC.region ?_
                 refine WL.val (v_move rfl rfl) (.none rfl) rfl rfl ?_
                 refine WL.test (v_eql rfl rfl rfl) (.none rfl) rfl rfl (fun h289 => ?_) (fun h289 => ?_)
                 ·
                  refine WL.nil ?_
                  refine WE.then_n ?_
                  refine WC.cond_t rfl ?_
                  refine WC.seq ?_
                  refine WC.seq ?_
                  refine WC.region ?_
                  refine WL.val (v_move rfl rfl) (.none rfl) rfl rfl ?_
                  refine WL.val (v_len_slice rfl rfl Tryd.underlying22) (.none rfl) rfl rfl ?_
                  refine WL.test (v_gtr rfl rfl rfl) (.none rfl) rfl rfl (fun h292 => ?_) (fun h292 => ?_)
                  ·
                   refine WL.nil ?_
                   refine WE.then_n ?_
                   refine WC.cond_t rfl ?_
                   refine WC.seq ?_
                   refine WC.orders mixed ?_
                   refine WR.first (g := 4) [0, 1] (by kernel_rfl) (by kernel_rfl) ?_
                   refine WP.val (v_build rfl rfl zero_51 plc_51 rfl) (.none rfl) rfl rfl ?_
                   refine WP.val (v_move rfl rfl) (.none rfl) rfl rfl ?_
                   refine WP.nil ?_
                   refine WR.each (g := 3) [2, 4] (by kernel_rfl) (by decide) ?_
                   refine ⟨?_, ?_⟩
                   ·
                    refine WL.val (v_convBS (fOf al) rfl rfl Tryd.underlying22 Tryd.underlying5 Tryd.underlying9 (fun w' hS' _ => ⟨b, sAddr o k cv 1, rfl, rd_u8s (hWa.st hS').at_⟩)) (.none rfl) rfl rfl ?_
                    refine WL.nilR ?_
                    refine WR.first (g := 2) [3] (by kernel_rfl) (by kernel_rfl) ?_
                    refine WP.val (v_build rfl rfl zero_28 plc_28 rfl) (.none rfl) rfl rfl ?_
                    refine WP.nil ?_
                    refine WR.ones (g := 0) [4, 5] (by kernel_rfl) ?_
                    refine WL.storeW rfl rfl rfl rfl many_51 rfl rfl (.none rfl) rfl ?_
                    refine WL.storeW rfl rfl rfl rfl many_28 rfl rfl (.none rfl) rfl ?_
                    refine WL.nilR ?_
                    refine WR.done (by kernel_rfl) ?_
                    refine WE.then_n ?_
                    refine WC.ret ?_
                    refine WE.then_ret ?_
                    refine WE.block_ret ?_
                    refine WE.then_ret ?_
                    refine WE.block_ret ?_
                    refine WE.then_ret ?_
                    refine WE.ret2 (P := Tryd.prog) (.inl rfl) Tryd.results44 (resRow rfl many_51 rfl) (resRow rfl many_28 rfl) ?_
                    have e0 : decD AtL.zero.d [] xs = .inr (9, strOf al) := (by rw [hdec]; exact decD_fail (by omega) hnsx (by rw [← hal, ← hvl]; rw [stepD_k hk18]; exact takeD_9 hnf hnz ⟨by omega, by omega⟩))
                    exact fun w' h => RDecP.no e0 h
                   ·
                    refine WL.storeW rfl rfl rfl rfl many_51 rfl rfl (.none rfl) rfl ?_
                    refine WL.nilR ?_
                    refine WR.read (g := 1) [2, 3] (by kernel_rfl) (by kernel_rfl) (by kernel_rfl) (by kernel_rfl) rfl ?_
                    refine WQ.val (v_convBS (fOf al) rfl rfl Tryd.underlying22 Tryd.underlying5 Tryd.underlying9 (fun w' hS' _ => ⟨b, sAddr o k cv 1, rfl, rd_u8s (hWa.st hS').at_⟩)) (.none rfl) rfl rfl ?_
                    refine WQ.val (v_build rfl rfl zero_28 plc_28 rfl) (.none rfl) rfl rfl ?_
                    refine WQ.nilR ?_
                    refine WR.ones (g := 0) [5] (by kernel_rfl) ?_
                    refine WL.storeW rfl rfl rfl rfl many_28 rfl rfl (.none rfl) rfl ?_
                    refine WL.nilR ?_
                    refine WR.done (by kernel_rfl) ?_
                    refine WE.then_n ?_
                    refine WC.ret ?_
                    refine WE.then_ret ?_
                    refine WE.block_ret ?_
                    refine WE.then_ret ?_
                    refine WE.block_ret ?_
                    refine WE.then_ret ?_
                    refine WE.ret2 (P := Tryd.prog) (.inl rfl) Tryd.results44 (resRow rfl many_51 rfl) (resRow rfl many_28 rfl) ?_
                    have e0 : decD AtL.zero.d [] xs = .inr (9, strOf al) := (by rw [hdec]; exact decD_fail (by omega) hnsx (by rw [← hal, ← hvl]; rw [stepD_k hk18]; exact takeD_9 hnf hnz ⟨by omega, by omega⟩))
                    exact fun w' h => RDecP.no e0 h
                  ·
                   refine WL.nil ?_
                   refine WE.then_n ?_
                   refine WC.cond_f rfl ?_
                   refine WC.skip ?_
                   refine WE.then_n ?_
                   refine WC.seq ?_
                   refine WC.region ?_
                   obtain ⟨e81, e82⟩ := hcom (by rw [← show fOf al 1 = 8 by omega]; exact hns6)
                   have e83 : a.comms = [] := (by
                     have h1 := hseen.com (by rw [← show fOf al 1 = 8 by omega]; exact hns6)
                     have h2 := congrArg AtD.comms hsame
                     exact h2.trans h1)
                   have hl8 := hz8 (by omega)
                   have ea8 : ({ a with has := a.has + 2 ^ t } : AtL) = { a with has := a.has + 2 ^ t, cad := none, cc := 0, comms := [] } := (by rw [← e81, ← e82, ← e83])
                   rw [ea8]
                   refine WL.val (v_assign rfl rfl) (.none rfl) rfl rfl ?_
                   refine WL.nil ?_
                   refine WE.then_n ?_
                   refine WC.block ?_
                   refine WC.loop (fun y : Nat × List Int × Option Addr × Nat × List Ent => [(20, .int .i64 y.1), (13, .slice (some ⟨b, vo, none⟩) vl.length vc), (12, .int .i64 t), (8, .int .i64 ((k + toN (xs.drop k) : Nat) : Int)), (7, .map (some g24)), (6, .slice (some ⟨g23, 0, none⟩) 9 9), (5, .slice (some ⟨g22, 0, none⟩) 9 9), (4, .pointer (some ⟨g4, 0, none⟩)), (3, .pointer (some ⟨g3, 0, none⟩)), (2, .pointer (some ⟨g2, 0, none⟩)), (0, .slice (some ⟨b, o, none⟩) xs.length cv)]) (fun y => y.2.2.2.2 ++ (E ++ (K ++ (.obj g24 (.map esU cU) :: .row g23 sizeL :: .row g22 wantL :: .row g4 (AtL.rcells { a with has := a.has + 2 ^ t, cad := y.2.2.1, cc := y.2.2.2.1, comms := y.2.1 }) :: .row g3 (fltL 0 0 ⟨#[]⟩) :: [.row g2 AtL.zero.rcells])))) (fun y => y.1 ≤ vl.length ∧ y.1 % 4 = 0 ∧ y.2.1 ++ fours (vl.drop y.1) = fours vl ∧ Vec 1 y.2.2.1 y.2.1.length y.2.2.2.1 (i64s y.2.1) y.2.2.2.2 ∧ y.2.1.length ≤ y.1) (fun y => vl.length - y.1) (0, [], none, 0, []) ⟨Nat.zero_le _, rfl, by dsimp only; rw [List.drop_zero]; rfl, Vec.nil 1, Nat.zero_le _⟩ (.cons rfl (.cons rfl (.cons rfl (.cons rfl (.cons rfl (.cons rfl (.cons rfl (.cons rfl (.cons rfl (.cons rfl (.cons rfl .nil))))))))))) (.refl _) ?_
                   rintro ⟨i, cs, ad, cc, E8⟩ ⟨hi, hi4, hy, hV8, hcl⟩
                   dsimp only at hi hi4 hy hV8 hcl
                   dsimp only
                   refine WC.seq ?_
                   refine WC.seq ?_
                   refine WC.region ?_
                   refine WL.val (v_move rfl rfl) (.none rfl) rfl rfl ?_
                   refine WL.val (v_move rfl rfl) (.none rfl) rfl rfl ?_
                   refine WL.val (v_len_slice rfl rfl Tryd.underlying22) (.none rfl) rfl rfl ?_
                   refine WL.test (v_lss rfl rfl rfl) (.none rfl) rfl rfl (fun h300 => ?_) (fun h300 => ?_)
                   ·
                    refine WL.nil ?_
                    refine WE.then_n ?_
                    refine WC.cond_t rfl ?_
                    refine WC.skip ?_
                    refine WE.then_n ?_
                    refine WC.seq ?_
                    refine WC.block ?_
                    refine WC.orders mixed ?_
                    refine WR.first (g := 6) [0, 2, 3, 4, 5, 6] (by kernel_rfl) (by kernel_rfl) ?_
                    refine WP.val (v_fieldAddr0 rfl rfl fld_51_8) (.none rfl) rfl rfl ?_
                    obtain ⟨x0, x1, x2, x3, zs, hdr⟩ := four_of (xs := vl.drop i) (by rw [List.length_drop]; omega)
                    have hnum : (vl.take (i + 4)).drop i = [x0, x1, x2, x3] := (by rw [List.drop_take, hdr, show i + 4 - i = 4 by omega]; rfl)
                    have hzs : vl.drop (i + 4) = zs := (by rw [← List.drop_drop, hdr]; rfl)
                    rw [hdr, show fours (x0 :: x1 :: x2 :: x3 :: zs) = readI [x0, x1, x2, x3] :: fours zs from rfl] at hy
                    refine WP.val (v_move rfl rfl) (.none rfl) rfl rfl ?_
                    refine WP.val (v_move rfl rfl) (.none rfl) rfl rfl ?_
                    refine WP.val (v_move rfl rfl) (.none rfl) rfl rfl ?_
                    refine WP.val (v_add rfl rfl rfl (show _ = ((i + 4 : Nat) : Int) from (w_i64 (by omega) (by omega)).trans (by omega))) (.none rfl) rfl rfl ?_
                    refine WP.val ((v_slice_lh (lo := i) (hi := i + 4) rfl rfl rfl rfl Tryd.underlying22 sz_5 rfl rfl (by omega) (by omega))) (.none rfl) rfl rfl ?_
                    refine WP.nil ?_
                    refine WR.each (g := 5) [1, 7] (by kernel_rfl) (by decide) ?_
                    refine ⟨?_, ?_⟩
                    ·
                     refine WL.val (v_load1 rfl rfl one_38 (cellAt rfl)) (.none rfl) rfl rfl ?_
                     refine WL.nilR ?_
                     refine WR.read (g := 4) [7] (by kernel_rfl) (by kernel_rfl) (by kernel_rfl) (by kernel_rfl) rfl ?_
                     refine WQ.call _ rfl rfl ck_65 (.none rfl) rfl rfl (fun w hS => Calls.still (by have := (hWv.st hS).numk i (i + 4) (by omega) (by omega) (by omega); rw [hnum] at this; exact this) hS) ?_
                     refine WQ.nilR ?_
                     refine WR.ones (g := 2) [8, 9] (by kernel_rfl) ?_
                     refine WL.buildSlice rfl rfl Tryd.underlying38 sz_3 zero_3 rfl (by decide) rfl (.none rfl) rfl rfl ?_
                     intro g311 hg311
                     refine WL.as (L' := .row g311 (i64s [readI [x0, x1, x2, x3]]) :: (E8 ++ (E ++ (K ++ (.obj g24 (.map esU cU) :: .row g23 sizeL :: .row g22 wantL :: .row g4 (AtL.rcells { a with has := a.has + 2 ^ t, cad := ad, cc := cc, comms := cs }) :: .row g3 (fltL 0 0 ⟨#[]⟩) :: [.row g2 AtL.zero.rcells]))))) rfl ?_
                     refine WL.to (L' := E8 ++ (.row g311 (i64s [readI [x0, x1, x2, x3]]) :: (E ++ (K ++ (.obj g24 (.map esU cU) :: .row g23 sizeL :: .row g22 wantL :: .row g4 (AtL.rcells { a with has := a.has + 2 ^ t, cad := ad, cc := cc, comms := cs }) :: .row g3 (fltL 0 0 ⟨#[]⟩) :: [.row g2 AtL.zero.rcells]))))) (fun w hS => hS.front [_]) ?_
                     refine WL.appendL rfl rfl rfl Tryd.underlying38 Tryd.underlying38 sz_3 by_3 zero_3 rfl rfl hV8 (new := i64s [readI [x0, x1, x2, x3]]) (fun _ => ⟨g311, 0, rfl, fun w hS => allAt (g := g311) w hS⟩) rfl (i64s_one _) (by dsimp only; omega) (.none rfl) rfl rfl ?_
                     intro ad312 c312 E312 hV312 hr312
                     rw [← i64s_app] at hV312
                     rw [show cs.length + 1 = (cs ++ [readI [x0, x1, x2, x3]]).length by rw [List.length_append]; rfl] at hV312 ⊢
                     refine WL.nilR ?_
                     refine WR.first (g := 1) [10] (by kernel_rfl) (by kernel_rfl) ?_
                     refine WP.val (v_fieldAddr0 rfl rfl fld_51_8) (.none rfl) rfl rfl ?_
                     refine WP.nil ?_
                     refine WR.ones (g := 0) [11] (by kernel_rfl) ?_
                     refine WL.store1 rfl rfl rfl rfl one_38 (Nat.le_of_ble_eq_true rfl) (.none rfl) rfl ?_
                     refine WL.as (L' := E312 ++ (.row g311 (i64s [readI [x0, x1, x2, x3]]) :: (E ++ (K ++ (.obj g24 (.map esU cU) :: .row g23 sizeL :: .row g22 wantL :: .row g4 (AtL.rcells { a with has := a.has + 2 ^ t, cad := ad312, cc := c312, comms := (cs ++ [readI [x0, x1, x2, x3]]) }) :: .row g3 (fltL 0 0 ⟨#[]⟩) :: [.row g2 AtL.zero.rcells]))))) rfl ?_
                     refine WL.nilR ?_
                     refine WR.done (by kernel_rfl) ?_
                     refine WE.block_n ?_
                     refine WE.then_n ?_
                     refine WC.region ?_
                     refine WL.val (v_move rfl rfl) (.none rfl) rfl rfl ?_
                     refine WL.val (v_add rfl rfl rfl (show _ = ((i + 4 : Nat) : Int) from (w_i64 (by omega) (by omega)).trans (by omega))) (.none rfl) rfl rfl ?_
                     skip
                     refine WL.val (v_assign rfl rfl) (.none rfl) rfl rfl ?_
                     refine WL.nil ?_
                     exact WE.next (i + 4, cs ++ [readI [x0, x1, x2, x3]], ad312, c312, E312) (by dsimp only; omega) ⟨by dsimp only; omega, by dsimp only; omega, by dsimp only; rw [List.append_assoc, hzs]; exact hy, hV312, by dsimp only; rw [List.length_append]; show _ + 1 ≤ _; omega⟩ (.cons rfl (.cons rfl (.cons rfl (.cons rfl (.cons rfl (.cons rfl (.cons rfl (.cons rfl (.cons rfl (.cons rfl (.cons rfl .nil))))))))))) (List.Sublist.append_left (.cons _ (.refl _)) _)
                    ·
                     refine WL.call rfl rfl ck_65 (.none rfl) rfl rfl ?_
                     intro w hS
                     refine Calls.then (by have := (hWv.st hS).numk i (i + 4) (by omega) (by omega) (by omega); rw [hnum] at this; exact this) hS ?_
                     refine WL.nilR ?_
                     refine WR.each (g := 4) [1, 8] (by kernel_rfl) (by decide) ?_
                     refine ⟨?_, ?_⟩
                     ·
                      refine WL.val (v_load1 rfl rfl one_38 (cellAt rfl)) (.none rfl) rfl rfl ?_
                      refine WL.nilR ?_
                      refine WR.ones (g := 2) [8, 9] (by kernel_rfl) ?_
                      refine WL.buildSlice rfl rfl Tryd.underlying38 sz_3 zero_3 rfl (by decide) rfl (.none rfl) rfl rfl ?_
                      intro g311 hg311
                      refine WL.as (L' := .row g311 (i64s [readI [x0, x1, x2, x3]]) :: (E8 ++ (E ++ (K ++ (.obj g24 (.map esU cU) :: .row g23 sizeL :: .row g22 wantL :: .row g4 (AtL.rcells { a with has := a.has + 2 ^ t, cad := ad, cc := cc, comms := cs }) :: .row g3 (fltL 0 0 ⟨#[]⟩) :: [.row g2 AtL.zero.rcells]))))) rfl ?_
                      refine WL.to (L' := E8 ++ (.row g311 (i64s [readI [x0, x1, x2, x3]]) :: (E ++ (K ++ (.obj g24 (.map esU cU) :: .row g23 sizeL :: .row g22 wantL :: .row g4 (AtL.rcells { a with has := a.has + 2 ^ t, cad := ad, cc := cc, comms := cs }) :: .row g3 (fltL 0 0 ⟨#[]⟩) :: [.row g2 AtL.zero.rcells]))))) (fun w hS => hS.front [_]) ?_
                      refine WL.appendL rfl rfl rfl Tryd.underlying38 Tryd.underlying38 sz_3 by_3 zero_3 rfl rfl hV8 (new := i64s [readI [x0, x1, x2, x3]]) (fun _ => ⟨g311, 0, rfl, fun w hS => allAt (g := g311) w hS⟩) rfl (i64s_one _) (by dsimp only; omega) (.none rfl) rfl rfl ?_
                      intro ad312 c312 E312 hV312 hr312
                      rw [← i64s_app] at hV312
                      rw [show cs.length + 1 = (cs ++ [readI [x0, x1, x2, x3]]).length by rw [List.length_append]; rfl] at hV312 ⊢
                      refine WL.nilR ?_
                      refine WR.first (g := 1) [10] (by kernel_rfl) (by kernel_rfl) ?_
                      refine WP.val (v_fieldAddr0 rfl rfl fld_51_8) (.none rfl) rfl rfl ?_
                      refine WP.nil ?_
                      refine WR.ones (g := 0) [11] (by kernel_rfl) ?_
                      refine WL.store1 rfl rfl rfl rfl one_38 (Nat.le_of_ble_eq_true rfl) (.none rfl) rfl ?_
                      refine WL.as (L' := E312 ++ (.row g311 (i64s [readI [x0, x1, x2, x3]]) :: (E ++ (K ++ (.obj g24 (.map esU cU) :: .row g23 sizeL :: .row g22 wantL :: .row g4 (AtL.rcells { a with has := a.has + 2 ^ t, cad := ad312, cc := c312, comms := (cs ++ [readI [x0, x1, x2, x3]]) }) :: .row g3 (fltL 0 0 ⟨#[]⟩) :: [.row g2 AtL.zero.rcells]))))) rfl ?_
                      refine WL.nilR ?_
                      refine WR.done (by kernel_rfl) ?_
                      refine WE.block_n ?_
                      refine WE.then_n ?_
                      refine WC.region ?_
                      refine WL.val (v_move rfl rfl) (.none rfl) rfl rfl ?_
                      refine WL.val (v_add rfl rfl rfl (show _ = ((i + 4 : Nat) : Int) from (w_i64 (by omega) (by omega)).trans (by omega))) (.none rfl) rfl rfl ?_
                      skip
                      refine WL.val (v_assign rfl rfl) (.none rfl) rfl rfl ?_
                      refine WL.nil ?_
                      exact WE.next (i + 4, cs ++ [readI [x0, x1, x2, x3]], ad312, c312, E312) (by dsimp only; omega) ⟨by dsimp only; omega, by dsimp only; omega, by dsimp only; rw [List.append_assoc, hzs]; exact hy, hV312, by dsimp only; rw [List.length_append]; show _ + 1 ≤ _; omega⟩ (.cons rfl (.cons rfl (.cons rfl (.cons rfl (.cons rfl (.cons rfl (.cons rfl (.cons rfl (.cons rfl (.cons rfl (.cons rfl .nil))))))))))) (List.Sublist.append_left (.cons _ (.refl _)) _)
                     ·
                      refine WL.buildSlice rfl rfl Tryd.underlying38 sz_3 zero_3 rfl (by decide) rfl (.none rfl) rfl rfl ?_
                      intro g311 hg311
                      refine WL.as (L' := .row g311 (i64s [readI [x0, x1, x2, x3]]) :: (E8 ++ (E ++ (K ++ (.obj g24 (.map esU cU) :: .row g23 sizeL :: .row g22 wantL :: .row g4 (AtL.rcells { a with has := a.has + 2 ^ t, cad := ad, cc := cc, comms := cs }) :: .row g3 (fltL 0 0 ⟨#[]⟩) :: [.row g2 AtL.zero.rcells]))))) rfl ?_
                      refine WL.to (L' := E8 ++ (.row g311 (i64s [readI [x0, x1, x2, x3]]) :: (E ++ (K ++ (.obj g24 (.map esU cU) :: .row g23 sizeL :: .row g22 wantL :: .row g4 (AtL.rcells { a with has := a.has + 2 ^ t, cad := ad, cc := cc, comms := cs }) :: .row g3 (fltL 0 0 ⟨#[]⟩) :: [.row g2 AtL.zero.rcells]))))) (fun w hS => hS.front [_]) ?_
                      refine WL.nilR ?_
                      refine WR.read (g := 3) [1] (by kernel_rfl) (by kernel_rfl) (by kernel_rfl) (by kernel_rfl) rfl ?_
                      refine WQ.val (v_load1 rfl rfl one_38 (cellAt rfl)) (.none rfl) rfl rfl ?_
                      refine WQ.nilR ?_
                      refine WR.ones (g := 2) [9] (by kernel_rfl) ?_
                      refine WL.appendL rfl rfl rfl Tryd.underlying38 Tryd.underlying38 sz_3 by_3 zero_3 rfl rfl hV8 (new := i64s [readI [x0, x1, x2, x3]]) (fun _ => ⟨g311, 0, rfl, fun w hS => allAt (g := g311) w hS⟩) rfl (i64s_one _) (by dsimp only; omega) (.none rfl) rfl rfl ?_
                      intro ad312 c312 E312 hV312 hr312
                      rw [← i64s_app] at hV312
                      rw [show cs.length + 1 = (cs ++ [readI [x0, x1, x2, x3]]).length by rw [List.length_append]; rfl] at hV312 ⊢
                      refine WL.nilR ?_
                      refine WR.first (g := 1) [10] (by kernel_rfl) (by kernel_rfl) ?_
                      refine WP.val (v_fieldAddr0 rfl rfl fld_51_8) (.none rfl) rfl rfl ?_
                      refine WP.nil ?_
                      refine WR.ones (g := 0) [11] (by kernel_rfl) ?_
                      refine WL.store1 rfl rfl rfl rfl one_38 (Nat.le_of_ble_eq_true rfl) (.none rfl) rfl ?_
                      refine WL.as (L' := E312 ++ (.row g311 (i64s [readI [x0, x1, x2, x3]]) :: (E ++ (K ++ (.obj g24 (.map esU cU) :: .row g23 sizeL :: .row g22 wantL :: .row g4 (AtL.rcells { a with has := a.has + 2 ^ t, cad := ad312, cc := c312, comms := (cs ++ [readI [x0, x1, x2, x3]]) }) :: .row g3 (fltL 0 0 ⟨#[]⟩) :: [.row g2 AtL.zero.rcells]))))) rfl ?_
                      refine WL.nilR ?_
                      refine WR.done (by kernel_rfl) ?_
                      refine WE.block_n ?_
                      refine WE.then_n ?_
                      refine WC.region ?_
                      refine WL.val (v_move rfl rfl) (.none rfl) rfl rfl ?_
                      refine WL.val (v_add rfl rfl rfl (show _ = ((i + 4 : Nat) : Int) from (w_i64 (by omega) (by omega)).trans (by omega))) (.none rfl) rfl rfl ?_
                      skip
                      refine WL.val (v_assign rfl rfl) (.none rfl) rfl rfl ?_
                      refine WL.nil ?_
                      exact WE.next (i + 4, cs ++ [readI [x0, x1, x2, x3]], ad312, c312, E312) (by dsimp only; omega) ⟨by dsimp only; omega, by dsimp only; omega, by dsimp only; rw [List.append_assoc, hzs]; exact hy, hV312, by dsimp only; rw [List.length_append]; show _ + 1 ≤ _; omega⟩ (.cons rfl (.cons rfl (.cons rfl (.cons rfl (.cons rfl (.cons rfl (.cons rfl (.cons rfl (.cons rfl (.cons rfl (.cons rfl .nil))))))))))) (List.Sublist.append_left (.cons _ (.refl _)) _)
                   ·
                    refine WL.nil ?_
                    refine WE.then_n ?_
                    refine WC.cond_f rfl ?_
                    refine WC.exit ?_
                    refine WE.then_exit ?_
                    refine WE.then_exit ?_
                    refine WE.block_hit ?_
                    refine WE.block_n ?_
                    have hcs : cs = fours vl := (by rw [← hy, List.drop_eq_nil_of_le (by omega)]; exact (List.append_nil _).symm)
                    have hdc : d.comms = [] := hseen.com (by rw [← show fOf al 1 = 8 by omega]; exact hns6)
                    have htk : takeD d al vl = .inl { d with has := d.has + 2 ^ t, comms := cs } := (by
                      have := takeD_ok (d := d) (d' := { d with comms := cs }) hnf hnz (by omega) (by rw [htn, show t = 8 by omega]; show some { d with comms := d.comms ++ fours vl } = _; rw [hdc, hcs]; rfl) (by intro h; omega) (by intro h; omega) (by intro h; omega)
                      rw [this, htn])
                    have hdd : AtL.d { a with has := a.has + 2 ^ t, cad := ad, cc := cc, comms := cs } = { ({ d with has := d.has + 2 ^ t, comms := cs } : AtD) with others := sortO d.others } := (by
                      rw [show AtL.d { a with has := a.has + 2 ^ t, cad := ad, cc := cc, comms := cs } = { a.d with has := a.has + 2 ^ t, comms := cs } from rfl, hsame, hah])
                    have hA8 : AtOwn (E8 ++ K) { a with has := a.has + 2 ^ t, cad := ad, cc := cc, comms := cs } := ⟨(by
                      obtain ⟨E', r1, r2⟩ := hown.path
                      exact ⟨E', r1, fun e he => List.mem_append_right _ (r2 e he)⟩), fun s hs => (by
                      obtain ⟨E', r1, r2⟩ := hown.segs s hs
                      exact ⟨E', r1, fun e he => List.mem_append_right _ (r2 e he)⟩), ⟨E8, hV8, fun e he => List.mem_append_left _ he⟩⟩
                    exact WE.to (L' := E ++ ((E8 ++ K) ++ (.obj g24 (.map esU cU) :: .row g23 sizeL :: .row g22 wantL :: .row g4 (AtL.rcells { a with has := a.has + 2 ^ t, cad := ad, cc := cc, comms := cs }) :: .row g3 (fltL 0 0 ⟨#[]⟩) :: [.row g2 AtL.zero.rcells]))) (fun w hS => hS.permC (by intro c h1 h2 h3 e; simp only [h1, h3]; omega)) (WE.next ⟨k + toN (xs.drop k), { d with has := d.has + 2 ^ t, comms := cs }, fOf al 1 :: seen, { a with has := a.has + 2 ^ t, cad := ad, cc := cc, comms := cs }, esU, cU, _, E, E8 ++ K⟩ (by dsimp only; omega) (hfin _ _ _ (fun e he => List.mem_append_right _ he) hA8 rfl rfl rfl (.inl (by omega)) htk hdd) (.cons rfl (.cons rfl (.cons rfl (.cons rfl (.cons rfl (.cons rfl (.cons rfl (.cons rfl .nil)))))))) (.refl _))
                 ·
                  refine WL.nil ?_
                  refine WE.then_n ?_
                  refine WC.cond_f rfl ?_
                  refine WC.skip ?_
                  refine WE.block_n ?_
                  have htk : takeD d al vl = .inl ({ d with has := d.has + 2 ^ t }) := (by
                    have := takeD_ok (d := d) (d' := d) hnf hnz (by omega) (by rw [htn, show t = 6 by omega]; rfl) (by intro h; omega) (by intro h; omega) (by intro h; omega)
                    rw [this, htn])
                  have hdd : AtL.d { a with has := a.has + 2 ^ t } = { ({ d with has := d.has + 2 ^ t } : AtD) with others := sortO d.others } := (by
                    rw [show AtL.d { a with has := a.has + 2 ^ t } = { a.d with has := a.has + 2 ^ t } from rfl, hsame, hah])
                  exact WE.next ⟨k + toN (xs.drop k), { d with has := d.has + 2 ^ t }, fOf al 1 :: seen, { a with has := a.has + 2 ^ t }, esU, cU, _, E, K⟩ (by dsimp only; omega) (hfin _ _ _ (fun _ h => h) ⟨hown.path, hown.segs, hown.comms⟩ rfl rfl rfl (.inr ⟨rfl, rfl⟩) htk hdd) (.cons rfl (.cons rfl (.cons rfl (.cons rfl (.cons rfl (.cons rfl (.cons rfl (.cons rfl .nil)))))))) (.refl _)
  ·
   refine WL.nil ?_
   refine WE.then_n ?_
   refine WC.cond_f rfl ?_
   refine WC.exit ?_
   refine WE.then_exit ?_
   refine WE.then_exit ?_
   refine WE.block_hit ?_
   refine WE.then_n ?_
   refine WC.seq ?_
   refine WC.region ?_
   refine WL.val (v_loadN rfl rfl many_51 rfl allAt) (.none rfl) rfl rfl ?_
   refine WL.val (v_build rfl rfl zero_28 plc_28 rfl) (.none rfl) rfl rfl ?_
   refine WL.storeW rfl rfl rfl rfl many_51 rfl rfl (.none rfl) rfl ?_
   refine WL.storeW rfl rfl rfl rfl many_28 rfl rfl (.none rfl) rfl ?_
   refine WL.nil ?_
   refine WE.then_n ?_
   refine WC.ret ?_
   refine WE.ret2 (P := Tryd.prog) (.inl rfl) Tryd.results44 (resRow rfl many_51 rfl) (resRow rfl many_28 rfl) ?_
   have e0 : decD AtL.zero.d [] xs = .inl d := (by rw [hdec, List.drop_eq_nil_of_le (by omega), decD_nil])
   exact fun w' h => by
     unfold RDecP
     rw [e0]
     exact ⟨a, E ++ K, rfl, hsame, ⟨hown.mono fun e he => List.mem_append_right _ he, ⟨E, hoths, fun e he => List.mem_append_left _ he⟩, fun o' ho' => by
       obtain ⟨E', r1, r2⟩ := hvals o' ho'
       exact ⟨E', r1, fun e he => List.mem_append_right _ (r2 e he)⟩⟩, h.sub (List.Sublist.append (.refl _) (List.sublist_append_left _ _))⟩
end Go.Proofs.YtpjbofodllhjbaaDoor
