/- Texts joined: engine, contracts and laws, in the order in which they build. -/
import Derived.Test.YtpjbofodllhjbaaDoorBeBgpReads
/- The reference's attributes: carrefourref06.Decode, walked (the directives behind '@cut98' are printed by gen/rei.py). -/
namespace Go.Proofs.YtpjbofodllhjbaaDoor
open Go.RowKit

def RDecP (w w' : World) (xs : List Int) (e : Ending) : Prop :=
  match decD AtL.zero.d [] xs with
  | .inr (s, d) => e = .returned (.tuple #[.agg AtL.zero.rcells.toArray, .agg (fltL 3 s d).toArray]) ∧ Frm (fun _ => False) w w'
  | .inl d => ∃ a K, e = .returned (.tuple #[.agg a.rcells.toArray, .agg (fltL 0 0 ⟨#[]⟩).toArray]) ∧ a.d = { d with others := sortO d.others } ∧ AtAll K a ∧ St (fun _ => False) w w' K
theorem RDecP.no {w w' : World} {xs : List Int} {s : Int} {d : ByteArray} {L : List Ent} (h : decD AtL.zero.d [] xs = .inr (s, d)) (hS : St (fun _ => False) w w' L) : RDecP w w' xs (.returned (.tuple #[.agg AtL.zero.rcells.toArray, .agg (fltL 3 s d).toArray])) := by
  unfold RDecP
  rw [h]
  exact ⟨rfl, hS.frm⟩
theorem sortO_nil : sortO [] = [] := by unfold sortO; exact List.mergeSort_nil
theorem sorted_zero : AtL.zero.d = { AtL.zero.d with others := sortO AtL.zero.d.others } := by
  rw [show AtL.zero.d.others = [] from rfl, sortO_nil]; rfl
set_option maxHeartbeats 8000000 in
theorem RDec06_c (w : World) (b o cv : Nat) (xs : List Int) (hW : Win w b o cv xs) (hn : xs.length ≤ 90000) :
    Calls Tryd.prog 44 #[.slice (some ⟨b, o, none⟩) xs.length cv] w fun e w' => RDecP w w' xs e := by
  have hle := hW.le
  refine enter Tryd.func44 rfl Tryd.ntmps44 rfl (St.start (fun _ => False) w) ?_
  refine WC.seq ?_
  refine WC.region ?_
  refine WL.alloc rfl zero_51 (.none rfl) rfl rfl ?_
  intro g2 hg2
  refine WL.alloc rfl zero_28 (.none rfl) rfl rfl ?_
  intro g3 hg3
  refine WL.nil ?_
  refine WE.then_n ?_
  refine WC.seq ?_
  refine WC.region ?_
  refine WL.val (v_build rfl rfl zero_51 plc_51 rfl) (.none rfl) rfl rfl ?_
  refine WL.alloc rfl zero_51 (.none rfl) rfl rfl ?_
  intro g4 hg4
  refine WL.storeW rfl rfl rfl rfl many_51 rfl rfl (.none rfl) rfl ?_
  refine WL.nil ?_
  refine WE.then_n ?_
  refine WC.seq ?_
  refine WC.region ?_
  refine WL.buildSlice rfl rfl Tryd.underlying38 sz_3 zero_3 rfl (by decide) rfl (.none rfl) rfl rfl ?_
  intro g22 hg22
  refine WL.val (v_assign rfl rfl) (.none rfl) rfl rfl ?_
  refine WL.nil ?_
  refine WE.then_n ?_
  refine WC.seq ?_
  refine WC.region ?_
  refine WL.buildSlice rfl rfl Tryd.underlying38 sz_3 zero_3 rfl (by decide) rfl (.none rfl) rfl rfl ?_
  intro g23 hg23
  refine WL.val (v_assign rfl rfl) (.none rfl) rfl rfl ?_
  refine WL.nil ?_
  refine WE.then_n ?_
  refine WC.seq ?_
  refine WC.region ?_
  refine WL.makeMap rfl (.none rfl) rfl rfl ?_
  intro g24 hg24
  refine WL.as (L' := .obj g24 (.map #[] 0) :: .row g23 sizeL :: .row g22 wantL :: .row g4 AtL.zero.rcells :: .row g3 (fltL 0 0 ⟨#[]⟩) :: [.row g2 AtL.zero.rcells]) rfl ?_
  refine WL.val (v_assign rfl rfl) (.none rfl) rfl rfl ?_
  refine WL.nil ?_
  refine WE.then_n ?_
  refine WC.seq ?_
  refine WC.region ?_
  refine WL.val (v_assign rfl rfl) (.none rfl) rfl rfl ?_
  refine WL.nil ?_
  refine WE.then_n ?_
  refine WC.seq ?_
  refine WC.block ?_
  refine WC.loop (fun y : ReS => [(8, .int .i64 y.k), (7, .map (some g24)), (6, .slice (some ⟨g23, 0, none⟩) 9 9), (5, .slice (some ⟨g22, 0, none⟩) 9 9), (4, .pointer (some ⟨g4, 0, none⟩)), (3, .pointer (some ⟨g3, 0, none⟩)), (2, .pointer (some ⟨g2, 0, none⟩)), (0, .slice (some ⟨b, o, none⟩) xs.length cv)]) (fun y => y.E ++ (y.K ++ (.obj g24 (.map y.es y.mc) :: .row g23 sizeL :: .row g22 wantL :: .row g4 y.a.rcells :: .row g3 (fltL 0 0 ⟨#[]⟩) :: [.row g2 AtL.zero.rcells]))) (fun y => y.Good xs) (fun y => xs.length - y.k) ⟨0, AtL.zero.d, [], .zero, #[], 0, fun _ => none, [], []⟩ ⟨Nat.zero_le _, by dsimp only; rw [List.drop_zero], SeenI.zero, sorted_zero, ⟨⟨[], Vec.nil 2, fun _ h => by cases h⟩, (fun _ h => by cases h), ⟨[], Vec.nil 1, fun _ h => by cases h⟩⟩, Vec.nil 2, (fun _ h => by cases h), IMap.empty _, fun _ => ⟨rfl, rfl⟩, Nat.zero_le _, fun t => by simp⟩ (.cons rfl (.cons rfl (.cons rfl (.cons rfl (.cons rfl (.cons rfl (.cons rfl (.cons rfl .nil)))))))) (.refl _) ?_
  rintro ⟨k, d, seen, a, es, mc, mm, E, K⟩ hg
  obtain ⟨hk, hdec, hseen, hsame, hown, hoths, hvals, hmap, hcom, hol, hknown⟩ := hg
  dsimp only at hk hdec hseen hsame hown hoths hvals hmap hcom hol hknown
  dsimp only
  refine WC.seq ?_
  refine WC.seq ?_
  refine WC.region ?_
  refine WL.val (v_move rfl rfl) (.none rfl) rfl rfl ?_
  refine WL.val (v_move rfl rfl) (.none rfl) rfl rfl ?_
  refine WL.val (v_len_slice rfl rfl Tryd.underlying22) (.none rfl) rfl rfl ?_
  refine WL.test (v_lss rfl rfl rfl) (.none rfl) rfl rfl (fun h28 => ?_) (fun h28 => ?_)
  ·
   refine WL.nil ?_
   refine WE.then_n ?_
   refine WC.cond_t rfl ?_
   refine WC.skip ?_
   refine WE.then_n ?_
   refine WC.block ?_
   refine WC.seq ?_
   refine WC.region ?_
   refine WL.val (v_assign rfl rfl) (.none rfl) rfl rfl ?_
   refine WL.nil ?_
   refine WE.then_n ?_
   refine WC.cut (fun _ : Unit => [(9, .int .i64 (toN (xs.drop k))), (8, .int .i64 k), (7, .map (some g24)), (6, .slice (some ⟨g23, 0, none⟩) 9 9), (5, .slice (some ⟨g22, 0, none⟩) 9 9), (4, .pointer (some ⟨g4, 0, none⟩)), (3, .pointer (some ⟨g3, 0, none⟩)), (2, .pointer (some ⟨g2, 0, none⟩)), (0, .slice (some ⟨b, o, none⟩) xs.length cv)]) (fun _ => E ++ (K ++ (.obj g24 (.map es mc) :: .row g23 sizeL :: .row g22 wantL :: .row g4 a.rcells :: .row g3 (fltL 0 0 ⟨#[]⟩) :: [.row g2 AtL.zero.rcells]))) (fun _ => fromN (xs.drop k) ≤ (xs.drop k).length ∧ toN (xs.drop k) ≤ 70000) ?_ ?_
   ·
    refine WC.seq ?_
    refine WC.region ?_
    have hdl : (xs.drop k).length = xs.length - k := List.length_drop ..
    have hBy : Bys (xs.drop k) := fun y hy => hW.bys y (List.mem_of_mem_drop hy)
    have hb0 := fOf_b hBy 0
    have hb2 := fOf_b hBy 2
    refine WL.val (v_move rfl rfl) (.none rfl) rfl rfl ?_
    refine WL.val (v_move rfl rfl) (.none rfl) rfl rfl ?_
    refine WL.val (v_indexAddr (lo := k) rfl rfl rfl Tryd.underlying22 sz_5 (by omega) (by omega)) (.none rfl) rfl rfl ?_
    refine WL.val (v_load1 rfl rfl one_5 (cellOld (fun h => h) (hW.get (x := fOf (xs.drop k) 0) (by have := fOf_get (xs := xs.drop k) (i := 0) (by omega); rw [List.getElem?_drop] at this; exact this)))) (.none rfl) rfl rfl ?_
    refine WL.val (v_conv rfl rfl Tryd.underlying3 Tryd.underlying5 (w_i64 (by omega) (by omega))) (.none rfl) rfl rfl ?_
    refine WL.val (v_quo rfl rfl rfl (by omega) (by omega) (w_i64 (by omega) (by omega))) (.none rfl) rfl rfl ?_
    refine WL.val (v_rem rfl rfl rfl (by omega) (by omega)) (.none rfl) rfl rfl ?_
    refine WL.test (v_eql rfl rfl rfl) (.none rfl) rfl rfl (fun h36 => ?_) (fun h36 => ?_)
    ·
     refine WL.nil ?_
     refine WE.then_n ?_
     refine WC.cond_t rfl ?_
     refine WC.seq ?_
     refine WC.seq ?_
     refine WC.region ?_
     refine WL.val (v_move rfl rfl) (.none rfl) rfl rfl ?_
     refine WL.val (v_add rfl rfl rfl (w_i64 (by omega) (by omega))) (.none rfl) rfl rfl ?_
     refine WL.val (v_move rfl rfl) (.none rfl) rfl rfl ?_
     refine WL.val (v_len_slice rfl rfl Tryd.underlying22) (.none rfl) rfl rfl ?_
     refine WL.test (v_gtr rfl rfl rfl) (.none rfl) rfl rfl (fun h41 => ?_) (fun h41 => ?_)
     ·
      refine WL.nil ?_
      refine WE.then_n ?_
      refine WC.cond_t rfl ?_
      refine WC.seq ?_
      refine WC.region ?_
      refine WL.val (v_build rfl rfl zero_51 plc_51 rfl) (.none rfl) rfl rfl ?_
      refine WL.val (v_build rfl rfl zero_28 plc_28 rfl) (.none rfl) rfl rfl ?_
      refine WL.storeW rfl rfl rfl rfl many_51 rfl rfl (.none rfl) rfl ?_
      refine WL.storeW rfl rfl rfl rfl many_28 rfl rfl (.none rfl) rfl ?_
      refine WL.nil ?_
      refine WE.then_n ?_
      refine WC.ret ?_
      refine WE.then_ret ?_
      refine WE.then_ret ?_
      refine WE.block_ret ?_
      refine WE.then_ret ?_
      refine WE.block_ret ?_
      refine WE.then_ret ?_
      refine WE.ret2 (P := Tryd.prog) (.inl rfl) Tryd.results44 (resRow rfl many_51 rfl) (resRow rfl many_28 rfl) ?_
      have e0 : decD AtL.zero.d [] xs = .inr (1, ⟨#[]⟩) := (by rw [hdec]; exact decD_bad (by omega) (.inl (by rw [fromN_4 h36]; omega)))
      exact fun w' h => RDecP.no e0 h
     ·
      refine WL.nil ?_
      refine WE.then_n ?_
      refine WC.cond_f rfl ?_
      refine WC.skip ?_
      refine WE.then_n ?_
      refine WC.region ?_
      refine WL.val (v_move rfl rfl) (.none rfl) rfl rfl ?_
      refine WL.val (v_move rfl rfl) (.none rfl) rfl rfl ?_
      refine WL.val (v_add rfl rfl rfl (show _ = ((k + 2 : Nat) : Int) from (w_i64 (by omega) (by omega)).trans (by omega))) (.none rfl) rfl rfl ?_
      refine WL.val (v_move rfl rfl) (.none rfl) rfl rfl ?_
      refine WL.val (v_add rfl rfl rfl (show _ = ((k + 2 + 2 : Nat) : Int) from (w_i64 (by omega) (by omega)).trans (by omega))) (.none rfl) rfl rfl ?_
      have hrd := readI2 (v := (xs.drop (k + 2)).take 2) (fun y hy => hW.bys y (List.mem_of_mem_drop (List.mem_of_mem_take hy))) (by rw [List.length_take, List.length_drop]; omega)
      have hto := toN_4 h36
      rw [List.drop_drop] at hto
      refine WL.val ((v_slice_lh (lo := k + 2) (hi := k + 2 + 2) rfl rfl rfl rfl Tryd.underlying22 sz_5 rfl rfl (by omega) (by omega))) (.none rfl) rfl rfl ?_
      refine WL.call rfl rfl ck_65 (.none rfl) rfl rfl ?_
      intro w hS
      refine Calls.then ((hW.st hS).numd (k + 2) (by omega)) hS ?_
      refine WL.val (v_add rfl rfl rfl (w_i64 (by omega) (by omega))) (.none rfl) rfl rfl ?_
      refine WL.val (v_assign rfl rfl) (.none rfl) rfl rfl ?_
      refine WL.nil ?_
      exact WE.mid () ⟨by rw [fromN_4 h36]; omega, by rw [hto]; omega⟩ (.int rfl (by rw [hto]; omega) (.cons rfl (.cons rfl (.cons rfl (.cons rfl (.cons rfl (.cons rfl (.cons rfl (.cons rfl .nil))))))))) (.refl _)
    ·
     refine WL.nil ?_
     refine WE.then_n ?_
     refine WC.cond_f rfl ?_
     refine WC.seq ?_
     refine WC.seq ?_
     refine WC.region ?_
     refine WL.val (v_move rfl rfl) (.none rfl) rfl rfl ?_
     refine WL.val (v_add rfl rfl rfl (w_i64 (by omega) (by omega))) (.none rfl) rfl rfl ?_
     refine WL.val (v_move rfl rfl) (.none rfl) rfl rfl ?_
     refine WL.val (v_len_slice rfl rfl Tryd.underlying22) (.none rfl) rfl rfl ?_
     refine WL.test (v_gtr rfl rfl rfl) (.none rfl) rfl rfl (fun h56 => ?_) (fun h56 => ?_)
     ·
      refine WL.nil ?_
      refine WE.then_n ?_
      refine WC.cond_t rfl ?_
      refine WC.seq ?_
      refine WC.region ?_
      refine WL.val (v_build rfl rfl zero_51 plc_51 rfl) (.none rfl) rfl rfl ?_
      refine WL.val (v_build rfl rfl zero_28 plc_28 rfl) (.none rfl) rfl rfl ?_
      refine WL.storeW rfl rfl rfl rfl many_51 rfl rfl (.none rfl) rfl ?_
      refine WL.storeW rfl rfl rfl rfl many_28 rfl rfl (.none rfl) rfl ?_
      refine WL.nil ?_
      refine WE.then_n ?_
      refine WC.ret ?_
      refine WE.then_ret ?_
      refine WE.then_ret ?_
      refine WE.block_ret ?_
      refine WE.then_ret ?_
      refine WE.block_ret ?_
      refine WE.then_ret ?_
      refine WE.ret2 (P := Tryd.prog) (.inl rfl) Tryd.results44 (resRow rfl many_51 rfl) (resRow rfl many_28 rfl) ?_
      have e0 : decD AtL.zero.d [] xs = .inr (1, ⟨#[]⟩) := (by rw [hdec]; exact decD_bad (by omega) (.inl (by rw [fromN_3 h36]; omega)))
      exact fun w' h => RDecP.no e0 h
     ·
      refine WL.nil ?_
      refine WE.then_n ?_
      refine WC.cond_f rfl ?_
      refine WC.skip ?_
      refine WE.then_n ?_
      refine WC.region ?_
      refine WL.val (v_move rfl rfl) (.none rfl) rfl rfl ?_
      refine WL.val (v_move rfl rfl) (.none rfl) rfl rfl ?_
      refine WL.val (v_add rfl rfl rfl (w_i64 (by omega) (by omega))) (.none rfl) rfl rfl ?_
      have hto := toN_3 h36 (by omega) hb2.1
      refine WL.val (v_indexAddr (lo := k + 2) rfl rfl rfl Tryd.underlying22 sz_5 (by omega) (by omega)) (.none rfl) rfl rfl ?_
      refine WL.val (v_load1 rfl rfl one_5 (cellOld (fun h => h) (hW.get (x := fOf (xs.drop k) 2) (by have := fOf_get (xs := xs.drop k) (i := 2) (by omega); rw [List.getElem?_drop] at this; exact this)))) (.none rfl) rfl rfl ?_
      refine WL.val (v_conv rfl rfl Tryd.underlying3 Tryd.underlying5 (w_i64 (by omega) (by omega))) (.none rfl) rfl rfl ?_
      refine WL.val (v_add rfl rfl rfl (w_i64 (by omega) (by omega))) (.none rfl) rfl rfl ?_
      refine WL.val (v_assign rfl rfl) (.none rfl) rfl rfl ?_
      refine WL.nil ?_
      exact WE.mid () ⟨by rw [fromN_3 h36]; omega, by rw [hto]; omega⟩ (.int rfl (by rw [hto]; omega) (.cons rfl (.cons rfl (.cons rfl (.cons rfl (.cons rfl (.cons rfl (.cons rfl (.cons rfl .nil))))))))) (.refl _)
   ·
    rintro _ ⟨hfr, hto7⟩
    have hdl : (xs.drop k).length = xs.length - k := List.length_drop ..
    have hBy : Bys (xs.drop k) := fun y hy => hW.bys y (List.mem_of_mem_drop hy)
    have hf34 := fromN_b (xs.drop k)
    have htge := toN_ge (xs.drop k)
    obtain ⟨al, hal⟩ : ∃ al, al = (xs.drop k).take (toN (xs.drop k)) := ⟨_, rfl⟩
    have hWa : Win w b (sAddr o k cv 1) (cv - k) al := (by rw [hal]; exact (hW.drop k).take _)
    refine WC.seq ?_
    refine WC.seq ?_
    refine WC.region ?_
    refine WL.val (v_move rfl rfl) (.none rfl) rfl rfl ?_
    refine WL.val (v_move rfl rfl) (.none rfl) rfl rfl ?_
    refine WL.val (v_add rfl rfl rfl (w_i64 (by omega) (by omega))) (.none rfl) rfl rfl ?_
    refine WL.val (v_move rfl rfl) (.none rfl) rfl rfl ?_
    refine WL.val (v_len_slice rfl rfl Tryd.underlying22) (.none rfl) rfl rfl ?_
    refine WL.test (v_gtr rfl rfl rfl) (.none rfl) rfl rfl (fun h71 => ?_) (fun h71 => ?_)
    ·
     refine WL.nil ?_
     refine WE.then_n ?_
     refine WC.cond_t rfl ?_
     refine WC.seq ?_
     refine WC.region ?_
     refine WL.val (v_build rfl rfl zero_51 plc_51 rfl) (.none rfl) rfl rfl ?_
     refine WL.val (v_build rfl rfl zero_28 plc_28 rfl) (.none rfl) rfl rfl ?_
     refine WL.storeW rfl rfl rfl rfl many_51 rfl rfl (.none rfl) rfl ?_
     refine WL.storeW rfl rfl rfl rfl many_28 rfl rfl (.none rfl) rfl ?_
     refine WL.nil ?_
     refine WE.then_n ?_
     refine WC.ret ?_
     refine WE.then_ret ?_
     refine WE.block_ret ?_
     refine WE.then_ret ?_
     refine WE.block_ret ?_
     refine WE.then_ret ?_
     refine WE.ret2 (P := Tryd.prog) (.inl rfl) Tryd.results44 (resRow rfl many_51 rfl) (resRow rfl many_28 rfl) ?_
     have e0 : decD AtL.zero.d [] xs = .inr (1, ⟨#[]⟩) := (by rw [hdec]; exact decD_bad (by omega) (.inr (.inl (by omega))))
     exact fun w' h => RDecP.no e0 h
    ·
     refine WL.nil ?_
     refine WE.then_n ?_
     refine WC.cond_f rfl ?_
     refine WC.skip ?_
     refine WE.then_n ?_
     refine WC.seq ?_
     refine WC.region ?_
     refine WL.val (v_move rfl rfl) (.none rfl) rfl rfl ?_
     refine WL.val (v_move rfl rfl) (.none rfl) rfl rfl ?_
     refine WL.val (v_move rfl rfl) (.none rfl) rfl rfl ?_
     refine WL.val (v_move rfl rfl) (.none rfl) rfl rfl ?_
     refine WL.val (v_add rfl rfl rfl (show _ = ((k + toN (xs.drop k) : Nat) : Int) from (w_i64 (by omega) (by omega)).trans (by omega))) (.none rfl) rfl rfl ?_
     refine WL.val ((v_slice_lh (lo := k) (hi := k + toN (xs.drop k)) rfl rfl rfl rfl Tryd.underlying22 sz_5 rfl rfl (by omega) (by omega))) (.none rfl) rfl rfl ?_
     have hall : al.length = toN (xs.drop k) := (by rw [hal, List.length_take]; omega)
     have ha0 := fOf_b hWa.bys 0
     have ha1 := fOf_b hWa.bys 1
     have ef0 : fOf al 0 = fOf (xs.drop k) 0 := (by rw [hal]; unfold fOf; rw [List.getD_eq_getElem?_getD, List.getD_eq_getElem?_getD, List.getElem?_take, if_pos (by omega)])
     have ef1 : fOf al 1 = fOf (xs.drop k) 1 := (by rw [hal]; unfold fOf; rw [List.getD_eq_getElem?_getD, List.getD_eq_getElem?_getD, List.getElem?_take, if_pos (by omega)])
     rw [show k + toN (xs.drop k) - k = al.length by omega]
     refine WL.val (v_assign rfl rfl) (.none rfl) rfl rfl ?_
     refine WL.nil ?_
     refine WE.then_n ?_
     refine WC.seq ?_
     refine WC.region ?_
     refine WL.val (v_move rfl rfl) (.none rfl) rfl rfl ?_
     refine WL.val (v_indexAddr (lo := 0) rfl rfl rfl Tryd.underlying22 sz_5 rfl (by omega)) (.none rfl) rfl rfl ?_
     refine WL.val (v_load1 rfl rfl one_5 (cellOld (fun h => h) (hWa.get (fOf_get (by omega))))) (.none rfl) rfl rfl ?_
     refine WL.val (v_conv rfl rfl Tryd.underlying3 Tryd.underlying5 (w_i64 (by omega) (by omega))) (.none rfl) rfl rfl ?_
     refine WL.val (v_quo rfl rfl rfl (by omega) (by omega) (w_i64 (by omega) (by omega))) (.none rfl) rfl rfl ?_
     refine WL.val (v_mul rfl rfl rfl (w_i64 (by omega) (by omega))) (.none rfl) rfl rfl ?_
     refine WL.val (v_assign rfl rfl) (.none rfl) rfl rfl ?_
     refine WL.nil ?_
     refine WE.then_n ?_
     refine WC.seq ?_
     refine WC.region ?_
     refine WL.val (v_move rfl rfl) (.none rfl) rfl rfl ?_
     refine WL.val (v_indexAddr (lo := 1) rfl rfl rfl Tryd.underlying22 sz_5 rfl (by omega)) (.none rfl) rfl rfl ?_
     refine WL.val (v_load1 rfl rfl one_5 (cellOld (fun h => h) (hWa.get (fOf_get (by omega))))) (.none rfl) rfl rfl ?_
     refine WL.val (v_conv rfl rfl Tryd.underlying3 Tryd.underlying5 (w_i64 (by omega) (by omega))) (.none rfl) rfl rfl ?_
     refine WL.val (v_assign rfl rfl) (.none rfl) rfl rfl ?_
     refine WL.nil ?_
     refine WE.then_n ?_
     refine WC.seq ?_
     refine WC.region ?_
     refine WL.val (v_move rfl rfl) (.none rfl) rfl rfl ?_
     refine WL.val ((v_slice_lo (lo := 3) rfl rfl rfl Tryd.underlying22 sz_5 rfl (by omega))) (.none rfl) rfl rfl ?_
     refine WL.val (v_assign rfl rfl) (.none rfl) rfl rfl ?_
     refine WL.nil ?_
     refine WE.then_n ?_
     refine WC.cut (fun _ : Unit => [(13, .slice (some ⟨b, sAddr (sAddr o k cv 1) (fromN (xs.drop k)) (cv - k) 1, none⟩) (al.length - fromN (xs.drop k)) (cv - k - fromN (xs.drop k))), (12, .int .i64 (fOf al 1)), (11, .int .i64 (fOf al 0 / 32 * 32)), (10, .slice (some ⟨b, sAddr o k cv 1, none⟩) al.length (cv - k)), (9, .int .i64 (toN (xs.drop k))), (8, .int .i64 k), (7, .map (some g24)), (6, .slice (some ⟨g23, 0, none⟩) 9 9), (5, .slice (some ⟨g22, 0, none⟩) 9 9), (4, .pointer (some ⟨g4, 0, none⟩)), (3, .pointer (some ⟨g3, 0, none⟩)), (2, .pointer (some ⟨g2, 0, none⟩)), (0, .slice (some ⟨b, o, none⟩) xs.length cv)]) (fun _ => E ++ (K ++ (.obj g24 (.map es mc) :: .row g23 sizeL :: .row g22 wantL :: .row g4 a.rcells :: .row g3 (fltL 0 0 ⟨#[]⟩) :: [.row g2 AtL.zero.rcells]))) (fun _ => al.length = toN (xs.drop k) ∧ toN (xs.drop k) ≤ (xs.drop k).length ∧ fOf al 0 = fOf (xs.drop k) 0 ∧ fOf al 1 = fOf (xs.drop k) 1) ?_ ?_
     ·
      refine WC.seq ?_
      refine WC.region ?_
      refine WL.val (v_move rfl rfl) (.none rfl) rfl rfl ?_
      refine WL.val (v_indexAddr (lo := 0) rfl rfl rfl Tryd.underlying22 sz_5 rfl (by omega)) (.none rfl) rfl rfl ?_
      refine WL.val (v_load1 rfl rfl one_5 (cellOld (fun h => h) (hWa.get (fOf_get (by omega))))) (.none rfl) rfl rfl ?_
      refine WL.val (v_conv rfl rfl Tryd.underlying3 Tryd.underlying5 (w_i64 (by omega) (by omega))) (.none rfl) rfl rfl ?_
      refine WL.val (v_quo rfl rfl rfl (by omega) (by omega) (w_i64 (by omega) (by omega))) (.none rfl) rfl rfl ?_
      refine WL.val (v_rem rfl rfl rfl (by omega) (by omega)) (.none rfl) rfl rfl ?_
      refine WL.test (v_eql rfl rfl rfl) (.none rfl) rfl rfl (fun h98 => ?_) (fun h98 => ?_)
      ·
       refine WL.nil ?_
       refine WE.then_n ?_
       refine WC.cond_t rfl ?_
       refine WC.region ?_
       have hfr4 := fromN_4 (ys := xs.drop k) (by omega)
       refine WL.val (v_move rfl rfl) (.none rfl) rfl rfl ?_
       refine WL.val ((v_slice_lo (lo := 4) rfl rfl rfl Tryd.underlying22 sz_5 rfl (by omega))) (.none rfl) rfl rfl ?_
       refine WL.val (v_assign rfl rfl) (.none rfl) rfl rfl ?_
       refine WL.nil ?_
       exact WE.mid () ⟨hall, by omega, ef0, ef1⟩ (.eq rfl (by rw [hfr4]) (.cons rfl (.int rfl (by omega) (.cons rfl (.cons rfl (.cons rfl (.cons rfl (.cons rfl (.cons rfl (.cons rfl (.cons rfl (.cons rfl (.cons rfl .nil))))))))))))) (.refl _)
      ·
       refine WL.nil ?_
       refine WE.then_n ?_
       refine WC.cond_f rfl ?_
       refine WC.skip ?_
       exact WE.mid () ⟨hall, by omega, ef0, ef1⟩ (.eq rfl (by rw [fromN_3 (ys := xs.drop k) (by omega)]) (.cons rfl (.int rfl (by omega) (.cons rfl (.cons rfl (.cons rfl (.cons rfl (.cons rfl (.cons rfl (.cons rfl (.cons rfl (.cons rfl (.cons rfl .nil))))))))))))) (.refl _)
     ·
      rintro _ ⟨hall, htl, ef0, ef1⟩
      have hdl : (xs.drop k).length = xs.length - k := List.length_drop ..
      have hBy : Bys (xs.drop k) := fun y hy => hW.bys y (List.mem_of_mem_drop hy)
      have hf34 := fromN_b (xs.drop k)
      have htge := toN_ge (xs.drop k)
      have ha0 := fOf_b hWa.bys 0
      have ha1 := fOf_b hWa.bys 1
      obtain ⟨vl, hvl⟩ : ∃ vl, vl = al.drop (fromN (xs.drop k)) := ⟨_, rfl⟩
      have hWv : Win w b (sAddr (sAddr o k cv 1) (fromN (xs.drop k)) (cv - k) 1) (cv - k - fromN (xs.drop k)) vl := (by rw [hvl]; exact hWa.drop _)
      have hvlen : al.length - fromN (xs.drop k) = vl.length := (by rw [hvl, List.length_drop])
      rw [hvlen]
      generalize sAddr (sAddr o k cv 1) (fromN (xs.drop k)) (cv - k) 1 = vo at hWv ⊢
      generalize cv - k - fromN (xs.drop k) = vc at hWv ⊢
      have hvb := hWv.le
      have hah : a.has = d.has := (by have := congrArg AtD.has hsame; exact this)
      have hos : a.others.map othD = sortO d.others := (by have := congrArg AtD.others hsame; exact this)
      refine WC.seq ?_
      refine WC.region ?_
      refine WL.val (v_move rfl rfl) (.none rfl) rfl rfl ?_
      refine WL.val (v_move rfl rfl) (.none rfl) rfl rfl ?_
      refine WL.val (v_add rfl rfl rfl (show _ = ((k + toN (xs.drop k) : Nat) : Int) from (w_i64 (by omega) (by omega)).trans (by omega))) (.none rfl) rfl rfl ?_
      refine WL.val (v_assign rfl rfl) (.none rfl) rfl rfl ?_
      refine WL.nil ?_
      refine WE.then_n ?_
      refine WC.seq ?_
      refine WC.seq ?_
      refine WC.region ?_
      refine WL.val (v_move rfl rfl) (.none rfl) rfl rfl ?_
      refine WL.val (v_move rfl rfl) (.none rfl) rfl rfl ?_
      refine WL.val ((v_lookup (z := .bool false) rfl rfl rfl Tryd.underlying133 (keyI Tryd.underlying3) (KInt.mk _ _) (by kernel_rfl) (mapBlk (c := mc) g24 (List.mem_append_right _ (List.mem_append_right _ (.head _)))) hmap).eq (hknown _)) (.none rfl) rfl rfl ?_
      refine WL.nil ?_
      refine WE.then_n ?_
      refine WC.cond_d rfl (fun h106 => ?_) (fun h106 => ?_)
      ·
       refine WC.seq ?_
       refine WC.region ?_
       refine WL.val (v_build rfl rfl zero_51 plc_51 rfl) (.none rfl) rfl rfl ?_
       refine WL.val (v_build rfl rfl zero_28 plc_28 rfl) (.none rfl) rfl rfl ?_
       refine WL.storeW rfl rfl rfl rfl many_51 rfl rfl (.none rfl) rfl ?_
       refine WL.storeW rfl rfl rfl rfl many_28 rfl rfl (.none rfl) rfl ?_
       refine WL.nil ?_
       refine WE.then_n ?_
       refine WC.ret ?_
       refine WE.then_ret ?_
       refine WE.block_ret ?_
       refine WE.then_ret ?_
       refine WE.block_ret ?_
       refine WE.then_ret ?_
       refine WE.ret2 (P := Tryd.prog) (.inl rfl) Tryd.results44 (resRow rfl many_51 rfl) (resRow rfl many_28 rfl) ?_
       have e0 : decD AtL.zero.d [] xs = .inr (1, ⟨#[]⟩) := (by rw [hdec]; exact decD_bad (by omega) (.inr (.inr (by rw [← ef1]; exact h106))))
       exact fun w' h => RDecP.no e0 h
      ·
       refine WC.skip ?_
       refine WE.then_n ?_
       refine WC.seq ?_
       refine WC.region ?_
       refine WL.val (v_move rfl rfl) (.none rfl) rfl rfl ?_
       refine WL.val (v_move rfl rfl) (.none rfl) rfl rfl ?_
       refine WL.mapUpdate rfl rfl rfl rfl Tryd.underlying133 (keyI Tryd.underlying3) (KInt.mk _ _) (hmap) (.none rfl) rfl ?_
       intro esU cU hMU hsU
       have hnsx : ¬ ((xs.drop k).length < fromN (xs.drop k) ∨ (xs.drop k).length < toN (xs.drop k) ∨ fOf (xs.drop k) 1 ∈ seen) := (by rintro (h | h | h) <;> first | omega | exact h106 (by rw [ef1]; exact h))
       refine WL.nil ?_
       refine WE.then_n ?_
       refine WC.cut (fun z : Nat × Array MapEntry × Nat => [(13, .slice (some ⟨b, vo, none⟩) vl.length vc), (12, .int .i64 z.1), (11, .int .i64 (fOf al 0 / 32 * 32)), (10, .slice (some ⟨b, sAddr o k cv 1, none⟩) al.length (cv - k)), (8, .int .i64 ((k + toN (xs.drop k) : Nat) : Int)), (7, .map (some g24)), (6, .slice (some ⟨g23, 0, none⟩) 9 9), (5, .slice (some ⟨g22, 0, none⟩) 9 9), (4, .pointer (some ⟨g4, 0, none⟩)), (3, .pointer (some ⟨g3, 0, none⟩)), (2, .pointer (some ⟨g2, 0, none⟩)), (0, .slice (some ⟨b, o, none⟩) xs.length cv)]) (fun z => E ++ (K ++ (.obj g24 (.map z.2.1 z.2.2) :: .row g23 sizeL :: .row g22 wantL :: .row g4 (AtL.rcells a) :: .row g3 (fltL 0 0 ⟨#[]⟩) :: [.row g2 AtL.zero.rcells]))) (fun z => fOf al 1 = z.1 ∧ 1 ≤ z.1 ∧ z.1 ≤ 8 ∧ fOf al 1 ∉ seen ∧ IMap (KInt .i64) z.2.1 (updM mm (.int .i64 (fOf al 1)) (some (.bool true)))) ?_ ?_
       ·
        refine WC.seq ?_
        refine WC.region ?_
        refine WL.val (v_move rfl rfl) (.none rfl) rfl rfl ?_
        refine WL.call rfl rfl ck_66 (.none rfl) rfl rfl ?_
        intro w hS
        refine Calls.then (RIn_c _ (fOf al 1) 1 8) hS ?_
        generalize hq : decide (1 ≤ fOf al 1 ∧ fOf al 1 ≤ 8) = b112
        cases b112
        ·
         refine WL.val (v_not rfl rfl rfl) (.none rfl) rfl rfl ?_
         refine WL.nil ?_
         refine WE.then_n ?_
         refine WC.cond_t rfl ?_
         refine WC.seq ?_
         refine WC.seq ?_
         refine WC.region ?_
         refine WL.val (v_move rfl rfl) (.none rfl) rfl rfl ?_
         have hun : ¬ (1 ≤ fOf al 1 ∧ fOf al 1 ≤ 8) := of_decide_eq_false hq
         refine WL.test (v_lss rfl rfl rfl) (.none rfl) rfl rfl (fun h115 => ?_) (fun h115 => ?_)
         ·
          refine WL.nil ?_
          refine WE.then_n ?_
          refine WC.cond_t rfl ?_
          refine WC.seq ?_
          refine WC.orders mixed ?_
          refine WR.first (g := 4) [0, 1] (by kernel_rfl) (by kernel_rfl) ?_
          refine WP.val (v_build rfl rfl zero_51 plc_51 rfl) (.none rfl) rfl rfl ?_
          refine WP.val (v_move rfl rfl) (.none rfl) rfl rfl ?_
          refine WP.nil ?_
          refine WR.each (g := 3) [2, 4] (by kernel_rfl) (by decide) ?_
          refine ⟨?_, ?_⟩
          ·
           refine WL.val (v_convBS (fOf al) rfl rfl Tryd.underlying22 Tryd.underlying5 Tryd.underlying9 (fun w' hS' _ => ⟨b, sAddr o k cv 1, rfl, rd_u8s (hWa.st hS').at_⟩)) (.none rfl) rfl rfl ?_
           refine WL.nilR ?_
           refine WR.first (g := 2) [3] (by kernel_rfl) (by kernel_rfl) ?_
           refine WP.val (v_build rfl rfl zero_28 plc_28 rfl) (.none rfl) rfl rfl ?_
           refine WP.nil ?_
           refine WR.ones (g := 0) [4, 5] (by kernel_rfl) ?_
           refine WL.storeW rfl rfl rfl rfl many_51 rfl rfl (.none rfl) rfl ?_
           refine WL.storeW rfl rfl rfl rfl many_28 rfl rfl (.none rfl) rfl ?_
           refine WL.nilR ?_
           refine WR.done (by kernel_rfl) ?_
           refine WE.then_n ?_
           refine WC.ret ?_
           refine WE.then_ret ?_
           refine WE.then_ret ?_
           refine WE.block_ret ?_
           refine WE.then_ret ?_
           refine WE.block_ret ?_
           refine WE.then_ret ?_
           refine WE.ret2 (P := Tryd.prog) (.inl rfl) Tryd.results44 (resRow rfl many_51 rfl) (resRow rfl many_28 rfl) ?_
           have e0 : decD AtL.zero.d [] xs = .inr (2, strOf al) := (by rw [hdec]; exact decD_fail (by omega) hnsx (by rw [← hal, ← hvl]; rw [stepD_o hun]; unfold otherD; rw [if_pos (by omega)]))
           exact fun w' h => RDecP.no e0 h
          ·
           refine WL.storeW rfl rfl rfl rfl many_51 rfl rfl (.none rfl) rfl ?_
           refine WL.nilR ?_
           refine WR.read (g := 1) [2, 3] (by kernel_rfl) (by kernel_rfl) (by kernel_rfl) (by kernel_rfl) rfl ?_
           refine WQ.val (v_convBS (fOf al) rfl rfl Tryd.underlying22 Tryd.underlying5 Tryd.underlying9 (fun w' hS' _ => ⟨b, sAddr o k cv 1, rfl, rd_u8s (hWa.st hS').at_⟩)) (.none rfl) rfl rfl ?_
           refine WQ.val (v_build rfl rfl zero_28 plc_28 rfl) (.none rfl) rfl rfl ?_
           refine WQ.nilR ?_
           refine WR.ones (g := 0) [5] (by kernel_rfl) ?_
           refine WL.storeW rfl rfl rfl rfl many_28 rfl rfl (.none rfl) rfl ?_
           refine WL.nilR ?_
           refine WR.done (by kernel_rfl) ?_
           refine WE.then_n ?_
           refine WC.ret ?_
           refine WE.then_ret ?_
           refine WE.then_ret ?_
           refine WE.block_ret ?_
           refine WE.then_ret ?_
           refine WE.block_ret ?_
           refine WE.then_ret ?_
           refine WE.ret2 (P := Tryd.prog) (.inl rfl) Tryd.results44 (resRow rfl many_51 rfl) (resRow rfl many_28 rfl) ?_
           have e0 : decD AtL.zero.d [] xs = .inr (2, strOf al) := (by rw [hdec]; exact decD_fail (by omega) hnsx (by rw [← hal, ← hvl]; rw [stepD_o hun]; unfold otherD; rw [if_pos (by omega)]))
           exact fun w' h => RDecP.no e0 h
         ·
          refine WL.nil ?_
          refine WE.then_n ?_
          refine WC.cond_f rfl ?_
          refine WC.skip ?_
          refine WE.then_n ?_
          refine WC.seq ?_
          refine WC.seq ?_
          refine WC.region ?_
          refine WL.val (v_move rfl rfl) (.none rfl) rfl rfl ?_
          refine WL.test (v_geq rfl rfl rfl) (.none rfl) rfl rfl (fun h121 => ?_) (fun h121 => ?_)
          ·
           refine WL.val (v_move rfl rfl) (.none rfl) rfl rfl ?_
           refine WL.val (v_move rfl rfl) (.some rfl rfl rfl) rfl rfl ?_
           refine WL.test (v_neq rfl rfl rfl) (.some rfl rfl rfl) rfl rfl (fun h124 => ?_) (fun h124 => ?_)
           ·
            refine WL.val (v_pick_t rfl rfl rfl) (.none rfl) rfl rfl ?_
            refine WL.nil ?_
            refine WE.then_n ?_
            refine WC.cond_t rfl ?_
            refine WC.seq ?_
            refine WC.region ?_
            refine WL.val (v_assign rfl rfl) (.none rfl) rfl rfl ?_
            refine WL.nil ?_
            refine WE.then_n ?_
            refine WC.cut (fun j : Nat => [(14, .int .i64 j), (13, .slice (some ⟨b, vo, none⟩) vl.length vc), (12, .int .i64 (fOf al 1)), (8, .int .i64 ((k + toN (xs.drop k) : Nat) : Int)), (7, .map (some g24)), (6, .slice (some ⟨g23, 0, none⟩) 9 9), (5, .slice (some ⟨g22, 0, none⟩) 9 9), (4, .pointer (some ⟨g4, 0, none⟩)), (3, .pointer (some ⟨g3, 0, none⟩)), (2, .pointer (some ⟨g2, 0, none⟩)), (0, .slice (some ⟨b, o, none⟩) xs.length cv)]) (fun _ => E ++ (K ++ (.obj g24 (.map esU cU) :: .row g23 sizeL :: .row g22 wantL :: .row g4 (AtL.rcells a) :: .row g3 (fltL 0 0 ⟨#[]⟩) :: [.row g2 AtL.zero.rcells]))) (fun j => j ≤ a.others.length ∧ (∀ i x, i < j → a.others[i]? = some x → x.ty < fOf al 1) ∧ ∀ x, a.others[j]? = some x → fOf al 1 ≤ x.ty) ?_ ?_
            ·
             refine WC.block ?_
             refine WC.loop (fun j : Nat => [(14, .int .i64 j), (13, .slice (some ⟨b, vo, none⟩) vl.length vc), (12, .int .i64 (fOf al 1)), (8, .int .i64 ((k + toN (xs.drop k) : Nat) : Int)), (7, .map (some g24)), (6, .slice (some ⟨g23, 0, none⟩) 9 9), (5, .slice (some ⟨g22, 0, none⟩) 9 9), (4, .pointer (some ⟨g4, 0, none⟩)), (3, .pointer (some ⟨g3, 0, none⟩)), (2, .pointer (some ⟨g2, 0, none⟩)), (0, .slice (some ⟨b, o, none⟩) xs.length cv)]) (fun _ => E ++ (K ++ (.obj g24 (.map esU cU) :: .row g23 sizeL :: .row g22 wantL :: .row g4 (AtL.rcells a) :: .row g3 (fltL 0 0 ⟨#[]⟩) :: [.row g2 AtL.zero.rcells]))) (fun j => j ≤ a.others.length ∧ ∀ i x, i < j → a.others[i]? = some x → x.ty < fOf al 1) (fun j => a.others.length - j) 0 ⟨Nat.zero_le _, fun i x h => by omega⟩ (.cons rfl (.cons rfl (.cons rfl (.cons rfl (.cons rfl (.cons rfl (.cons rfl (.cons rfl (.cons rfl (.cons rfl (.cons rfl .nil))))))))))) (.refl _) ?_
             rintro j ⟨hj, hlt⟩
             refine WC.seq ?_
             refine WC.seq ?_
             refine WC.region ?_
             refine WL.val (v_move rfl rfl) (.none rfl) rfl rfl ?_
             refine WL.val (v_fieldAddr0 rfl rfl fld_51_9) (.none rfl) rfl rfl ?_
             refine WL.val (v_load1 rfl rfl one_49 (cellAt rfl)) (.none rfl) rfl rfl ?_
             refine WL.val (v_len_slice rfl rfl Tryd.underlying49) (.none rfl) rfl rfl ?_
             refine WL.test (v_lss rfl rfl rfl) (.none rfl) rfl rfl (fun h130 => ?_) (fun h130 => ?_)
             ·
              refine WL.val (v_move rfl rfl) (.none rfl) rfl rfl ?_
              refine WL.val (v_fieldAddr0 rfl rfl fld_51_9) (.some rfl rfl rfl) rfl rfl ?_
              refine WL.val (v_load1 rfl rfl one_49 (cellAt rfl)) (.some rfl rfl rfl) rfl rfl ?_
              refine WL.val (v_move rfl rfl) (.some rfl rfl rfl) rfl rfl ?_
              obtain ⟨oj, hoj⟩ : ∃ x, a.others[j]? = some x := ⟨a.others[j]'(by omega), List.getElem?_eq_getElem _⟩
              obtain ⟨ob, oo, eo, ro⟩ := hoths.src (L := E ++ (K ++ (.obj g24 (.map esU cU) :: .row g23 sizeL :: .row g22 wantL :: .row g4 (AtL.rcells a) :: .row g3 (fltL 0 0 ⟨#[]⟩) :: [.row g2 AtL.zero.rcells]))) (fun e he => List.mem_append_left _ he) (by rw [oths_len]; omega)
              have hcj : (othsL a.others)[j * 2]? = some (.int .i64 oj.ty) := (by
                have h2 := flatMap_seg (enc := OthL.cells) (s := 2) (fun _ => rfl) a.others j oj hoj
                have h3 := congrArg (fun l => l[0]?) h2
                simpa [List.getElem?_take, List.getElem?_drop, OthL.cells, othsL] using h3)
              refine WL.val ((v_indexAddr (b := ob) (off := oo) (lo := j) rfl (by show some (Value.slice a.oad _ _) = _; rw [eo]) rfl Tryd.underlying49 sz_135 rfl (by omega))) (.some rfl rfl rfl) rfl rfl ?_
              refine WL.val (v_fieldAddr rfl rfl fld_135_0) (.some rfl rfl rfl) rfl rfl ?_
              refine WL.val (v_load1 rfl rfl one_3 ((fun w hS => ro _ _ w hS (j * 2) _ hcj))) (.some rfl rfl rfl) rfl rfl ?_
              refine WL.val (v_move rfl rfl) (.some rfl rfl rfl) rfl rfl ?_
              refine WL.test (v_lss rfl rfl rfl) (.some rfl rfl rfl) rfl rfl (fun h139 => ?_) (fun h139 => ?_)
              ·
               refine WL.val (v_pick_t rfl rfl rfl) (.none rfl) rfl rfl ?_
               refine WL.nil ?_
               refine WE.then_n ?_
               refine WC.cond_t rfl ?_
               refine WC.skip ?_
               refine WE.then_n ?_
               refine WC.block ?_
               refine WC.region ?_
               refine WL.val (v_move rfl rfl) (.none rfl) rfl rfl ?_
               refine WL.val (v_add rfl rfl rfl (show _ = ((j + 1 : Nat) : Int) from (w_i64 (by omega) (by omega)).trans (by omega))) (.none rfl) rfl rfl ?_
               refine WL.val (v_assign rfl rfl) (.none rfl) rfl rfl ?_
               refine WL.nil ?_
               refine WE.block_n ?_
               exact WE.next (j + 1) (by omega) ⟨by omega, fun i x hi hx => by
               rcases Nat.lt_or_ge i j with h | h
               · exact hlt i x h hx
               · obtain rfl : i = j := by omega
                 rw [hoj] at hx; cases hx; exact h139⟩ (.cons rfl (.cons rfl (.cons rfl (.cons rfl (.cons rfl (.cons rfl (.cons rfl (.cons rfl (.cons rfl (.cons rfl (.cons rfl .nil))))))))))) (.refl _)
              ·
               refine WL.val (v_pick_t rfl rfl rfl) (.none rfl) rfl rfl ?_
               refine WL.nil ?_
               refine WE.then_n ?_
               refine WC.cond_f rfl ?_
               refine WC.exit ?_
               refine WE.then_exit ?_
               refine WE.then_exit ?_
               refine WE.block_hit ?_
               exact WE.mid j ⟨hj, hlt, fun x hx => by rw [hoj] at hx; cases hx; omega⟩ (.cons rfl (.cons rfl (.cons rfl (.cons rfl (.cons rfl (.cons rfl (.cons rfl (.cons rfl (.cons rfl (.cons rfl (.cons rfl .nil))))))))))) (.refl _)
             ·
              refine WL.val (v_move rfl rfl) (.none rfl) rfl rfl ?_
              refine WL.skip rfl rfl rfl rfl rfl rfl ?_
              refine WL.skip rfl rfl rfl rfl rfl rfl ?_
              refine WL.skip rfl rfl rfl rfl rfl rfl ?_
              refine WL.skip rfl rfl rfl rfl rfl rfl ?_
              refine WL.skip rfl rfl rfl rfl rfl rfl ?_
              refine WL.skip rfl rfl rfl rfl rfl rfl ?_
              refine WL.skip rfl rfl rfl rfl rfl rfl ?_
              refine WL.skip rfl rfl rfl rfl rfl rfl ?_
              refine WL.val (v_pick_f rfl rfl rfl) (.none rfl) rfl rfl ?_
              refine WL.nil ?_
              refine WE.then_n ?_
              refine WC.cond_f rfl ?_
              refine WC.exit ?_
              refine WE.then_exit ?_
              refine WE.then_exit ?_
              refine WE.block_hit ?_
              exact WE.mid j ⟨hj, hlt, fun x hx => by have := (List.getElem?_eq_some_iff.1 hx).1; omega⟩ (.cons rfl (.cons rfl (.cons rfl (.cons rfl (.cons rfl (.cons rfl (.cons rfl (.cons rfl (.cons rfl (.cons rfl (.cons rfl .nil))))))))))) (.refl _)
            ·
             rintro j ⟨hj, hlt, hge⟩
             have hvl2 := hoths.len
             have hjt : (a.others.take j).length = j := (by rw [List.length_take]; omega)
             have hjd : (a.others.drop j).length = a.others.length - j := List.length_drop ..
             have hsp : othsL a.others = othsL (a.others.take j) ++ othsL (a.others.drop j) := (by rw [← othsL_app, List.take_append_drop])
             refine WC.seq ?_
             refine WC.region ?_
             refine WL.buildSlice rfl rfl Tryd.underlying49 sz_135 zero_135 rfl (by decide) rfl (.none rfl) rfl rfl ?_
             intro g143 hg143
             refine WL.val (v_fieldAddr0 rfl rfl fld_51_9) (.none rfl) rfl rfl ?_
             refine WL.val (v_load1 rfl rfl one_49 (cellAt rfl)) (.none rfl) rfl rfl ?_
             refine WL.val (v_move rfl rfl) (.none rfl) rfl rfl ?_
             refine WL.val ((v_slice_hi (hi := j) rfl rfl rfl Tryd.underlying49 sz_135 rfl (by omega))) (.none rfl) rfl rfl ?_
             refine WL.appendL rfl rfl rfl Tryd.underlying49 Tryd.underlying49 sz_135 by_135 zero_135 rfl rfl (E := [.row g143 []]) (Vec.row (k := 0) (s := 2) (c := 0) rfl rfl (by omega)) (new := othsL (a.others.take j)) (fun h => (hoths.src (L := .row g143 [] :: (E ++ (K ++ (.obj g24 (.map esU cU) :: .row g23 sizeL :: .row g22 wantL :: .row g4 (AtL.rcells a) :: .row g3 (fltL 0 0 ⟨#[]⟩) :: [.row g2 AtL.zero.rcells])))) (fun e he => List.mem_cons_of_mem _ (List.mem_append_left _ he)) (by rw [oths_len]; omega)).elim fun ob h1 => h1.elim fun oo h2 => ⟨ob, oo, h2.1, fun w hS => rangeL (ys := othsL (a.others.drop j)) (by rw [← hsp]; exact h2.2 _ _ w hS)⟩) (by rw [oths_len, hjt]) (oths_one _) (by omega) (.none rfl) rfl rfl ?_
             intro ad148 c148 E148 hV148 hr148
             rw [Nat.zero_add] at hV148 ⊢
             rw [show List.take (0 * 2) ([] : List Value) = [] from rfl, List.nil_append] at hV148
             refine WL.val (v_assign rfl rfl) (.none rfl) rfl rfl ?_
             refine WL.nil ?_
             refine WE.then_n ?_
             refine WC.seq ?_
             refine WC.region ?_
             refine WL.val (v_move rfl rfl) (.none rfl) rfl rfl ?_
             refine WL.val (v_move rfl rfl) (.none rfl) rfl rfl ?_
             refine WL.buildSlice rfl rfl Tryd.underlying22 sz_5 zero_5 rfl (by decide) rfl (.none rfl) rfl rfl ?_
             intro g151 hg151
             refine WL.val (v_move rfl rfl) (.none rfl) rfl rfl ?_
             refine WL.appendL rfl rfl rfl Tryd.underlying22 Tryd.underlying22 sz_5 by_5 zero_5 rfl rfl (E := [.row g151 []]) (Vec.row (k := 0) (s := 1) (c := 0) rfl rfl (by omega)) (new := u8s vl) (fun h => ⟨b, vo, rfl, fun w hS' => hS'.rng (fun _ h => h) _ _ _ hWv.at_⟩) (by rw [u8s_len]; omega) (u8s_one _) (by omega) (.none rfl) rfl rfl ?_
             intro ad153 c153 E153 hV153 hr153
             rw [Nat.zero_add] at hV153 ⊢
             rw [show List.take (0 * 1) ([] : List Value) = [] from rfl, List.nil_append] at hV153
             refine WL.val (v_build rfl rfl zero_135 plc_135 rfl) (.none rfl) rfl rfl ?_
             refine WL.buildSlice rfl rfl Tryd.underlying49 sz_135 zero_135 rfl (by decide) rfl (.none rfl) rfl rfl ?_
             intro g155 hg155
             refine WL.as (L' := .row g155 (OthL.cells (⟨fOf al 1, ad153, c153, vl⟩ : OthL)) :: (E153 ++ (E148 ++ (E ++ (K ++ (.obj g24 (.map esU cU) :: .row g23 sizeL :: .row g22 wantL :: .row g4 (AtL.rcells a) :: .row g3 (fltL 0 0 ⟨#[]⟩) :: [.row g2 AtL.zero.rcells])))))) rfl ?_
             refine WL.to (L' := E148 ++ (.row g155 (OthL.cells (⟨fOf al 1, ad153, c153, vl⟩ : OthL)) :: (E153 ++ (E ++ (K ++ (.obj g24 (.map esU cU) :: .row g23 sizeL :: .row g22 wantL :: .row g4 (AtL.rcells a) :: .row g3 (fltL 0 0 ⟨#[]⟩) :: [.row g2 AtL.zero.rcells])))))) (fun w hS => by
               have := St.front (R := E148) (L := E ++ (K ++ (.obj g24 (.map esU cU) :: .row g23 sizeL :: .row g22 wantL :: .row g4 (AtL.rcells a) :: .row g3 (fltL 0 0 ⟨#[]⟩) :: [.row g2 AtL.zero.rcells]))) (.row g155 (OthL.cells (⟨fOf al 1, ad153, c153, vl⟩ : OthL)) :: E153) (by simpa only [List.cons_append] using hS)
               simpa only [List.cons_append] using this) ?_
             refine WL.appendL rfl rfl rfl Tryd.underlying49 Tryd.underlying49 sz_135 by_135 zero_135 rfl rfl hV148 (new := OthL.cells (⟨fOf al 1, ad153, c153, vl⟩ : OthL)) (fun _ => ⟨g155, 0, rfl, fun w hS => allAt (g := g155) w hS⟩) rfl rfl (by omega) (.none rfl) rfl rfl ?_
             intro ad156 c156 E156 hV156 hr156
             refine WL.val (v_assign rfl rfl) (.none rfl) rfl rfl ?_
             refine WL.nil ?_
             refine WE.then_n ?_
             refine WC.region ?_
             refine WL.val (v_move rfl rfl) (.none rfl) rfl rfl ?_
             refine WL.val (v_fieldAddr0 rfl rfl fld_51_9) (.none rfl) rfl rfl ?_
             refine WL.val (v_load1 rfl rfl one_49 (cellAt rfl)) (.none rfl) rfl rfl ?_
             refine WL.val (v_move rfl rfl) (.none rfl) rfl rfl ?_
             refine WL.val ((v_slice_loN (lo := j) rfl rfl rfl Tryd.underlying49 sz_135 rfl (by omega) hoths.ad)) (.none rfl) rfl rfl ?_
             refine WL.appendL rfl rfl rfl Tryd.underlying49 Tryd.underlying49 sz_135 by_135 zero_135 rfl rfl hV156 (new := othsL (a.others.drop j)) (fun h => (hoths.src (L := E156 ++ (.row g155 (OthL.cells (⟨fOf al 1, ad153, c153, vl⟩ : OthL)) :: (E153 ++ (E ++ (K ++ (.obj g24 (.map esU cU) :: .row g23 sizeL :: .row g22 wantL :: .row g4 (AtL.rcells a) :: .row g3 (fltL 0 0 ⟨#[]⟩) :: [.row g2 AtL.zero.rcells])))))) (fun e he => List.mem_append_right _ (List.mem_cons_of_mem _ (List.mem_append_right _ (List.mem_append_left _ he)))) (by rw [oths_len]; omega)).elim fun ob h1 => h1.elim fun oo h2 => ⟨ob, oo + j * 2, (by rw [h2.1]; show some (Addr.mk ob (sAddr oo j a.oc 2) none) = _; unfold sAddr; rw [if_neg (by omega)]), fun w hS => (by have := rangeR (xs := othsL (a.others.take j)) (ys := othsL (a.others.drop j)) (by rw [← hsp]; exact h2.2 _ _ w hS); rwa [oths_len, hjt] at this)⟩) (by rw [oths_len, hjd]) (oths_one _) (by omega) (.none rfl) rfl rfl ?_
             intro ad162 c162 E162 hV162 hr162
             have hnl : (a.others.take j ++ (⟨fOf al 1, ad153, c153, vl⟩ : OthL) :: a.others.drop j).length = j + 1 + (a.others.length - j) := (by rw [List.length_append, List.length_cons, hjt, hjd]; omega)
             rw [show othsL (a.others.take j) ++ OthL.cells (⟨fOf al 1, ad153, c153, vl⟩ : OthL) ++ othsL (a.others.drop j) = othsL (a.others.take j ++ (⟨fOf al 1, ad153, c153, vl⟩ : OthL) :: a.others.drop j) by rw [othsL_app, List.append_assoc]; rfl] at hV162
             rw [← hnl] at hV162 ⊢
             refine WL.val (v_fieldAddr0 rfl rfl fld_51_9) (.none rfl) rfl rfl ?_
             refine WL.store1 rfl rfl rfl rfl one_49 (Nat.le_of_ble_eq_true rfl) (.none rfl) rfl ?_
             refine WL.as (L' := E162 ++ (.row g155 (OthL.cells (⟨fOf al 1, ad153, c153, vl⟩ : OthL)) :: (E153 ++ (E ++ (K ++ (.obj g24 (.map esU cU) :: .row g23 sizeL :: .row g22 wantL :: .row g4 (AtL.rcells { a with oad := ad162, oc := c162, others := (a.others.take j ++ (⟨fOf al 1, ad153, c153, vl⟩ : OthL) :: a.others.drop j) }) :: .row g3 (fltL 0 0 ⟨#[]⟩) :: [.row g2 AtL.zero.rcells])))))) rfl ?_
             refine WL.nil ?_
             refine WE.then_n ?_
             refine WC.exit ?_
             refine WE.then_exit ?_
             refine WE.block_hit ?_
             have hoi : otherD d al vl = .inl { d with others := d.others ++ [(fOf al 1, vl)] } := (by unfold otherD; rw [if_neg (by omega), if_pos ⟨by omega, h124⟩])
             have hst := hseen.step hWa.bys h106 (show stepD d al vl = .inl _ by rw [stepD_o hun]; exact hoi)
             have hA' : AtOwn (E153 ++ K) ({ a with oad := ad162, oc := c162, others := (a.others.take j ++ (⟨fOf al 1, ad153, c153, vl⟩ : OthL) :: a.others.drop j) }) := (AtOwn.mono (a := a) hown fun e he => List.mem_append_right _ he : AtOwn (E153 ++ K) a).oth _ _ _
             have hO' : ∀ o' ∈ (a.others.take j ++ (⟨fOf al 1, ad153, c153, vl⟩ : OthL) :: a.others.drop j), OthOwn (E153 ++ K) o' := (by
               intro o' ho'
               rcases List.mem_append.1 ho' with ho' | ho'
               · obtain ⟨E', r1, r2⟩ := hvals o' (List.mem_of_mem_take ho')
                 exact ⟨E', r1, fun e he => List.mem_append_right _ (r2 e he)⟩
               · rcases List.mem_cons.1 ho' with rfl | ho'
                 · exact ⟨E153, hV153, fun e he => List.mem_append_left _ he⟩
                 · obtain ⟨E', r1, r2⟩ := hvals o' (List.mem_of_mem_drop ho')
                   exact ⟨E', r1, fun e he => List.mem_append_right _ (r2 e he)⟩)
             exact WE.to (L' := E162 ++ ((E153 ++ K) ++ (.obj g24 (.map esU cU) :: .row g23 sizeL :: .row g22 wantL :: .row g4 (AtL.rcells { a with oad := ad162, oc := c162, others := (a.others.take j ++ (⟨fOf al 1, ad153, c153, vl⟩ : OthL) :: a.others.drop j) }) :: .row g3 (fltL 0 0 ⟨#[]⟩) :: [.row g2 AtL.zero.rcells]))) (fun w hS => (hS.sub (L' := E162 ++ (E153 ++ (K ++ (.obj g24 (.map esU cU) :: .row g23 sizeL :: .row g22 wantL :: .row g4 (AtL.rcells { a with oad := ad162, oc := c162, others := (a.others.take j ++ (⟨fOf al 1, ad153, c153, vl⟩ : OthL) :: a.others.drop j) }) :: .row g3 (fltL 0 0 ⟨#[]⟩) :: [.row g2 AtL.zero.rcells])))) (List.Sublist.append_left (.cons _ (List.Sublist.append_left (List.sublist_append_right _ _) _)) _)).permC (by intro c h1 h2 h3 e; simp only [h1, h3]; omega)) (WE.next ⟨k + toN (xs.drop k), { d with others := d.others ++ [(fOf al 1, vl)] }, fOf al 1 :: seen, { a with oad := ad162, oc := c162, others := (a.others.take j ++ (⟨fOf al 1, ad153, c153, vl⟩ : OthL) :: a.others.drop j) }, esU, cU, _, E162, E153 ++ K⟩ (by dsimp only; omega) ⟨by dsimp only; omega, by dsimp only; rw [hdec, decD_go (by omega) hnsx (show stepD d _ _ = .inl _ by rw [← hal, ← hvl, stepD_o hun]; exact hoi), List.drop_drop, ← ef1], hst, by
               have h1 := sortO_ins (os := d.others) (t := fOf al 1) (v := vl) hst.nd j (fun i x hi hx => by
                 rw [← hos, List.getElem?_map] at hx
                 obtain ⟨y, hy, rfl⟩ := Option.map_eq_some_iff.1 hx
                 exact hlt i y hi hy) (fun x hx => by
                 rw [← hos, List.getElem?_map] at hx
                 obtain ⟨y, hy, rfl⟩ := Option.map_eq_some_iff.1 hx
                 exact hge y hy)
               show AtL.d { a with oad := ad162, oc := c162, others := (a.others.take j ++ (⟨fOf al 1, ad153, c153, vl⟩ : OthL) :: a.others.drop j) } = _
               rw [show AtL.d { a with oad := ad162, oc := c162, others := (a.others.take j ++ (⟨fOf al 1, ad153, c153, vl⟩ : OthL) :: a.others.drop j) } = { a.d with others := (a.others.take j ++ (⟨fOf al 1, ad153, c153, vl⟩ : OthL) :: a.others.drop j).map othD } from rfl, hsame]
               show AtD.mk _ _ _ _ _ _ _ _ _ _ = AtD.mk _ _ _ _ _ _ _ _ _ _
               congr 1
               rw [h1, ← hos, List.map_append, List.map_cons, List.map_take, List.map_drop]; rfl, hA', hV162, hO', hMU, fun h => hcom (fun h2 => h (List.mem_cons_of_mem _ h2)), by dsimp only; rw [hnl]; omega, known_add hknown⟩ (.cons rfl (.cons rfl (.cons rfl (.cons rfl (.cons rfl (.cons rfl (.cons rfl (.cons rfl .nil)))))))) (.refl _))
           ·
            refine WL.val (v_pick_t rfl rfl rfl) (.none rfl) rfl rfl ?_
            refine WL.nil ?_
            refine WE.then_n ?_
            refine WC.cond_f rfl ?_
            refine WC.skip ?_
            refine WE.then_n ?_
            refine WC.exit ?_
            refine WE.then_exit ?_
            refine WE.block_hit ?_
            exact WE.next ⟨k + toN (xs.drop k), d, fOf al 1 :: seen, a, esU, cU, _, E, K⟩ (by dsimp only; omega) ⟨by dsimp only; omega, by dsimp only; rw [hdec, decD_go (by omega) hnsx (show stepD d _ _ = .inl d by rw [← hal, ← hvl, stepD_o hun]; unfold otherD; rw [if_neg (by omega), if_neg (by omega)]), List.drop_drop, ← ef1], hseen.step hWa.bys h106 (show stepD d al vl = .inl d by rw [stepD_o hun]; unfold otherD; rw [if_neg (by omega), if_neg (by omega)]), hsame, hown, hoths, hvals, hMU, fun h => hcom (fun h2 => h (List.mem_cons_of_mem _ h2)), by dsimp only; omega, known_add hknown⟩ (.cons rfl (.cons rfl (.cons rfl (.cons rfl (.cons rfl (.cons rfl (.cons rfl (.cons rfl .nil)))))))) (.refl _)
          ·
           refine WL.val (v_move rfl rfl) (.none rfl) rfl rfl ?_
           refine WL.skip rfl rfl rfl rfl rfl rfl ?_
           refine WL.skip rfl rfl rfl rfl rfl rfl ?_
           refine WL.val (v_pick_f rfl rfl rfl) (.none rfl) rfl rfl ?_
           refine WL.nil ?_
           refine WE.then_n ?_
           refine WC.cond_f rfl ?_
           refine WC.skip ?_
           refine WE.then_n ?_
           refine WC.exit ?_
           refine WE.then_exit ?_
           refine WE.block_hit ?_
           exact WE.next ⟨k + toN (xs.drop k), d, fOf al 1 :: seen, a, esU, cU, _, E, K⟩ (by dsimp only; omega) ⟨by dsimp only; omega, by dsimp only; rw [hdec, decD_go (by omega) hnsx (show stepD d _ _ = .inl d by rw [← hal, ← hvl, stepD_o hun]; unfold otherD; rw [if_neg (by omega), if_neg (by omega)]), List.drop_drop, ← ef1], hseen.step hWa.bys h106 (show stepD d al vl = .inl d by rw [stepD_o hun]; unfold otherD; rw [if_neg (by omega), if_neg (by omega)]), hsame, hown, hoths, hvals, hMU, fun h => hcom (fun h2 => h (List.mem_cons_of_mem _ h2)), by dsimp only; omega, known_add hknown⟩ (.cons rfl (.cons rfl (.cons rfl (.cons rfl (.cons rfl (.cons rfl (.cons rfl (.cons rfl .nil)))))))) (.refl _)
        ·
         refine WL.val (v_not rfl rfl rfl) (.none rfl) rfl rfl ?_
         refine WL.nil ?_
         refine WE.then_n ?_
         refine WC.cond_f rfl ?_
         refine WC.skip ?_
         have hkn := of_decide_eq_true hq
         obtain ⟨t, ht⟩ := Int.eq_ofNat_of_zero_le ha1.1
         exact WE.mid (t, esU, cU) ⟨ht, by dsimp only; omega, by dsimp only; omega, h106, hMU⟩ (.cons rfl (.int rfl ht (.cons rfl (.cons rfl (.cons rfl (.cons rfl (.cons rfl (.cons rfl (.cons rfl (.cons rfl (.cons rfl (.cons rfl .nil)))))))))))) (.refl _)
       ·
        rintro ⟨t, esU, cU⟩ ⟨ht, ht1, ht8, hns6, hMU⟩
        dsimp only at ht ht1 ht8 hMU
        dsimp only
        have htn : (fOf al 1).toNat = t := (by omega)
        have hnsx : ¬ ((xs.drop k).length < fromN (xs.drop k) ∨ (xs.drop k).length < toN (xs.drop k) ∨ fOf (xs.drop k) 1 ∈ seen) := (by rintro (h | h | h) <;> first | omega | exact hns6 (by rw [ef1]; exact h))
        have hk18 : 1 ≤ fOf al 1 ∧ fOf al 1 ≤ 8 := (by omega)
        refine WC.cut (fun _ : Unit => [(13, .slice (some ⟨b, vo, none⟩) vl.length vc), (12, .int .i64 t), (11, .int .i64 (fOf al 0 / 32 * 32)), (10, .slice (some ⟨b, sAddr o k cv 1, none⟩) al.length (cv - k)), (8, .int .i64 ((k + toN (xs.drop k) : Nat) : Int)), (7, .map (some g24)), (6, .slice (some ⟨g23, 0, none⟩) 9 9), (5, .slice (some ⟨g22, 0, none⟩) 9 9), (4, .pointer (some ⟨g4, 0, none⟩)), (3, .pointer (some ⟨g3, 0, none⟩)), (2, .pointer (some ⟨g2, 0, none⟩)), (0, .slice (some ⟨b, o, none⟩) xs.length cv)]) (fun _ => E ++ (K ++ (.obj g24 (.map esU cU) :: .row g23 sizeL :: .row g22 wantL :: .row g4 (AtL.rcells a) :: .row g3 (fltL 0 0 ⟨#[]⟩) :: [.row g2 AtL.zero.rcells]))) (fun _ => ¬ badF al) ?_ ?_
        ·
         refine WC.seq ?_
         refine WC.region ?_
         refine WL.val (v_move rfl rfl) (.none rfl) rfl rfl ?_
         refine WL.val (v_quo rfl rfl rfl (by omega) (by omega) (w_i64 (by omega) (by omega))) (.none rfl) rfl rfl ?_
         refine WL.val (v_mul rfl rfl rfl (w_i64 (by omega) (by omega))) (.none rfl) rfl rfl ?_
         refine WL.val (v_move rfl rfl) (.none rfl) rfl rfl ?_
         refine WL.val (v_move rfl rfl) (.none rfl) rfl rfl ?_
         refine WL.val (v_indexAddr (lo := t) rfl rfl rfl Tryd.underlying38 sz_3 (by omega) (by omega)) (.none rfl) rfl rfl ?_
         refine WL.val (v_load1 rfl rfl one_3 (cellAt (g := g22) (k := 0 + t * 1) (cs := wantL) (v := .int .i64 (flagI t)) (by rw [show 0 + t * 1 = t by omega]; exact wantL_get ht1 ht8))) (.none rfl) rfl rfl ?_
         refine WL.test (v_neq rfl rfl rfl) (.none rfl) rfl rfl (fun h171 => ?_) (fun h171 => ?_)
         ·
          refine WL.val (v_move rfl rfl) (.none rfl) rfl rfl ?_
          refine WL.skip rfl rfl rfl rfl rfl rfl ?_
          refine WL.skip rfl rfl rfl rfl rfl rfl ?_
          refine WL.skip rfl rfl rfl rfl rfl rfl ?_
          refine WL.skip rfl rfl rfl rfl rfl rfl ?_
          refine WL.skip rfl rfl rfl rfl rfl rfl ?_
          refine WL.skip rfl rfl rfl rfl rfl rfl ?_
          refine WL.skip rfl rfl rfl rfl rfl rfl ?_
          refine WL.skip rfl rfl rfl rfl rfl rfl ?_
          refine WL.skip rfl rfl rfl rfl rfl rfl ?_
          refine WL.skip rfl rfl rfl rfl rfl rfl ?_
          refine WL.val (v_pick_t rfl rfl rfl) (.none rfl) rfl rfl ?_
          refine WL.nil ?_
          refine WE.then_n ?_
          refine WC.cond_t rfl ?_
          refine WC.seq ?_
          refine WC.orders mixed ?_
          refine WR.first (g := 4) [0, 1] (by kernel_rfl) (by kernel_rfl) ?_
          refine WP.val (v_build rfl rfl zero_51 plc_51 rfl) (.none rfl) rfl rfl ?_
          refine WP.val (v_move rfl rfl) (.none rfl) rfl rfl ?_
          refine WP.nil ?_
          refine WR.each (g := 3) [2, 4] (by kernel_rfl) (by decide) ?_
          refine ⟨?_, ?_⟩
          ·
           refine WL.val (v_convBS (fOf al) rfl rfl Tryd.underlying22 Tryd.underlying5 Tryd.underlying9 (fun w' hS' _ => ⟨b, sAddr o k cv 1, rfl, rd_u8s (hWa.st hS').at_⟩)) (.none rfl) rfl rfl ?_
           refine WL.nilR ?_
           refine WR.first (g := 2) [3] (by kernel_rfl) (by kernel_rfl) ?_
           refine WP.val (v_build rfl rfl zero_28 plc_28 rfl) (.none rfl) rfl rfl ?_
           refine WP.nil ?_
           refine WR.ones (g := 0) [4, 5] (by kernel_rfl) ?_
           refine WL.storeW rfl rfl rfl rfl many_51 rfl rfl (.none rfl) rfl ?_
           refine WL.storeW rfl rfl rfl rfl many_28 rfl rfl (.none rfl) rfl ?_
           refine WL.nilR ?_
           refine WR.done (by kernel_rfl) ?_
           refine WE.then_n ?_
           refine WC.ret ?_
           refine WE.then_ret ?_
           refine WE.block_ret ?_
           refine WE.then_ret ?_
           refine WE.block_ret ?_
           refine WE.then_ret ?_
           refine WE.ret2 (P := Tryd.prog) (.inl rfl) Tryd.results44 (resRow rfl many_51 rfl) (resRow rfl many_28 rfl) ?_
           have e0 : decD AtL.zero.d [] xs = .inr (4, strOf al) := (by rw [hdec]; exact decD_fail (by omega) hnsx (by rw [← hal, ← hvl]; rw [stepD_k hk18]; exact takeD_4 (by unfold badF; rw [htn]; omega)))
           exact fun w' h => RDecP.no e0 h
          ·
           refine WL.storeW rfl rfl rfl rfl many_51 rfl rfl (.none rfl) rfl ?_
           refine WL.nilR ?_
           refine WR.read (g := 1) [2, 3] (by kernel_rfl) (by kernel_rfl) (by kernel_rfl) (by kernel_rfl) rfl ?_
           refine WQ.val (v_convBS (fOf al) rfl rfl Tryd.underlying22 Tryd.underlying5 Tryd.underlying9 (fun w' hS' _ => ⟨b, sAddr o k cv 1, rfl, rd_u8s (hWa.st hS').at_⟩)) (.none rfl) rfl rfl ?_
           refine WQ.val (v_build rfl rfl zero_28 plc_28 rfl) (.none rfl) rfl rfl ?_
           refine WQ.nilR ?_
           refine WR.ones (g := 0) [5] (by kernel_rfl) ?_
           refine WL.storeW rfl rfl rfl rfl many_28 rfl rfl (.none rfl) rfl ?_
           refine WL.nilR ?_
           refine WR.done (by kernel_rfl) ?_
           refine WE.then_n ?_
           refine WC.ret ?_
           refine WE.then_ret ?_
           refine WE.block_ret ?_
           refine WE.then_ret ?_
           refine WE.block_ret ?_
           refine WE.then_ret ?_
           refine WE.ret2 (P := Tryd.prog) (.inl rfl) Tryd.results44 (resRow rfl many_51 rfl) (resRow rfl many_28 rfl) ?_
           have e0 : decD AtL.zero.d [] xs = .inr (4, strOf al) := (by rw [hdec]; exact decD_fail (by omega) hnsx (by rw [← hal, ← hvl]; rw [stepD_k hk18]; exact takeD_4 (by unfold badF; rw [htn]; omega)))
           exact fun w' h => RDecP.no e0 h
         ·
          refine WL.val (v_move rfl rfl) (.none rfl) rfl rfl ?_
          refine WL.val (v_move rfl rfl) (.some rfl rfl rfl) rfl rfl ?_
          refine WL.val (v_rem rfl rfl rfl (by omega) (by omega)) (.some rfl rfl rfl) rfl rfl ?_
          refine WL.test (v_neq rfl rfl rfl) (.some rfl rfl rfl) rfl rfl (fun h175 => ?_) (fun h175 => ?_)
          ·
           refine WL.val (v_move rfl rfl) (.some rfl rfl rfl) rfl rfl ?_
           refine WL.val (v_move rfl rfl) (.some rfl rfl rfl) rfl rfl ?_
           refine WL.val (v_move rfl rfl) (.some rfl rfl rfl) rfl rfl ?_
           refine WL.val (v_indexAddr (lo := t) rfl rfl rfl Tryd.underlying38 sz_3 (by omega) (by omega)) (.some rfl rfl rfl) rfl rfl ?_
           refine WL.val (v_load1 rfl rfl one_3 (cellAt (g := g22) (k := 0 + t * 1) (cs := wantL) (v := .int .i64 (flagI t)) (by rw [show 0 + t * 1 = t by omega]; exact wantL_get ht1 ht8))) (.some rfl rfl rfl) rfl rfl ?_
           refine WL.test (v_neq rfl rfl rfl) (.some rfl rfl rfl) rfl rfl (fun h181 => ?_) (fun h181 => ?_)
           ·
            refine WL.val (v_pick_t rfl rfl rfl) (.some rfl rfl rfl) rfl rfl ?_
            refine WL.val (v_pick_f rfl rfl rfl) (.none rfl) rfl rfl ?_
            refine WL.nil ?_
            refine WE.then_n ?_
            refine WC.cond_t rfl ?_
            refine WC.seq ?_
            refine WC.orders mixed ?_
            refine WR.first (g := 4) [0, 1] (by kernel_rfl) (by kernel_rfl) ?_
            refine WP.val (v_build rfl rfl zero_51 plc_51 rfl) (.none rfl) rfl rfl ?_
            refine WP.val (v_move rfl rfl) (.none rfl) rfl rfl ?_
            refine WP.nil ?_
            refine WR.each (g := 3) [2, 4] (by kernel_rfl) (by decide) ?_
            refine ⟨?_, ?_⟩
            ·
             refine WL.val (v_convBS (fOf al) rfl rfl Tryd.underlying22 Tryd.underlying5 Tryd.underlying9 (fun w' hS' _ => ⟨b, sAddr o k cv 1, rfl, rd_u8s (hWa.st hS').at_⟩)) (.none rfl) rfl rfl ?_
             refine WL.nilR ?_
             refine WR.first (g := 2) [3] (by kernel_rfl) (by kernel_rfl) ?_
             refine WP.val (v_build rfl rfl zero_28 plc_28 rfl) (.none rfl) rfl rfl ?_
             refine WP.nil ?_
             refine WR.ones (g := 0) [4, 5] (by kernel_rfl) ?_
             refine WL.storeW rfl rfl rfl rfl many_51 rfl rfl (.none rfl) rfl ?_
             refine WL.storeW rfl rfl rfl rfl many_28 rfl rfl (.none rfl) rfl ?_
             refine WL.nilR ?_
             refine WR.done (by kernel_rfl) ?_
             refine WE.then_n ?_
             refine WC.ret ?_
             refine WE.then_ret ?_
             refine WE.block_ret ?_
             refine WE.then_ret ?_
             refine WE.block_ret ?_
             refine WE.then_ret ?_
             refine WE.ret2 (P := Tryd.prog) (.inl rfl) Tryd.results44 (resRow rfl many_51 rfl) (resRow rfl many_28 rfl) ?_
             have e0 : decD AtL.zero.d [] xs = .inr (4, strOf al) := (by rw [hdec]; exact decD_fail (by omega) hnsx (by rw [← hal, ← hvl]; rw [stepD_k hk18]; exact takeD_4 (by unfold badF; rw [htn]; omega)))
             exact fun w' h => RDecP.no e0 h
            ·
             refine WL.storeW rfl rfl rfl rfl many_51 rfl rfl (.none rfl) rfl ?_
             refine WL.nilR ?_
             refine WR.read (g := 1) [2, 3] (by kernel_rfl) (by kernel_rfl) (by kernel_rfl) (by kernel_rfl) rfl ?_
             refine WQ.val (v_convBS (fOf al) rfl rfl Tryd.underlying22 Tryd.underlying5 Tryd.underlying9 (fun w' hS' _ => ⟨b, sAddr o k cv 1, rfl, rd_u8s (hWa.st hS').at_⟩)) (.none rfl) rfl rfl ?_
             refine WQ.val (v_build rfl rfl zero_28 plc_28 rfl) (.none rfl) rfl rfl ?_
             refine WQ.nilR ?_
             refine WR.ones (g := 0) [5] (by kernel_rfl) ?_
             refine WL.storeW rfl rfl rfl rfl many_28 rfl rfl (.none rfl) rfl ?_
             refine WL.nilR ?_
             refine WR.done (by kernel_rfl) ?_
             refine WE.then_n ?_
             refine WC.ret ?_
             refine WE.then_ret ?_
             refine WE.block_ret ?_
             refine WE.then_ret ?_
             refine WE.block_ret ?_
             refine WE.then_ret ?_
             refine WE.ret2 (P := Tryd.prog) (.inl rfl) Tryd.results44 (resRow rfl many_51 rfl) (resRow rfl many_28 rfl) ?_
             have e0 : decD AtL.zero.d [] xs = .inr (4, strOf al) := (by rw [hdec]; exact decD_fail (by omega) hnsx (by rw [← hal, ← hvl]; rw [stepD_k hk18]; exact takeD_4 (by unfold badF; rw [htn]; omega)))
             exact fun w' h => RDecP.no e0 h
           ·
            refine WL.val (v_pick_t rfl rfl rfl) (.some rfl rfl rfl) rfl rfl ?_
            refine WL.val (v_pick_f rfl rfl rfl) (.none rfl) rfl rfl ?_
            refine WL.nil ?_
            refine WE.then_n ?_
            refine WC.cond_f rfl ?_
            refine WC.skip ?_
            exact WE.mid () (by show ¬ badF al; unfold badF; rw [htn]; omega) (.cons rfl (.cons rfl (.cons rfl (.cons rfl (.cons rfl (.cons rfl (.cons rfl (.cons rfl (.cons rfl (.cons rfl (.cons rfl (.cons rfl .nil)))))))))))) (.refl _)
          ·
           refine WL.val (v_move rfl rfl) (.some rfl rfl rfl) rfl rfl ?_
           refine WL.skip rfl rfl rfl rfl rfl rfl ?_
           refine WL.skip rfl rfl rfl rfl rfl rfl ?_
           refine WL.skip rfl rfl rfl rfl rfl rfl ?_
           refine WL.skip rfl rfl rfl rfl rfl rfl ?_
           refine WL.skip rfl rfl rfl rfl rfl rfl ?_
           refine WL.val (v_pick_f rfl rfl rfl) (.some rfl rfl rfl) rfl rfl ?_
           refine WL.val (v_pick_f rfl rfl rfl) (.none rfl) rfl rfl ?_
           refine WL.nil ?_
           refine WE.then_n ?_
           refine WC.cond_f rfl ?_
           refine WC.skip ?_
           exact WE.mid () (by show ¬ badF al; unfold badF; rw [htn]; omega) (.cons rfl (.cons rfl (.cons rfl (.cons rfl (.cons rfl (.cons rfl (.cons rfl (.cons rfl (.cons rfl (.cons rfl (.cons rfl (.cons rfl .nil)))))))))))) (.refl _)
        ·
         rintro _ hnf
         refine WC.cut (fun _ : Unit => [(13, .slice (some ⟨b, vo, none⟩) vl.length vc), (12, .int .i64 t), (11, .int .i64 (fOf al 0 / 32 * 32)), (10, .slice (some ⟨b, sAddr o k cv 1, none⟩) al.length (cv - k)), (8, .int .i64 ((k + toN (xs.drop k) : Nat) : Int)), (7, .map (some g24)), (6, .slice (some ⟨g23, 0, none⟩) 9 9), (5, .slice (some ⟨g22, 0, none⟩) 9 9), (4, .pointer (some ⟨g4, 0, none⟩)), (3, .pointer (some ⟨g3, 0, none⟩)), (2, .pointer (some ⟨g2, 0, none⟩)), (0, .slice (some ⟨b, o, none⟩) xs.length cv)]) (fun _ => E ++ (K ++ (.obj g24 (.map esU cU) :: .row g23 sizeL :: .row g22 wantL :: .row g4 (AtL.rcells a) :: .row g3 (fltL 0 0 ⟨#[]⟩) :: [.row g2 AtL.zero.rcells]))) (fun _ => ¬ badZ al vl) ?_ ?_
         ·
          refine WC.seq ?_
          refine WC.region ?_
          refine WL.val (v_move rfl rfl) (.none rfl) rfl rfl ?_
          refine WL.val (v_move rfl rfl) (.none rfl) rfl rfl ?_
          refine WL.val (v_indexAddr (lo := t) rfl rfl rfl Tryd.underlying38 sz_3 (by omega) (by omega)) (.none rfl) rfl rfl ?_
          refine WL.val (v_load1 rfl rfl one_3 (cellAt (g := g23) (k := 0 + t * 1) (cs := sizeL) (v := .int .i64 (sizeI t)) (by rw [show 0 + t * 1 = t by omega]; exact sizeL_get ht1 ht8))) (.none rfl) rfl rfl ?_
          refine WL.test (v_geq rfl rfl rfl) (.none rfl) rfl rfl (fun h192 => ?_) (fun h192 => ?_)
          ·
           refine WL.val (v_move rfl rfl) (.none rfl) rfl rfl ?_
           refine WL.val (v_move rfl rfl) (.some rfl rfl rfl) rfl rfl ?_
           refine WL.val (v_len_slice rfl rfl Tryd.underlying22) (.some rfl rfl rfl) rfl rfl ?_
           refine WL.val (v_move rfl rfl) (.some rfl rfl rfl) rfl rfl ?_
           refine WL.val (v_move rfl rfl) (.some rfl rfl rfl) rfl rfl ?_
           refine WL.val (v_indexAddr (lo := t) rfl rfl rfl Tryd.underlying38 sz_3 (by omega) (by omega)) (.some rfl rfl rfl) rfl rfl ?_
           refine WL.val (v_load1 rfl rfl one_3 (cellAt (g := g23) (k := 0 + t * 1) (cs := sizeL) (v := .int .i64 (sizeI t)) (by rw [show 0 + t * 1 = t by omega]; exact sizeL_get ht1 ht8))) (.some rfl rfl rfl) rfl rfl ?_
           refine WL.test (v_neq rfl rfl rfl) (.some rfl rfl rfl) rfl rfl (fun h200 => ?_) (fun h200 => ?_)
           ·
            refine WL.val (v_pick_t rfl rfl rfl) (.none rfl) rfl rfl ?_
            refine WL.val (v_move rfl rfl) (.none rfl) rfl rfl ?_
            refine WL.skip rfl rfl rfl rfl rfl rfl ?_
            refine WL.skip rfl rfl rfl rfl rfl rfl ?_
            refine WL.skip rfl rfl rfl rfl rfl rfl ?_
            refine WL.skip rfl rfl rfl rfl rfl rfl ?_
            refine WL.skip rfl rfl rfl rfl rfl rfl ?_
            refine WL.skip rfl rfl rfl rfl rfl rfl ?_
            refine WL.skip rfl rfl rfl rfl rfl rfl ?_
            refine WL.skip rfl rfl rfl rfl rfl rfl ?_
            refine WL.val (v_pick_t rfl rfl rfl) (.none rfl) rfl rfl ?_
            refine WL.nil ?_
            refine WE.then_n ?_
            refine WC.cond_t rfl ?_
            refine WC.seq ?_
            refine WC.orders mixed ?_
            refine WR.first (g := 4) [0, 1] (by kernel_rfl) (by kernel_rfl) ?_
            refine WP.val (v_build rfl rfl zero_51 plc_51 rfl) (.none rfl) rfl rfl ?_
            refine WP.val (v_move rfl rfl) (.none rfl) rfl rfl ?_
            refine WP.nil ?_
            refine WR.each (g := 3) [2, 4] (by kernel_rfl) (by decide) ?_
            refine ⟨?_, ?_⟩
            ·
             refine WL.val (v_convBS (fOf al) rfl rfl Tryd.underlying22 Tryd.underlying5 Tryd.underlying9 (fun w' hS' _ => ⟨b, sAddr o k cv 1, rfl, rd_u8s (hWa.st hS').at_⟩)) (.none rfl) rfl rfl ?_
             refine WL.nilR ?_
             refine WR.first (g := 2) [3] (by kernel_rfl) (by kernel_rfl) ?_
             refine WP.val (v_build rfl rfl zero_28 plc_28 rfl) (.none rfl) rfl rfl ?_
             refine WP.nil ?_
             refine WR.ones (g := 0) [4, 5] (by kernel_rfl) ?_
             refine WL.storeW rfl rfl rfl rfl many_51 rfl rfl (.none rfl) rfl ?_
             refine WL.storeW rfl rfl rfl rfl many_28 rfl rfl (.none rfl) rfl ?_
             refine WL.nilR ?_
             refine WR.done (by kernel_rfl) ?_
             refine WE.then_n ?_
             refine WC.ret ?_
             refine WE.then_ret ?_
             refine WE.block_ret ?_
             refine WE.then_ret ?_
             refine WE.block_ret ?_
             refine WE.then_ret ?_
             refine WE.ret2 (P := Tryd.prog) (.inl rfl) Tryd.results44 (resRow rfl many_51 rfl) (resRow rfl many_28 rfl) ?_
             have e0 : decD AtL.zero.d [] xs = .inr (5, strOf al) := (by rw [hdec]; exact decD_fail (by omega) hnsx (by rw [← hal, ← hvl]; rw [stepD_k hk18]; exact takeD_5 hnf (by unfold badZ; rw [htn]; omega)))
             exact fun w' h => RDecP.no e0 h
            ·
             refine WL.storeW rfl rfl rfl rfl many_51 rfl rfl (.none rfl) rfl ?_
             refine WL.nilR ?_
             refine WR.read (g := 1) [2, 3] (by kernel_rfl) (by kernel_rfl) (by kernel_rfl) (by kernel_rfl) rfl ?_
             refine WQ.val (v_convBS (fOf al) rfl rfl Tryd.underlying22 Tryd.underlying5 Tryd.underlying9 (fun w' hS' _ => ⟨b, sAddr o k cv 1, rfl, rd_u8s (hWa.st hS').at_⟩)) (.none rfl) rfl rfl ?_
             refine WQ.val (v_build rfl rfl zero_28 plc_28 rfl) (.none rfl) rfl rfl ?_
             refine WQ.nilR ?_
             refine WR.ones (g := 0) [5] (by kernel_rfl) ?_
             refine WL.storeW rfl rfl rfl rfl many_28 rfl rfl (.none rfl) rfl ?_
             refine WL.nilR ?_
             refine WR.done (by kernel_rfl) ?_
             refine WE.then_n ?_
             refine WC.ret ?_
             refine WE.then_ret ?_
             refine WE.block_ret ?_
             refine WE.then_ret ?_
             refine WE.block_ret ?_
             refine WE.then_ret ?_
             refine WE.ret2 (P := Tryd.prog) (.inl rfl) Tryd.results44 (resRow rfl many_51 rfl) (resRow rfl many_28 rfl) ?_
             have e0 : decD AtL.zero.d [] xs = .inr (5, strOf al) := (by rw [hdec]; exact decD_fail (by omega) hnsx (by rw [← hal, ← hvl]; rw [stepD_k hk18]; exact takeD_5 hnf (by unfold badZ; rw [htn]; omega)))
             exact fun w' h => RDecP.no e0 h
           ·
            refine WL.val (v_pick_t rfl rfl rfl) (.none rfl) rfl rfl ?_
            refine WL.val (v_move rfl rfl) (.none rfl) rfl rfl ?_
            refine WL.val (v_move rfl rfl) (.some rfl rfl rfl) rfl rfl ?_
            refine WL.test (v_eql rfl rfl rfl) (.some rfl rfl rfl) rfl rfl (fun h204 => ?_) (fun h204 => ?_)
            ·
             refine WL.val (v_move rfl rfl) (.some rfl rfl rfl) rfl rfl ?_
             refine WL.val (v_move rfl rfl) (.some rfl rfl rfl) rfl rfl ?_
             refine WL.val (v_len_slice rfl rfl Tryd.underlying22) (.some rfl rfl rfl) rfl rfl ?_
             refine WL.val (v_rem rfl rfl rfl (by omega) (by omega)) (.some rfl rfl rfl) rfl rfl ?_
             refine WL.test (v_neq rfl rfl rfl) (.some rfl rfl rfl) rfl rfl (fun h209 => ?_) (fun h209 => ?_)
             ·
              refine WL.val (v_pick_t rfl rfl rfl) (.some rfl rfl rfl) rfl rfl ?_
              refine WL.val (v_pick_f rfl rfl rfl) (.none rfl) rfl rfl ?_
              refine WL.nil ?_
              refine WE.then_n ?_
              refine WC.cond_t rfl ?_
              refine WC.seq ?_
              refine WC.orders mixed ?_
              refine WR.first (g := 4) [0, 1] (by kernel_rfl) (by kernel_rfl) ?_
              refine WP.val (v_build rfl rfl zero_51 plc_51 rfl) (.none rfl) rfl rfl ?_
              refine WP.val (v_move rfl rfl) (.none rfl) rfl rfl ?_
              refine WP.nil ?_
              refine WR.each (g := 3) [2, 4] (by kernel_rfl) (by decide) ?_
              refine ⟨?_, ?_⟩
              ·
               refine WL.val (v_convBS (fOf al) rfl rfl Tryd.underlying22 Tryd.underlying5 Tryd.underlying9 (fun w' hS' _ => ⟨b, sAddr o k cv 1, rfl, rd_u8s (hWa.st hS').at_⟩)) (.none rfl) rfl rfl ?_
               refine WL.nilR ?_
               refine WR.first (g := 2) [3] (by kernel_rfl) (by kernel_rfl) ?_
               refine WP.val (v_build rfl rfl zero_28 plc_28 rfl) (.none rfl) rfl rfl ?_
               refine WP.nil ?_
               refine WR.ones (g := 0) [4, 5] (by kernel_rfl) ?_
               refine WL.storeW rfl rfl rfl rfl many_51 rfl rfl (.none rfl) rfl ?_
               refine WL.storeW rfl rfl rfl rfl many_28 rfl rfl (.none rfl) rfl ?_
               refine WL.nilR ?_
               refine WR.done (by kernel_rfl) ?_
               refine WE.then_n ?_
               refine WC.ret ?_
               refine WE.then_ret ?_
               refine WE.block_ret ?_
               refine WE.then_ret ?_
               refine WE.block_ret ?_
               refine WE.then_ret ?_
               refine WE.ret2 (P := Tryd.prog) (.inl rfl) Tryd.results44 (resRow rfl many_51 rfl) (resRow rfl many_28 rfl) ?_
               have e0 : decD AtL.zero.d [] xs = .inr (5, strOf al) := (by rw [hdec]; exact decD_fail (by omega) hnsx (by rw [← hal, ← hvl]; rw [stepD_k hk18]; exact takeD_5 hnf (by unfold badZ; rw [htn]; omega)))
               exact fun w' h => RDecP.no e0 h
              ·
               refine WL.storeW rfl rfl rfl rfl many_51 rfl rfl (.none rfl) rfl ?_
               refine WL.nilR ?_
               refine WR.read (g := 1) [2, 3] (by kernel_rfl) (by kernel_rfl) (by kernel_rfl) (by kernel_rfl) rfl ?_
               refine WQ.val (v_convBS (fOf al) rfl rfl Tryd.underlying22 Tryd.underlying5 Tryd.underlying9 (fun w' hS' _ => ⟨b, sAddr o k cv 1, rfl, rd_u8s (hWa.st hS').at_⟩)) (.none rfl) rfl rfl ?_
               refine WQ.val (v_build rfl rfl zero_28 plc_28 rfl) (.none rfl) rfl rfl ?_
               refine WQ.nilR ?_
               refine WR.ones (g := 0) [5] (by kernel_rfl) ?_
               refine WL.storeW rfl rfl rfl rfl many_28 rfl rfl (.none rfl) rfl ?_
               refine WL.nilR ?_
               refine WR.done (by kernel_rfl) ?_
               refine WE.then_n ?_
               refine WC.ret ?_
               refine WE.then_ret ?_
               refine WE.block_ret ?_
               refine WE.then_ret ?_
               refine WE.block_ret ?_
               refine WE.then_ret ?_
               refine WE.ret2 (P := Tryd.prog) (.inl rfl) Tryd.results44 (resRow rfl many_51 rfl) (resRow rfl many_28 rfl) ?_
               have e0 : decD AtL.zero.d [] xs = .inr (5, strOf al) := (by rw [hdec]; exact decD_fail (by omega) hnsx (by rw [← hal, ← hvl]; rw [stepD_k hk18]; exact takeD_5 hnf (by unfold badZ; rw [htn]; omega)))
               exact fun w' h => RDecP.no e0 h
             ·
              refine WL.val (v_pick_t rfl rfl rfl) (.some rfl rfl rfl) rfl rfl ?_
              refine WL.val (v_pick_f rfl rfl rfl) (.none rfl) rfl rfl ?_
              refine WL.nil ?_
              refine WE.then_n ?_
              refine WC.cond_f rfl ?_
              refine WC.skip ?_
              exact WE.mid () (by show ¬ badZ al vl; unfold badZ; rw [htn]; omega) (.cons rfl (.cons rfl (.cons rfl (.cons rfl (.cons rfl (.cons rfl (.cons rfl (.cons rfl (.cons rfl (.cons rfl (.cons rfl (.cons rfl .nil)))))))))))) (.refl _)
            ·
             refine WL.val (v_move rfl rfl) (.some rfl rfl rfl) rfl rfl ?_
             refine WL.skip rfl rfl rfl rfl rfl rfl ?_
             refine WL.skip rfl rfl rfl rfl rfl rfl ?_
             refine WL.skip rfl rfl rfl rfl rfl rfl ?_
             refine WL.skip rfl rfl rfl rfl rfl rfl ?_
             refine WL.val (v_pick_f rfl rfl rfl) (.some rfl rfl rfl) rfl rfl ?_
             refine WL.val (v_pick_f rfl rfl rfl) (.none rfl) rfl rfl ?_
             refine WL.nil ?_
             refine WE.then_n ?_
             refine WC.cond_f rfl ?_
             refine WC.skip ?_
             exact WE.mid () (by show ¬ badZ al vl; unfold badZ; rw [htn]; omega) (.cons rfl (.cons rfl (.cons rfl (.cons rfl (.cons rfl (.cons rfl (.cons rfl (.cons rfl (.cons rfl (.cons rfl (.cons rfl (.cons rfl .nil)))))))))))) (.refl _)
          ·
           refine WL.val (v_move rfl rfl) (.none rfl) rfl rfl ?_
           refine WL.skip rfl rfl rfl rfl rfl rfl ?_
           refine WL.skip rfl rfl rfl rfl rfl rfl ?_
           refine WL.skip rfl rfl rfl rfl rfl rfl ?_
           refine WL.skip rfl rfl rfl rfl rfl rfl ?_
           refine WL.skip rfl rfl rfl rfl rfl rfl ?_
           refine WL.skip rfl rfl rfl rfl rfl rfl ?_
           refine WL.skip rfl rfl rfl rfl rfl rfl ?_
           refine WL.val (v_pick_f rfl rfl rfl) (.none rfl) rfl rfl ?_
           refine WL.val (v_move rfl rfl) (.none rfl) rfl rfl ?_
           refine WL.val (v_move rfl rfl) (.some rfl rfl rfl) rfl rfl ?_
           refine WL.test (v_eql rfl rfl rfl) (.some rfl rfl rfl) rfl rfl (fun h204 => ?_) (fun h204 => ?_)
           ·
            refine WL.val (v_move rfl rfl) (.some rfl rfl rfl) rfl rfl ?_
            refine WL.val (v_move rfl rfl) (.some rfl rfl rfl) rfl rfl ?_
            refine WL.val (v_len_slice rfl rfl Tryd.underlying22) (.some rfl rfl rfl) rfl rfl ?_
            refine WL.val (v_rem rfl rfl rfl (by omega) (by omega)) (.some rfl rfl rfl) rfl rfl ?_
            refine WL.test (v_neq rfl rfl rfl) (.some rfl rfl rfl) rfl rfl (fun h209 => ?_) (fun h209 => ?_)
            ·
             refine WL.val (v_pick_t rfl rfl rfl) (.some rfl rfl rfl) rfl rfl ?_
             refine WL.val (v_pick_f rfl rfl rfl) (.none rfl) rfl rfl ?_
             refine WL.nil ?_
             refine WE.then_n ?_
             refine WC.cond_t rfl ?_
             refine WC.seq ?_
             refine WC.orders mixed ?_
             refine WR.first (g := 4) [0, 1] (by kernel_rfl) (by kernel_rfl) ?_
             refine WP.val (v_build rfl rfl zero_51 plc_51 rfl) (.none rfl) rfl rfl ?_
             refine WP.val (v_move rfl rfl) (.none rfl) rfl rfl ?_
             refine WP.nil ?_
             refine WR.each (g := 3) [2, 4] (by kernel_rfl) (by decide) ?_
             refine ⟨?_, ?_⟩
             ·
              refine WL.val (v_convBS (fOf al) rfl rfl Tryd.underlying22 Tryd.underlying5 Tryd.underlying9 (fun w' hS' _ => ⟨b, sAddr o k cv 1, rfl, rd_u8s (hWa.st hS').at_⟩)) (.none rfl) rfl rfl ?_
              refine WL.nilR ?_
              refine WR.first (g := 2) [3] (by kernel_rfl) (by kernel_rfl) ?_
              refine WP.val (v_build rfl rfl zero_28 plc_28 rfl) (.none rfl) rfl rfl ?_
              refine WP.nil ?_
              refine WR.ones (g := 0) [4, 5] (by kernel_rfl) ?_
              refine WL.storeW rfl rfl rfl rfl many_51 rfl rfl (.none rfl) rfl ?_
              refine WL.storeW rfl rfl rfl rfl many_28 rfl rfl (.none rfl) rfl ?_
              refine WL.nilR ?_
              refine WR.done (by kernel_rfl) ?_
              refine WE.then_n ?_
              refine WC.ret ?_
              refine WE.then_ret ?_
              refine WE.block_ret ?_
              refine WE.then_ret ?_
              refine WE.block_ret ?_
              refine WE.then_ret ?_
              refine WE.ret2 (P := Tryd.prog) (.inl rfl) Tryd.results44 (resRow rfl many_51 rfl) (resRow rfl many_28 rfl) ?_
              have e0 : decD AtL.zero.d [] xs = .inr (5, strOf al) := (by rw [hdec]; exact decD_fail (by omega) hnsx (by rw [← hal, ← hvl]; rw [stepD_k hk18]; exact takeD_5 hnf (by unfold badZ; rw [htn]; omega)))
              exact fun w' h => RDecP.no e0 h
             ·
              refine WL.storeW rfl rfl rfl rfl many_51 rfl rfl (.none rfl) rfl ?_
              refine WL.nilR ?_
              refine WR.read (g := 1) [2, 3] (by kernel_rfl) (by kernel_rfl) (by kernel_rfl) (by kernel_rfl) rfl ?_
              refine WQ.val (v_convBS (fOf al) rfl rfl Tryd.underlying22 Tryd.underlying5 Tryd.underlying9 (fun w' hS' _ => ⟨b, sAddr o k cv 1, rfl, rd_u8s (hWa.st hS').at_⟩)) (.none rfl) rfl rfl ?_
              refine WQ.val (v_build rfl rfl zero_28 plc_28 rfl) (.none rfl) rfl rfl ?_
              refine WQ.nilR ?_
              refine WR.ones (g := 0) [5] (by kernel_rfl) ?_
              refine WL.storeW rfl rfl rfl rfl many_28 rfl rfl (.none rfl) rfl ?_
              refine WL.nilR ?_
              refine WR.done (by kernel_rfl) ?_
              refine WE.then_n ?_
              refine WC.ret ?_
              refine WE.then_ret ?_
              refine WE.block_ret ?_
              refine WE.then_ret ?_
              refine WE.block_ret ?_
              refine WE.then_ret ?_
              refine WE.ret2 (P := Tryd.prog) (.inl rfl) Tryd.results44 (resRow rfl many_51 rfl) (resRow rfl many_28 rfl) ?_
              have e0 : decD AtL.zero.d [] xs = .inr (5, strOf al) := (by rw [hdec]; exact decD_fail (by omega) hnsx (by rw [← hal, ← hvl]; rw [stepD_k hk18]; exact takeD_5 hnf (by unfold badZ; rw [htn]; omega)))
              exact fun w' h => RDecP.no e0 h
            ·
             refine WL.val (v_pick_t rfl rfl rfl) (.some rfl rfl rfl) rfl rfl ?_
             refine WL.val (v_pick_f rfl rfl rfl) (.none rfl) rfl rfl ?_
             refine WL.nil ?_
             refine WE.then_n ?_
             refine WC.cond_f rfl ?_
             refine WC.skip ?_
             exact WE.mid () (by show ¬ badZ al vl; unfold badZ; rw [htn]; omega) (.cons rfl (.cons rfl (.cons rfl (.cons rfl (.cons rfl (.cons rfl (.cons rfl (.cons rfl (.cons rfl (.cons rfl (.cons rfl (.cons rfl .nil)))))))))))) (.refl _)
           ·
            refine WL.val (v_move rfl rfl) (.some rfl rfl rfl) rfl rfl ?_
            refine WL.skip rfl rfl rfl rfl rfl rfl ?_
            refine WL.skip rfl rfl rfl rfl rfl rfl ?_
            refine WL.skip rfl rfl rfl rfl rfl rfl ?_
            refine WL.skip rfl rfl rfl rfl rfl rfl ?_
            refine WL.val (v_pick_f rfl rfl rfl) (.some rfl rfl rfl) rfl rfl ?_
            refine WL.val (v_pick_f rfl rfl rfl) (.none rfl) rfl rfl ?_
            refine WL.nil ?_
            refine WE.then_n ?_
            refine WC.cond_f rfl ?_
            refine WC.skip ?_
            exact WE.mid () (by show ¬ badZ al vl; unfold badZ; rw [htn]; omega) (.cons rfl (.cons rfl (.cons rfl (.cons rfl (.cons rfl (.cons rfl (.cons rfl (.cons rfl (.cons rfl (.cons rfl (.cons rfl (.cons rfl .nil)))))))))))) (.refl _)
         ·
          rintro _ hnz
          obtain ⟨hz1, hz4, hz7, hz8⟩ := badZ_len hnz ht ht1 ht8
          have hp2 := pow2_9 t ht8
          have hs0 := hseen.h0
          have hs1 := hseen.h1
          have hfin : ∀ (a' : AtL) (K' : List Ent) (d1 : AtD), (∀ e ∈ K, e ∈ K') → AtOwn K' a' → a'.others = a.others → a'.oad = a.oad → a'.oc = a.oc → (t = 8 ∨ (a'.cad = a.cad ∧ a'.cc = a.cc)) → takeD d al vl = .inl d1 → a'.d = { d1 with others := sortO d1.others } →
              ReS.Good ⟨k + toN (xs.drop k), d1, fOf al 1 :: seen, a', esU, cU, updM mm (.int .i64 (fOf al 1)) (some (.bool true)), E, K'⟩ xs := (by
            intro a' K' d1 hm hA e1 e2 e3 e4 htk hd'
            refine ⟨by dsimp only; omega, by dsimp only; rw [hdec, decD_go (by omega) hnsx (show stepD d _ _ = .inl d1 by rw [← hal, ← hvl, stepD_k hk18]; exact htk), List.drop_drop, ← ef1], hseen.step hWa.bys hns6 (show stepD d al vl = .inl d1 by rw [stepD_k hk18]; exact htk), hd', hA, by dsimp only; rw [e1, e2, e3]; exact hoths, ?_, hMU, fun h => ?_, by dsimp only; rw [e1]; omega, known_add hknown⟩
            · dsimp only
              rw [e1]
              intro o' ho'
              obtain ⟨E', r1, r2⟩ := hvals o' ho'
              exact ⟨E', r1, fun e he => hm e (r2 e he)⟩
            · dsimp only at h ⊢
              rcases e4 with e4 | ⟨e4, e5⟩
              · exact absurd (List.mem_cons.2 (.inl (by omega))) h
              · rw [e4, e5]; exact hcom fun h2 => h (List.mem_cons_of_mem _ h2))
          refine WC.seq ?_
          refine WC.region ?_
          refine WL.val (v_assign rfl rfl) (.none rfl) rfl rfl ?_
          refine WL.nil ?_
          refine WE.then_n ?_
          refine WC.seq ?_
          refine WC.seq ?_
          refine WC.region ?_
          refine WL.val (v_assign rfl rfl) (.none rfl) rfl rfl ?_
          refine WL.nil ?_
          refine WE.then_n ?_
          refine WC.block ?_
          refine WC.loop (fun i : Nat => [(17, .int .i64 i), (16, .int .i64 (2 ^ i)), (13, .slice (some ⟨b, vo, none⟩) vl.length vc), (12, .int .i64 t), (10, .slice (some ⟨b, sAddr o k cv 1, none⟩) al.length (cv - k)), (8, .int .i64 ((k + toN (xs.drop k) : Nat) : Int)), (7, .map (some g24)), (6, .slice (some ⟨g23, 0, none⟩) 9 9), (5, .slice (some ⟨g22, 0, none⟩) 9 9), (4, .pointer (some ⟨g4, 0, none⟩)), (3, .pointer (some ⟨g3, 0, none⟩)), (2, .pointer (some ⟨g2, 0, none⟩)), (0, .slice (some ⟨b, o, none⟩) xs.length cv)]) (fun _ => E ++ (K ++ (.obj g24 (.map esU cU) :: .row g23 sizeL :: .row g22 wantL :: .row g4 (AtL.rcells a) :: .row g3 (fltL 0 0 ⟨#[]⟩) :: [.row g2 AtL.zero.rcells]))) (fun i => i ≤ t) (fun i => t - i) 0 (Nat.zero_le _) (.cons rfl (.int rfl (by decide) (.cons rfl (.cons rfl (.cons rfl (.cons rfl (.cons rfl (.cons rfl (.cons rfl (.cons rfl (.cons rfl (.cons rfl (.cons rfl .nil))))))))))))) (.refl _) ?_
          intro i hi
          refine WC.seq ?_
          refine WC.seq ?_
          refine WC.region ?_
          refine WL.val (v_move rfl rfl) (.none rfl) rfl rfl ?_
          refine WL.val (v_move rfl rfl) (.none rfl) rfl rfl ?_
          refine WL.test (v_lss rfl rfl rfl) (.none rfl) rfl rfl (fun h218 => ?_) (fun h218 => ?_)
          ·
           refine WL.nil ?_
           refine WE.then_n ?_
           refine WC.cond_t rfl ?_
           refine WC.skip ?_
           refine WE.then_n ?_
           refine WC.seq ?_
           refine WC.block ?_
           refine WC.region ?_
           refine WL.val (v_move rfl rfl) (.none rfl) rfl rfl ?_
           have hpi := pow2_9 i (by omega)
           refine WL.val (v_mul rfl rfl rfl (show _ = (2 : Int) ^ (i + 1) from (w_i64 (by omega) (by omega)).trans (by rw [Int.pow_succ]; omega))) (.none rfl) rfl rfl ?_
           refine WL.val (v_assign rfl rfl) (.none rfl) rfl rfl ?_
           refine WL.nil ?_
           refine WE.block_n ?_
           refine WE.then_n ?_
           refine WC.region ?_
           refine WL.val (v_move rfl rfl) (.none rfl) rfl rfl ?_
           refine WL.val (v_add rfl rfl rfl (w_i64 (by omega) (by omega))) (.none rfl) rfl rfl ?_
           refine WL.val (v_assign rfl rfl) (.none rfl) rfl rfl ?_
           refine WL.nil ?_
           exact WE.next (i + 1) (by omega) (by omega) (.int rfl (by omega) (.cons rfl (.cons rfl (.cons rfl (.cons rfl (.cons rfl (.cons rfl (.cons rfl (.cons rfl (.cons rfl (.cons rfl (.cons rfl (.cons rfl .nil))))))))))))) (.refl _)
          ·
           refine WL.nil ?_
           refine WE.then_n ?_
           refine WC.cond_f rfl ?_
           refine WC.exit ?_
           refine WE.then_exit ?_
           refine WE.then_exit ?_
           refine WE.block_hit ?_
           refine WE.then_n ?_
           refine WC.seq ?_
           refine WC.region ?_
           have hit : i = t := (by omega)
           rw [hit]
           refine WL.val (v_fieldAddr0 rfl rfl fld_51_0) (.none rfl) rfl rfl ?_
           refine WL.val (v_load1 rfl rfl one_3 (cellAt rfl)) (.none rfl) rfl rfl ?_
           refine WL.val (v_move rfl rfl) (.none rfl) rfl rfl ?_
           refine WL.val (v_add rfl rfl rfl (show _ = a.has + 2 ^ t from w_i64 (by omega) (by omega))) (.none rfl) rfl rfl ?_
           refine WL.val (v_fieldAddr0 rfl rfl fld_51_0) (.none rfl) rfl rfl ?_
           refine WL.store1 rfl rfl rfl rfl one_3 (Nat.le_of_ble_eq_true rfl) (.none rfl) rfl ?_
           refine WL.as (L' := E ++ (K ++ (.obj g24 (.map esU cU) :: .row g23 sizeL :: .row g22 wantL :: .row g4 (AtL.rcells { a with has := a.has + 2 ^ t }) :: .row g3 (fltL 0 0 ⟨#[]⟩) :: [.row g2 AtL.zero.rcells]))) rfl ?_
           refine WL.nil ?_
           refine WE.then_n ?_
           refine WC.seq ?_
           refine WC.seq ?_
           refine WC.region ?_
           refine WL.val (v_move rfl rfl) (.none rfl) rfl rfl ?_
           refine WL.test (v_eql rfl rfl rfl) (.none rfl) rfl rfl (fun h229 => ?_) (fun h229 => ?_)
           ·
            refine WL.nil ?_
            refine WE.then_n ?_
            refine WC.cond_t rfl ?_
            refine WC.seq ?_
            refine WC.region ?_
            refine WL.val (v_move rfl rfl) (.none rfl) rfl rfl ?_
            have er := readI_one (hz1 (by omega))
            have hl1 := hz1 (by omega)
            have hb1 := fOf_b hWv.bys 0
            refine WL.val (v_indexAddr (lo := 0) rfl rfl rfl Tryd.underlying22 sz_5 rfl (by omega)) (.none rfl) rfl rfl ?_
            refine WL.val (v_load1 rfl rfl one_5 (cellOld (fun h => h) (hWv.get (fOf_get (i := 0) (by omega))))) (.none rfl) rfl rfl ?_
            rw [er] at hb1 ⊢
            refine WL.val (v_conv rfl rfl Tryd.underlying3 Tryd.underlying5 (w_i64 (by omega) (by omega))) (.none rfl) rfl rfl ?_
            refine WL.val (v_fieldAddr0 rfl rfl fld_51_1) (.none rfl) rfl rfl ?_
            refine WL.store1 rfl rfl rfl rfl one_3 (Nat.le_of_ble_eq_true rfl) (.none rfl) rfl ?_
            refine WL.as (L' := E ++ (K ++ (.obj g24 (.map esU cU) :: .row g23 sizeL :: .row g22 wantL :: .row g4 (AtL.rcells { a with has := a.has + 2 ^ t, origin := readI vl }) :: .row g3 (fltL 0 0 ⟨#[]⟩) :: [.row g2 AtL.zero.rcells]))) rfl ?_
            refine WL.nil ?_
            refine WE.then_n ?_
            refine WC.seq ?_
            refine WC.region ?_
            refine WL.val (v_fieldAddr0 rfl rfl fld_51_1) (.none rfl) rfl rfl ?_
            refine WL.val (v_load1 rfl rfl one_3 (cellAt rfl)) (.none rfl) rfl rfl ?_
            refine WL.test (v_gtr rfl rfl rfl) (.none rfl) rfl rfl (fun h237 => ?_) (fun h237 => ?_)
            ·
             refine WL.nil ?_
             refine WE.then_n ?_
             refine WC.cond_t rfl ?_
             refine WC.seq ?_
             refine WC.orders mixed ?_
             refine WR.first (g := 4) [0, 1] (by kernel_rfl) (by kernel_rfl) ?_
             refine WP.val (v_build rfl rfl zero_51 plc_51 rfl) (.none rfl) rfl rfl ?_
             refine WP.val (v_move rfl rfl) (.none rfl) rfl rfl ?_
             refine WP.nil ?_
             refine WR.each (g := 3) [2, 4] (by kernel_rfl) (by decide) ?_
             refine ⟨?_, ?_⟩
             ·
              refine WL.val (v_convBS (fOf al) rfl rfl Tryd.underlying22 Tryd.underlying5 Tryd.underlying9 (fun w' hS' _ => ⟨b, sAddr o k cv 1, rfl, rd_u8s (hWa.st hS').at_⟩)) (.none rfl) rfl rfl ?_
              refine WL.nilR ?_
              refine WR.first (g := 2) [3] (by kernel_rfl) (by kernel_rfl) ?_
              refine WP.val (v_build rfl rfl zero_28 plc_28 rfl) (.none rfl) rfl rfl ?_
              refine WP.nil ?_
              refine WR.ones (g := 0) [4, 5] (by kernel_rfl) ?_
              refine WL.storeW rfl rfl rfl rfl many_51 rfl rfl (.none rfl) rfl ?_
              refine WL.storeW rfl rfl rfl rfl many_28 rfl rfl (.none rfl) rfl ?_
              refine WL.nilR ?_
              refine WR.done (by kernel_rfl) ?_
              refine WE.then_n ?_
              refine WC.ret ?_
              refine WE.then_ret ?_
              refine WE.block_ret ?_
              refine WE.then_ret ?_
              refine WE.block_ret ?_
              refine WE.then_ret ?_
              refine WE.ret2 (P := Tryd.prog) (.inl rfl) Tryd.results44 (resRow rfl many_51 rfl) (resRow rfl many_28 rfl) ?_
              have e0 : decD AtL.zero.d [] xs = .inr (6, strOf al) := (by rw [hdec]; exact decD_fail (by omega) hnsx (by rw [← hal, ← hvl]; rw [stepD_k hk18]; exact takeD_6 hnf hnz (by omega) (by have h7 : readI vl > 2 := h237; unfold wiB; exact decide_eq_false (by omega))))
              exact fun w' h => RDecP.no e0 h
             ·
              refine WL.storeW rfl rfl rfl rfl many_51 rfl rfl (.none rfl) rfl ?_
              refine WL.nilR ?_
              refine WR.read (g := 1) [2, 3] (by kernel_rfl) (by kernel_rfl) (by kernel_rfl) (by kernel_rfl) rfl ?_
              refine WQ.val (v_convBS (fOf al) rfl rfl Tryd.underlying22 Tryd.underlying5 Tryd.underlying9 (fun w' hS' _ => ⟨b, sAddr o k cv 1, rfl, rd_u8s (hWa.st hS').at_⟩)) (.none rfl) rfl rfl ?_
              refine WQ.val (v_build rfl rfl zero_28 plc_28 rfl) (.none rfl) rfl rfl ?_
              refine WQ.nilR ?_
              refine WR.ones (g := 0) [5] (by kernel_rfl) ?_
              refine WL.storeW rfl rfl rfl rfl many_28 rfl rfl (.none rfl) rfl ?_
              refine WL.nilR ?_
              refine WR.done (by kernel_rfl) ?_
              refine WE.then_n ?_
              refine WC.ret ?_
              refine WE.then_ret ?_
              refine WE.block_ret ?_
              refine WE.then_ret ?_
              refine WE.block_ret ?_
              refine WE.then_ret ?_
              refine WE.ret2 (P := Tryd.prog) (.inl rfl) Tryd.results44 (resRow rfl many_51 rfl) (resRow rfl many_28 rfl) ?_
              have e0 : decD AtL.zero.d [] xs = .inr (6, strOf al) := (by rw [hdec]; exact decD_fail (by omega) hnsx (by rw [← hal, ← hvl]; rw [stepD_k hk18]; exact takeD_6 hnf hnz (by omega) (by have h7 : readI vl > 2 := h237; unfold wiB; exact decide_eq_false (by omega))))
              exact fun w' h => RDecP.no e0 h
            ·
             refine WL.nil ?_
             refine WE.then_n ?_
             refine WC.cond_f rfl ?_
             refine WC.skip ?_
             refine WE.then_n ?_
             refine WC.seq ?_
             refine WC.seq ?_
             refine WC.region ?_
             refine WL.val (v_move rfl rfl) (.none rfl) rfl rfl ?_
             refine WL.val ((v_eql rfl rfl rfl).f (by omega)) (.none rfl) rfl rfl ?_
             refine WL.nil ?_
             refine WE.then_n ?_
             refine WC.cond_f rfl ?_
             refine WC.skip ?_
             refine WE.then_n ?_
             refine WC.seq ?_
             refine WC.seq ?_
             refine WC.region ?_
             refine WL.val (v_move rfl rfl) (.none rfl) rfl rfl ?_
             refine WL.val ((v_eql rfl rfl rfl).f (by omega)) (.none rfl) rfl rfl ?_
             refine WL.nil ?_
             refine WE.then_n ?_
             refine WC.cond_f rfl ?_
             refine WC.skip ?_
             refine WE.then_n ?_
             refine WC.seq ?_
             refine WC.seq ?_
             refine WC.region ?_
             refine WL.val (v_move rfl rfl) (.none rfl) rfl rfl ?_
             refine WL.val ((v_eql rfl rfl rfl).f (by omega)) (.none rfl) rfl rfl ?_
             refine WL.nil ?_
             refine WE.then_n ?_
             refine WC.cond_f rfl ?_
             refine WC.skip ?_
             refine WE.then_n ?_
             refine WC.seq ?_
             refine WC.seq ?_
             refine WC.region ?_
             refine WL.val (v_move rfl rfl) (.none rfl) rfl rfl ?_
             refine WL.val ((v_eql rfl rfl rfl).f (by omega)) (.none rfl) rfl rfl ?_
             refine WL.nil ?_
             refine WE.then_n ?_
             refine WC.cond_f rfl ?_
             refine WC.skip ?_
             refine WE.then_n ?_
             refine WC.seq ?_
             refine WC.seq ?_
             refine WC.region ?_
             refine WL.val (v_move rfl rfl) (.none rfl) rfl rfl ?_
             refine WL.val ((v_eql rfl rfl rfl).f (by omega)) (.none rfl) rfl rfl ?_
             refine WL.nil ?_
             refine WE.then_n ?_
             refine WC.cond_f rfl ?_
             refine WC.skip ?_
             refine WE.then_n ?_
             refine WC.seq ?_
             refine WC.region ?_
             refine WL.val (v_move rfl rfl) (.none rfl) rfl rfl ?_
             refine WL.val ((v_eql rfl rfl rfl).f (by omega)) (.none rfl) rfl rfl ?_
             refine WL.nil ?_
             refine WE.then_n ?_
             refine WC.cond_f rfl ?_
             refine WC.skip ?_
             refine WE.block_n ?_
             have htk : takeD d al vl = .inl ({ d with has := d.has + 2 ^ t, origin := readI vl }) := (by
               have := takeD_ok (d := d) (d' := { d with origin := readI vl }) hnf hnz (by omega) (by rw [htn, show t = 1 by omega]; rfl) (by intro h; omega) (by intro _; have h7 : ¬ readI vl > 2 := h237; show wiB (readI vl) 2 = true; unfold wiB; exact decide_eq_true (by omega)) (by intro h; omega)
               rw [this, htn])
             have hdd : AtL.d { a with has := a.has + 2 ^ t, origin := readI vl } = { ({ d with has := d.has + 2 ^ t, origin := readI vl } : AtD) with others := sortO d.others } := (by
               rw [show AtL.d { a with has := a.has + 2 ^ t, origin := readI vl } = { a.d with has := a.has + 2 ^ t, origin := readI vl } from rfl, hsame, hah])
             exact WE.next ⟨k + toN (xs.drop k), { d with has := d.has + 2 ^ t, origin := readI vl }, fOf al 1 :: seen, { a with has := a.has + 2 ^ t, origin := readI vl }, esU, cU, _, E, K⟩ (by dsimp only; omega) (hfin _ _ _ (fun _ h => h) ⟨hown.path, hown.segs, hown.comms⟩ rfl rfl rfl (.inr ⟨rfl, rfl⟩) htk hdd) (.cons rfl (.cons rfl (.cons rfl (.cons rfl (.cons rfl (.cons rfl (.cons rfl (.cons rfl .nil)))))))) (.refl _)
           ·
            refine WL.nil ?_
            refine WE.then_n ?_
            refine WC.cond_f rfl ?_
            refine WC.skip ?_
            refine WE.then_n ?_
            refine WC.seq ?_
            refine WC.seq ?_
            refine WC.region ?_
            refine WL.val (v_move rfl rfl) (.none rfl) rfl rfl ?_
            refine WL.test (v_eql rfl rfl rfl) (.none rfl) rfl rfl (fun h243 => ?_) (fun h243 => ?_)
            ·
             refine WL.nil ?_
             refine WE.then_n ?_
             refine WC.cond_t rfl ?_
             refine WC.seq ?_
             refine WC.region ?_
             refine WL.val (v_move rfl rfl) (.none rfl) rfl rfl ?_
             refine WL.call rfl rfl ck_67 (.none rfl) rfl rfl ?_
             intro w1 hS
             refine (RParts_u w1 b vo vc vl (hWv.st hS) (by omega)).mono ?_
             rintro e w' ⟨ss, ad2, c2, E2, K2, ok, rfl, hV2, hK2, hS2, hno, hyes⟩
             refine ⟨_, _, rfl, hS.join hS2, ?_⟩
             refine WL.val (v_move rfl rfl) (.none rfl) rfl rfl ?_
             refine WL.val (v_extract rfl rfl rfl) (.none rfl) rfl rfl ?_
             refine WL.val (v_extract rfl rfl rfl) (.none rfl) rfl rfl ?_
             cases ok
             ·
              refine WL.val (v_assign rfl rfl) (.none rfl) rfl rfl ?_
              refine WL.val (v_assign rfl rfl) (.none rfl) rfl rfl ?_
              refine WL.nil ?_
              refine WE.then_n ?_
              refine WC.seq ?_
              refine WC.seq ?_
              refine WC.region ?_
              refine WL.val (v_move rfl rfl) (.none rfl) rfl rfl ?_
              refine WL.val (v_not rfl rfl rfl) (.none rfl) rfl rfl ?_
              refine WL.nil ?_
              refine WE.then_n ?_
              refine WC.cond_t rfl ?_
              refine WC.seq ?_
              refine WC.region ?_
              refine WL.val (v_build rfl rfl zero_51 plc_51 rfl) (.none rfl) rfl rfl ?_
              refine WL.val (v_build rfl rfl zero_28 plc_28 rfl) (.none rfl) rfl rfl ?_
              refine WL.storeW rfl rfl rfl rfl many_51 rfl rfl (.none rfl) rfl ?_
              refine WL.storeW rfl rfl rfl rfl many_28 rfl rfl (.none rfl) rfl ?_
              refine WL.nil ?_
              refine WE.then_n ?_
              refine WC.ret ?_
              refine WE.then_ret ?_
              refine WE.then_ret ?_
              refine WE.block_ret ?_
              refine WE.then_ret ?_
              refine WE.block_ret ?_
              refine WE.then_ret ?_
              refine WE.ret2 (P := Tryd.prog) (.inl rfl) Tryd.results44 (resRow rfl many_51 rfl) (resRow rfl many_28 rfl) ?_
              have e0 : decD AtL.zero.d [] xs = .inr (11, ⟨#[]⟩) := (by rw [hdec]; exact decD_fail (by omega) hnsx (by rw [← hal, ← hvl]; rw [stepD_k hk18]; exact takeD_11 hnf hnz (by omega) (hno rfl)))
              exact fun w' h => RDecP.no e0 h
             ·
              refine WL.val (v_assign rfl rfl) (.none rfl) rfl rfl ?_
              refine WL.val (v_assign rfl rfl) (.none rfl) rfl rfl ?_
              refine WL.nil ?_
              refine WE.then_n ?_
              refine WC.seq ?_
              refine WC.seq ?_
              refine WC.region ?_
              refine WL.val (v_move rfl rfl) (.none rfl) rfl rfl ?_
              refine WL.val (v_not rfl rfl rfl) (.none rfl) rfl rfl ?_
              refine WL.nil ?_
              refine WE.then_n ?_
              refine WC.cond_f rfl ?_
              refine WC.skip ?_
              refine WE.then_n ?_
              refine WC.region ?_
              refine WL.val (v_move rfl rfl) (.none rfl) rfl rfl ?_
              refine WL.val (v_fieldAddr0 rfl rfl fld_51_2) (.none rfl) rfl rfl ?_
              refine WL.store1 rfl rfl rfl rfl one_48 (Nat.le_of_ble_eq_true rfl) (.none rfl) rfl ?_
              refine WL.as (L' := (E2 ++ K2) ++ (E ++ (K ++ (.obj g24 (.map esU cU) :: .row g23 sizeL :: .row g22 wantL :: .row g4 (AtL.rcells { a with has := a.has + 2 ^ t, pad := ad2, pc := c2, path := ss }) :: .row g3 (fltL 0 0 ⟨#[]⟩) :: [.row g2 AtL.zero.rcells])))) rfl ?_
              refine WL.to (L' := E ++ (((E2 ++ K2) ++ K) ++ (.obj g24 (.map esU cU) :: .row g23 sizeL :: .row g22 wantL :: .row g4 (AtL.rcells { a with has := a.has + 2 ^ t, pad := ad2, pc := c2, path := ss }) :: .row g3 (fltL 0 0 ⟨#[]⟩) :: [.row g2 AtL.zero.rcells]))) (fun w hS => hS.permC (by intro c h1 h2 h3 e; simp only [h1, h3]; omega)) ?_
              refine WL.nil ?_
              refine WE.then_n ?_
              refine WC.seq ?_
              refine WC.seq ?_
              refine WC.region ?_
              refine WL.val (v_move rfl rfl) (.none rfl) rfl rfl ?_
              refine WL.val ((v_eql rfl rfl rfl).f (by omega)) (.none rfl) rfl rfl ?_
              refine WL.nil ?_
              refine WE.then_n ?_
              refine WC.cond_f rfl ?_
              refine WC.skip ?_
              refine WE.then_n ?_
              refine WC.seq ?_
              refine WC.seq ?_
              refine WC.region ?_
              refine WL.val (v_move rfl rfl) (.none rfl) rfl rfl ?_
              refine WL.val ((v_eql rfl rfl rfl).f (by omega)) (.none rfl) rfl rfl ?_
              refine WL.nil ?_
              refine WE.then_n ?_
              refine WC.cond_f rfl ?_
              refine WC.skip ?_
              refine WE.then_n ?_
              refine WC.seq ?_
              refine WC.seq ?_
              refine WC.region ?_
              refine WL.val (v_move rfl rfl) (.none rfl) rfl rfl ?_
              refine WL.val ((v_eql rfl rfl rfl).f (by omega)) (.none rfl) rfl rfl ?_
              refine WL.nil ?_
              refine WE.then_n ?_
              refine WC.cond_f rfl ?_
              refine WC.skip ?_
              refine WE.then_n ?_
              refine WC.seq ?_
              refine WC.seq ?_
              refine WC.region ?_
              refine WL.val (v_move rfl rfl) (.none rfl) rfl rfl ?_
              refine WL.val ((v_eql rfl rfl rfl).f (by omega)) (.none rfl) rfl rfl ?_
              refine WL.nil ?_
              refine WE.then_n ?_
              refine WC.cond_f rfl ?_
              refine WC.skip ?_
              refine WE.then_n ?_
              refine WC.seq ?_
              refine WC.region ?_
              refine WL.val (v_move rfl rfl) (.none rfl) rfl rfl ?_
              refine WL.val ((v_eql rfl rfl rfl).f (by omega)) (.none rfl) rfl rfl ?_
              refine WL.nil ?_
              refine WE.then_n ?_
              refine WC.cond_f rfl ?_
              refine WC.skip ?_
              refine WE.block_n ?_
              obtain ⟨hpr, hpa⟩ := partsR_some (hyes rfl)
              have htk : takeD d al vl = .inl { d with has := d.has + 2 ^ t, path := ss.map segD } := (by
                have := takeD_ok (d := d) (d' := { d with path := ss.map segD }) hnf hnz (by omega) (by rw [htn, show t = 2 by omega]; show (pathR vl).map _ = _; rw [hpr]; rfl) (fun _ => hpa) (by intro h; omega) (by intro h; omega)
                rw [this, htn])
              have hdd : AtL.d { a with has := a.has + 2 ^ t, pad := ad2, pc := c2, path := ss } = { ({ d with has := d.has + 2 ^ t, path := ss.map segD } : AtD) with others := sortO d.others } := (by
                rw [show AtL.d { a with has := a.has + 2 ^ t, pad := ad2, pc := c2, path := ss } = { a.d with has := a.has + 2 ^ t, path := ss.map segD } from rfl, hsame, hah])
              have hA2 : AtOwn ((E2 ++ K2) ++ K) { a with has := a.has + 2 ^ t, pad := ad2, pc := c2, path := ss } := ⟨⟨E2, hV2, fun e he => List.mem_append_left _ (List.mem_append_left _ he)⟩, fun s hs => (by
                obtain ⟨E', r1, r2⟩ := hK2 s hs
                exact ⟨E', r1, fun e he => List.mem_append_left _ (List.mem_append_right _ (r2 e he))⟩), (by
                obtain ⟨E', r1, r2⟩ := hown.comms
                exact ⟨E', r1, fun e he => List.mem_append_right _ (r2 e he)⟩)⟩
              exact WE.next ⟨k + toN (xs.drop k), { d with has := d.has + 2 ^ t, path := ss.map segD }, fOf al 1 :: seen, { a with has := a.has + 2 ^ t, pad := ad2, pc := c2, path := ss }, esU, cU, _, E, (E2 ++ K2) ++ K⟩ (by dsimp only; omega) (hfin _ _ _ (fun e he => List.mem_append_right _ he) hA2 rfl rfl rfl (.inr ⟨rfl, rfl⟩) htk hdd) (.cons rfl (.cons rfl (.cons rfl (.cons rfl (.cons rfl (.cons rfl (.cons rfl (.cons rfl .nil)))))))) (.refl _)
            ·
             refine WL.nil ?_
             refine WE.then_n ?_
             refine WC.cond_f rfl ?_
             refine WC.skip ?_
             refine WE.then_n ?_
             refine WC.seq ?_
             refine WC.seq ?_
             refine WC.region ?_
             refine WL.val (v_move rfl rfl) (.none rfl) rfl rfl ?_
             refine WL.test (v_eql rfl rfl rfl) (.none rfl) rfl rfl (fun h256 => ?_) (fun h256 => ?_)
             ·
              refine WL.nil ?_
              refine WE.then_n ?_
              refine WC.cond_t rfl ?_
              refine WC.seq ?_
              refine WC.region ?_
              refine WL.val (v_move rfl rfl) (.none rfl) rfl rfl ?_
              have hl4 := hz4 (by omega)
              have hrb := readI_b 4 vl hl4 hWv.bys
              have hp4 : (256 : Int) ^ 4 = 4294967296 := (by decide)
              refine WL.call rfl rfl ck_65 (.none rfl) rfl rfl ?_
              intro w hS
              refine Calls.then (RNum_c _ b vo vc vl (hWv.st hS) (by omega)) hS ?_
              refine WL.val (v_fieldAddr0 rfl rfl fld_51_3) (.none rfl) rfl rfl ?_
              refine WL.store1 rfl rfl rfl rfl one_3 (Nat.le_of_ble_eq_true rfl) (.none rfl) rfl ?_
              refine WL.as (L' := E ++ (K ++ (.obj g24 (.map esU cU) :: .row g23 sizeL :: .row g22 wantL :: .row g4 (AtL.rcells { a with has := a.has + 2 ^ t, hop := readI vl }) :: .row g3 (fltL 0 0 ⟨#[]⟩) :: [.row g2 AtL.zero.rcells]))) rfl ?_
              refine WL.nil ?_
              refine WE.then_n ?_
              refine WC.seq ?_
              refine WC.region ?_
              refine WL.val (v_fieldAddr0 rfl rfl fld_51_3) (.none rfl) rfl rfl ?_
              refine WL.val (v_load1 rfl rfl one_3 (cellAt rfl)) (.none rfl) rfl rfl ?_
              refine WL.call rfl rfl ck_68 (.none rfl) rfl rfl ?_
              intro w hS
              refine Calls.then (RHop_c _ (readI vl) (by omega) (by omega)) hS ?_
              generalize hq3 : hopB (readI vl) = b262
              cases b262
              ·
               refine WL.val (v_not rfl rfl rfl) (.none rfl) rfl rfl ?_
               refine WL.nil ?_
               refine WE.then_n ?_
               refine WC.cond_t rfl ?_
               refine WC.seq ?_
               refine WC.orders mixed ?_
               refine WR.first (g := 4) [0, 1] (by kernel_rfl) (by kernel_rfl) ?_
               refine WP.val (v_build rfl rfl zero_51 plc_51 rfl) (.none rfl) rfl rfl ?_
               refine WP.val (v_move rfl rfl) (.none rfl) rfl rfl ?_
               refine WP.nil ?_
               refine WR.each (g := 3) [2, 4] (by kernel_rfl) (by decide) ?_
               refine ⟨?_, ?_⟩
               ·
                refine WL.val (v_convBS (fOf al) rfl rfl Tryd.underlying22 Tryd.underlying5 Tryd.underlying9 (fun w' hS' _ => ⟨b, sAddr o k cv 1, rfl, rd_u8s (hWa.st hS').at_⟩)) (.none rfl) rfl rfl ?_
                refine WL.nilR ?_
                refine WR.first (g := 2) [3] (by kernel_rfl) (by kernel_rfl) ?_
                refine WP.val (v_build rfl rfl zero_28 plc_28 rfl) (.none rfl) rfl rfl ?_
                refine WP.nil ?_
                refine WR.ones (g := 0) [4, 5] (by kernel_rfl) ?_
                refine WL.storeW rfl rfl rfl rfl many_51 rfl rfl (.none rfl) rfl ?_
                refine WL.storeW rfl rfl rfl rfl many_28 rfl rfl (.none rfl) rfl ?_
                refine WL.nilR ?_
                refine WR.done (by kernel_rfl) ?_
                refine WE.then_n ?_
                refine WC.ret ?_
                refine WE.then_ret ?_
                refine WE.block_ret ?_
                refine WE.then_ret ?_
                refine WE.block_ret ?_
                refine WE.then_ret ?_
                refine WE.ret2 (P := Tryd.prog) (.inl rfl) Tryd.results44 (resRow rfl many_51 rfl) (resRow rfl many_28 rfl) ?_
                have e0 : decD AtL.zero.d [] xs = .inr (8, strOf al) := (by rw [hdec]; exact decD_fail (by omega) hnsx (by rw [← hal, ← hvl]; rw [stepD_k hk18]; exact takeD_8 hnf hnz (by omega) hq3))
                exact fun w' h => RDecP.no e0 h
               ·
                refine WL.storeW rfl rfl rfl rfl many_51 rfl rfl (.none rfl) rfl ?_
                refine WL.nilR ?_
                refine WR.read (g := 1) [2, 3] (by kernel_rfl) (by kernel_rfl) (by kernel_rfl) (by kernel_rfl) rfl ?_
                refine WQ.val (v_convBS (fOf al) rfl rfl Tryd.underlying22 Tryd.underlying5 Tryd.underlying9 (fun w' hS' _ => ⟨b, sAddr o k cv 1, rfl, rd_u8s (hWa.st hS').at_⟩)) (.none rfl) rfl rfl ?_
                refine WQ.val (v_build rfl rfl zero_28 plc_28 rfl) (.none rfl) rfl rfl ?_
                refine WQ.nilR ?_
                refine WR.ones (g := 0) [5] (by kernel_rfl) ?_
                refine WL.storeW rfl rfl rfl rfl many_28 rfl rfl (.none rfl) rfl ?_
                refine WL.nilR ?_
                refine WR.done (by kernel_rfl) ?_
                refine WE.then_n ?_
                refine WC.ret ?_
                refine WE.then_ret ?_
                refine WE.block_ret ?_
                refine WE.then_ret ?_
                refine WE.block_ret ?_
                refine WE.then_ret ?_
                refine WE.ret2 (P := Tryd.prog) (.inl rfl) Tryd.results44 (resRow rfl many_51 rfl) (resRow rfl many_28 rfl) ?_
                have e0 : decD AtL.zero.d [] xs = .inr (8, strOf al) := (by rw [hdec]; exact decD_fail (by omega) hnsx (by rw [← hal, ← hvl]; rw [stepD_k hk18]; exact takeD_8 hnf hnz (by omega) hq3))
                exact fun w' h => RDecP.no e0 h
              ·
               refine WL.val (v_not rfl rfl rfl) (.none rfl) rfl rfl ?_
               refine WL.nil ?_
               refine WE.then_n ?_
               refine WC.cond_f rfl ?_
               refine WC.skip ?_
               refine WE.then_n ?_
               refine WC.seq ?_
               refine WC.seq ?_
               refine WC.region ?_
               refine WL.val (v_move rfl rfl) (.none rfl) rfl rfl ?_
               refine WL.val ((v_eql rfl rfl rfl).f (by omega)) (.none rfl) rfl rfl ?_
               refine WL.nil ?_
               refine WE.then_n ?_
               refine WC.cond_f rfl ?_
               refine WC.skip ?_
               refine WE.then_n ?_
               refine WC.seq ?_
               refine WC.seq ?_
               refine WC.region ?_
               refine WL.val (v_move rfl rfl) (.none rfl) rfl rfl ?_
               refine WL.val ((v_eql rfl rfl rfl).f (by omega)) (.none rfl) rfl rfl ?_
               refine WL.nil ?_
               refine WE.then_n ?_
               refine WC.cond_f rfl ?_
               refine WC.skip ?_
               refine WE.then_n ?_
               refine WC.seq ?_
               refine WC.seq ?_
               refine WC.region ?_
               refine WL.val (v_move rfl rfl) (.none rfl) rfl rfl ?_
               refine WL.val ((v_eql rfl rfl rfl).f (by omega)) (.none rfl) rfl rfl ?_
               refine WL.nil ?_
               refine WE.then_n ?_
               refine WC.cond_f rfl ?_
               refine WC.skip ?_
               refine WE.then_n ?_
               refine WC.seq ?_
               refine WC.region ?_
               refine WL.val (v_move rfl rfl) (.none rfl) rfl rfl ?_
               refine WL.val ((v_eql rfl rfl rfl).f (by omega)) (.none rfl) rfl rfl ?_
               refine WL.nil ?_
               refine WE.then_n ?_
               refine WC.cond_f rfl ?_
               refine WC.skip ?_
               refine WE.block_n ?_
               have htk : takeD d al vl = .inl ({ d with has := d.has + 2 ^ t, hop := readI vl }) := (by
                 have := takeD_ok (d := d) (d' := { d with hop := readI vl }) hnf hnz (by omega) (by rw [htn, show t = 3 by omega]; rfl) (by intro h; omega) (by intro h; omega) (by intro _; exact hq3)
                 rw [this, htn])
               have hdd : AtL.d { a with has := a.has + 2 ^ t, hop := readI vl } = { ({ d with has := d.has + 2 ^ t, hop := readI vl } : AtD) with others := sortO d.others } := (by
                 rw [show AtL.d { a with has := a.has + 2 ^ t, hop := readI vl } = { a.d with has := a.has + 2 ^ t, hop := readI vl } from rfl, hsame, hah])
               exact WE.next ⟨k + toN (xs.drop k), { d with has := d.has + 2 ^ t, hop := readI vl }, fOf al 1 :: seen, { a with has := a.has + 2 ^ t, hop := readI vl }, esU, cU, _, E, K⟩ (by dsimp only; omega) (hfin _ _ _ (fun _ h => h) ⟨hown.path, hown.segs, hown.comms⟩ rfl rfl rfl (.inr ⟨rfl, rfl⟩) htk hdd) (.cons rfl (.cons rfl (.cons rfl (.cons rfl (.cons rfl (.cons rfl (.cons rfl (.cons rfl .nil)))))))) (.refl _)
             ·
              refine WL.nil ?_
              refine WE.then_n ?_
              refine WC.cond_f rfl ?_
              refine WC.skip ?_
              refine WE.then_n ?_
              refine WC.seq ?_
              refine WC.seq ?_
              refine WC.region ?_
              refine WL.val (v_move rfl rfl) (.none rfl) rfl rfl ?_
              refine WL.test (v_eql rfl rfl rfl) (.none rfl) rfl rfl (fun h269 => ?_) (fun h269 => ?_)
              ·
               refine WL.nil ?_
               refine WE.then_n ?_
               refine WC.cond_t rfl ?_
               refine WC.region ?_
               refine WL.val (v_move rfl rfl) (.none rfl) rfl rfl ?_
               have hl4 := hz4 (by omega)
               have hrb := readI_b 4 vl hl4 hWv.bys
               have hp4 : (256 : Int) ^ 4 = 4294967296 := (by decide)
               refine WL.call rfl rfl ck_65 (.none rfl) rfl rfl ?_
               intro w hS
               refine Calls.then (RNum_c _ b vo vc vl (hWv.st hS) (by omega)) hS ?_
               refine WL.val (v_fieldAddr0 rfl rfl fld_51_4) (.none rfl) rfl rfl ?_
               refine WL.store1 rfl rfl rfl rfl one_3 (Nat.le_of_ble_eq_true rfl) (.none rfl) rfl ?_
               refine WL.as (L' := E ++ (K ++ (.obj g24 (.map esU cU) :: .row g23 sizeL :: .row g22 wantL :: .row g4 (AtL.rcells { a with has := a.has + 2 ^ t, med := readI vl }) :: .row g3 (fltL 0 0 ⟨#[]⟩) :: [.row g2 AtL.zero.rcells]))) rfl ?_
               refine WL.nil ?_
               refine WE.then_n ?_
               refine WC.seq ?_
               refine WC.seq ?_
               refine WC.region ?_
               refine WL.val (v_move rfl rfl) (.none rfl) rfl rfl ?_
               refine WL.val ((v_eql rfl rfl rfl).f (by omega)) (.none rfl) rfl rfl ?_
               refine WL.nil ?_
               refine WE.then_n ?_
               refine WC.cond_f rfl ?_
               refine WC.skip ?_
               refine WE.then_n ?_
               refine WC.seq ?_
               refine WC.seq ?_
               refine WC.region ?_
               refine WL.val (v_move rfl rfl) (.none rfl) rfl rfl ?_
               refine WL.val ((v_eql rfl rfl rfl).f (by omega)) (.none rfl) rfl rfl ?_
               refine WL.nil ?_
               refine WE.then_n ?_
               refine WC.cond_f rfl ?_
               refine WC.skip ?_
               refine WE.then_n ?_
               refine WC.seq ?_
               refine WC.region ?_
               refine WL.val (v_move rfl rfl) (.none rfl) rfl rfl ?_
               refine WL.val ((v_eql rfl rfl rfl).f (by omega)) (.none rfl) rfl rfl ?_
               refine WL.nil ?_
               refine WE.then_n ?_
               refine WC.cond_f rfl ?_
               refine WC.skip ?_
               refine WE.block_n ?_
               have htk : takeD d al vl = .inl ({ d with has := d.has + 2 ^ t, med := readI vl }) := (by
                 have := takeD_ok (d := d) (d' := { d with med := readI vl }) hnf hnz (by omega) (by rw [htn, show t = 4 by omega]; rfl) (by intro h; omega) (by intro h; omega) (by intro h; omega)
                 rw [this, htn])
               have hdd : AtL.d { a with has := a.has + 2 ^ t, med := readI vl } = { ({ d with has := d.has + 2 ^ t, med := readI vl } : AtD) with others := sortO d.others } := (by
                 rw [show AtL.d { a with has := a.has + 2 ^ t, med := readI vl } = { a.d with has := a.has + 2 ^ t, med := readI vl } from rfl, hsame, hah])
               exact WE.next ⟨k + toN (xs.drop k), { d with has := d.has + 2 ^ t, med := readI vl }, fOf al 1 :: seen, { a with has := a.has + 2 ^ t, med := readI vl }, esU, cU, _, E, K⟩ (by dsimp only; omega) (hfin _ _ _ (fun _ h => h) ⟨hown.path, hown.segs, hown.comms⟩ rfl rfl rfl (.inr ⟨rfl, rfl⟩) htk hdd) (.cons rfl (.cons rfl (.cons rfl (.cons rfl (.cons rfl (.cons rfl (.cons rfl (.cons rfl .nil)))))))) (.refl _)
              ·
               refine WL.nil ?_
               refine WE.then_n ?_
               refine WC.cond_f rfl ?_
               refine WC.skip ?_
               refine WE.then_n ?_
               refine WC.seq ?_
               refine WC.seq ?_
               refine WC.region ?_
               refine WL.val (v_move rfl rfl) (.none rfl) rfl rfl ?_
               refine WL.test (v_eql rfl rfl rfl) (.none rfl) rfl rfl (fun h274 => ?_) (fun h274 => ?_)
               ·
                refine WL.nil ?_
                refine WE.then_n ?_
                refine WC.cond_t rfl ?_
                refine WC.region ?_
                refine WL.val (v_move rfl rfl) (.none rfl) rfl rfl ?_
                have hl4 := hz4 (by omega)
                have hrb := readI_b 4 vl hl4 hWv.bys
                have hp4 : (256 : Int) ^ 4 = 4294967296 := (by decide)
                refine WL.call rfl rfl ck_65 (.none rfl) rfl rfl ?_
                intro w hS
                refine Calls.then (RNum_c _ b vo vc vl (hWv.st hS) (by omega)) hS ?_
                refine WL.val (v_fieldAddr0 rfl rfl fld_51_5) (.none rfl) rfl rfl ?_
                refine WL.store1 rfl rfl rfl rfl one_3 (Nat.le_of_ble_eq_true rfl) (.none rfl) rfl ?_
                refine WL.as (L' := E ++ (K ++ (.obj g24 (.map esU cU) :: .row g23 sizeL :: .row g22 wantL :: .row g4 (AtL.rcells { a with has := a.has + 2 ^ t, loc := readI vl }) :: .row g3 (fltL 0 0 ⟨#[]⟩) :: [.row g2 AtL.zero.rcells]))) rfl ?_
                refine WL.nil ?_
                refine WE.then_n ?_
                refine WC.seq ?_
                refine WC.seq ?_
                refine WC.region ?_
                refine WL.val (v_move rfl rfl) (.none rfl) rfl rfl ?_
                refine WL.val ((v_eql rfl rfl rfl).f (by omega)) (.none rfl) rfl rfl ?_
                refine WL.nil ?_
                refine WE.then_n ?_
                refine WC.cond_f rfl ?_
                refine WC.skip ?_
                refine WE.then_n ?_
                refine WC.seq ?_
                refine WC.region ?_
                refine WL.val (v_move rfl rfl) (.none rfl) rfl rfl ?_
                refine WL.val ((v_eql rfl rfl rfl).f (by omega)) (.none rfl) rfl rfl ?_
                refine WL.nil ?_
                refine WE.then_n ?_
                refine WC.cond_f rfl ?_
                refine WC.skip ?_
                refine WE.block_n ?_
                have htk : takeD d al vl = .inl ({ d with has := d.has + 2 ^ t, loc := readI vl }) := (by
                  have := takeD_ok (d := d) (d' := { d with loc := readI vl }) hnf hnz (by omega) (by rw [htn, show t = 5 by omega]; rfl) (by intro h; omega) (by intro h; omega) (by intro h; omega)
                  rw [this, htn])
                have hdd : AtL.d { a with has := a.has + 2 ^ t, loc := readI vl } = { ({ d with has := d.has + 2 ^ t, loc := readI vl } : AtD) with others := sortO d.others } := (by
                  rw [show AtL.d { a with has := a.has + 2 ^ t, loc := readI vl } = { a.d with has := a.has + 2 ^ t, loc := readI vl } from rfl, hsame, hah])
                exact WE.next ⟨k + toN (xs.drop k), { d with has := d.has + 2 ^ t, loc := readI vl }, fOf al 1 :: seen, { a with has := a.has + 2 ^ t, loc := readI vl }, esU, cU, _, E, K⟩ (by dsimp only; omega) (hfin _ _ _ (fun _ h => h) ⟨hown.path, hown.segs, hown.comms⟩ rfl rfl rfl (.inr ⟨rfl, rfl⟩) htk hdd) (.cons rfl (.cons rfl (.cons rfl (.cons rfl (.cons rfl (.cons rfl (.cons rfl (.cons rfl .nil)))))))) (.refl _)
               ·
                refine WL.nil ?_
                refine WE.then_n ?_
                refine WC.cond_f rfl ?_
                refine WC.skip ?_
                refine WE.then_n ?_
                refine WC.seq ?_
                refine WC.seq ?_
                refine WC.region ?_
                refine WL.val (v_move rfl rfl) (.none rfl) rfl rfl ?_
                refine WL.test (v_eql rfl rfl rfl) (.none rfl) rfl rfl (fun h279 => ?_) (fun h279 => ?_)
                ·
                 refine WL.nil ?_
                 refine WE.then_n ?_
                 refine WC.cond_t rfl ?_
                 refine WC.seq ?_
                 refine WC.region ?_
                 refine WL.val (v_move rfl rfl) (.none rfl) rfl rfl ?_
                 have hl7 := hz7 (by omega)
                 have hla : (vl.take 2).length = 2 := (by rw [List.length_take]; omega)
                 have hlb : (vl.drop 2).length = 4 := (by rw [List.length_drop]; omega)
                 refine WL.val ((v_slice_hi (hi := 2) rfl rfl rfl Tryd.underlying22 sz_5 rfl (by omega))) (.none rfl) rfl rfl ?_
                 refine WL.call rfl rfl ck_65 (.none rfl) rfl rfl ?_
                 intro w hS
                 refine Calls.then (by rw [show (Value.slice (some ⟨b, vo, none⟩) 2 vc) = .slice (some ⟨b, vo, none⟩) (vl.take 2).length vc by rw [hla]]; exact RNum_c _ b vo vc (vl.take 2) ((hWv.take 2).st hS) (by omega)) hS ?_
                 refine WL.val (v_fieldAddr0 rfl rfl fld_51_6) (.none rfl) rfl rfl ?_
                 refine WL.store1 rfl rfl rfl rfl one_3 (Nat.le_of_ble_eq_true rfl) (.none rfl) rfl ?_
                 refine WL.as (L' := E ++ (K ++ (.obj g24 (.map esU cU) :: .row g23 sizeL :: .row g22 wantL :: .row g4 (AtL.rcells { a with has := a.has + 2 ^ t, aas := readI (vl.take 2) }) :: .row g3 (fltL 0 0 ⟨#[]⟩) :: [.row g2 AtL.zero.rcells]))) rfl ?_
                 refine WL.nil ?_
                 refine WE.then_n ?_
                 refine WC.region ?_
                 refine WL.val (v_move rfl rfl) (.none rfl) rfl rfl ?_
                 refine WL.val ((v_slice_lo (lo := 2) rfl rfl rfl Tryd.underlying22 sz_5 rfl (by omega))) (.none rfl) rfl rfl ?_
                 refine WL.call rfl rfl ck_65 (.none rfl) rfl rfl ?_
                 intro w hS
                 refine Calls.then (by rw [show vl.length - 2 = (vl.drop 2).length by omega]; exact RNum_c _ b (sAddr vo 2 vc 1) (vc - 2) (vl.drop 2) ((hWv.drop 2).st hS) (by omega)) hS ?_
                 refine WL.val (v_fieldAddr0 rfl rfl fld_51_7) (.none rfl) rfl rfl ?_
                 refine WL.store1 rfl rfl rfl rfl one_3 (Nat.le_of_ble_eq_true rfl) (.none rfl) rfl ?_
                 refine WL.as (L' := E ++ (K ++ (.obj g24 (.map esU cU) :: .row g23 sizeL :: .row g22 wantL :: .row g4 (AtL.rcells { a with has := a.has + 2 ^ t, aas := readI (vl.take 2), aid := readI (vl.drop 2) }) :: .row g3 (fltL 0 0 ⟨#[]⟩) :: [.row g2 AtL.zero.rcells]))) rfl ?_
                 refine WL.nil ?_
                 refine WE.then_n ?_
                 refine WC.seq ?_
                 refine WC.region ?_
                 refine WL.val (v_move rfl rfl) (.none rfl) rfl rfl ?_
                 refine WL.val ((v_eql rfl rfl rfl).f (by omega)) (.none rfl) rfl rfl ?_
                 refine WL.nil ?_
                 refine WE.then_n ?_
                 refine WC.cond_f rfl ?_
                 refine WC.skip ?_
                 refine WE.block_n ?_
                 have htk : takeD d al vl = .inl ({ d with has := d.has + 2 ^ t, aas := readI (vl.take 2), aid := readI (vl.drop 2) }) := (by
                   have := takeD_ok (d := d) (d' := { d with aas := readI (vl.take 2), aid := readI (vl.drop 2) }) hnf hnz (by omega) (by rw [htn, show t = 7 by omega]; rfl) (by intro h; omega) (by intro h; omega) (by intro h; omega)
                   rw [this, htn])
                 have hdd : AtL.d { a with has := a.has + 2 ^ t, aas := readI (vl.take 2), aid := readI (vl.drop 2) } = { ({ d with has := d.has + 2 ^ t, aas := readI (vl.take 2), aid := readI (vl.drop 2) } : AtD) with others := sortO d.others } := (by
                   rw [show AtL.d { a with has := a.has + 2 ^ t, aas := readI (vl.take 2), aid := readI (vl.drop 2) } = { a.d with has := a.has + 2 ^ t, aas := readI (vl.take 2), aid := readI (vl.drop 2) } from rfl, hsame, hah])
                 exact WE.next ⟨k + toN (xs.drop k), { d with has := d.has + 2 ^ t, aas := readI (vl.take 2), aid := readI (vl.drop 2) }, fOf al 1 :: seen, { a with has := a.has + 2 ^ t, aas := readI (vl.take 2), aid := readI (vl.drop 2) }, esU, cU, _, E, K⟩ (by dsimp only; omega) (hfin _ _ _ (fun _ h => h) ⟨hown.path, hown.segs, hown.comms⟩ rfl rfl rfl (.inr ⟨rfl, rfl⟩) htk hdd) (.cons rfl (.cons rfl (.cons rfl (.cons rfl (.cons rfl (.cons rfl (.cons rfl (.cons rfl .nil)))))))) (.refl _)
                ·
                 refine WL.nil ?_
                 refine WE.then_n ?_
                 refine WC.cond_f rfl ?_
                 refine WC.skip ?_
                 refine WE.then_n ?_
                 refine WC.seq ?_
                 refine WC.region ?_
                 refine WL.val (v_move rfl rfl) (.none rfl) rfl rfl ?_
                 refine WL.test (v_eql rfl rfl rfl) (.none rfl) rfl rfl (fun h289 => ?_) (fun h289 => ?_)
                 ·
                  refine WL.nil ?_
                  refine WE.then_n ?_
                  refine WC.cond_t rfl ?_
                  refine WC.seq ?_
                  refine WC.seq ?_
                  refine WC.region ?_
                  refine WL.val (v_move rfl rfl) (.none rfl) rfl rfl ?_
                  refine WL.val (v_len_slice rfl rfl Tryd.underlying22) (.none rfl) rfl rfl ?_
                  refine WL.test (v_gtr rfl rfl rfl) (.none rfl) rfl rfl (fun h292 => ?_) (fun h292 => ?_)
                  ·
                   refine WL.nil ?_
                   refine WE.then_n ?_
                   refine WC.cond_t rfl ?_
                   refine WC.seq ?_
                   refine WC.orders mixed ?_
                   refine WR.first (g := 4) [0, 1] (by kernel_rfl) (by kernel_rfl) ?_
                   refine WP.val (v_build rfl rfl zero_51 plc_51 rfl) (.none rfl) rfl rfl ?_
                   refine WP.val (v_move rfl rfl) (.none rfl) rfl rfl ?_
                   refine WP.nil ?_
                   refine WR.each (g := 3) [2, 4] (by kernel_rfl) (by decide) ?_
                   refine ⟨?_, ?_⟩
                   ·
                    refine WL.val (v_convBS (fOf al) rfl rfl Tryd.underlying22 Tryd.underlying5 Tryd.underlying9 (fun w' hS' _ => ⟨b, sAddr o k cv 1, rfl, rd_u8s (hWa.st hS').at_⟩)) (.none rfl) rfl rfl ?_
                    refine WL.nilR ?_
                    refine WR.first (g := 2) [3] (by kernel_rfl) (by kernel_rfl) ?_
                    refine WP.val (v_build rfl rfl zero_28 plc_28 rfl) (.none rfl) rfl rfl ?_
                    refine WP.nil ?_
                    refine WR.ones (g := 0) [4, 5] (by kernel_rfl) ?_
                    refine WL.storeW rfl rfl rfl rfl many_51 rfl rfl (.none rfl) rfl ?_
                    refine WL.storeW rfl rfl rfl rfl many_28 rfl rfl (.none rfl) rfl ?_
                    refine WL.nilR ?_
                    refine WR.done (by kernel_rfl) ?_
                    refine WE.then_n ?_
                    refine WC.ret ?_
                    refine WE.then_ret ?_
                    refine WE.block_ret ?_
                    refine WE.then_ret ?_
                    refine WE.block_ret ?_
                    refine WE.then_ret ?_
                    refine WE.ret2 (P := Tryd.prog) (.inl rfl) Tryd.results44 (resRow rfl many_51 rfl) (resRow rfl many_28 rfl) ?_
                    have e0 : decD AtL.zero.d [] xs = .inr (9, strOf al) := (by rw [hdec]; exact decD_fail (by omega) hnsx (by rw [← hal, ← hvl]; rw [stepD_k hk18]; exact takeD_9 hnf hnz ⟨by omega, by omega⟩))
                    exact fun w' h => RDecP.no e0 h
                   ·
                    refine WL.storeW rfl rfl rfl rfl many_51 rfl rfl (.none rfl) rfl ?_
                    refine WL.nilR ?_
                    refine WR.read (g := 1) [2, 3] (by kernel_rfl) (by kernel_rfl) (by kernel_rfl) (by kernel_rfl) rfl ?_
                    refine WQ.val (v_convBS (fOf al) rfl rfl Tryd.underlying22 Tryd.underlying5 Tryd.underlying9 (fun w' hS' _ => ⟨b, sAddr o k cv 1, rfl, rd_u8s (hWa.st hS').at_⟩)) (.none rfl) rfl rfl ?_
                    refine WQ.val (v_build rfl rfl zero_28 plc_28 rfl) (.none rfl) rfl rfl ?_
                    refine WQ.nilR ?_
                    refine WR.ones (g := 0) [5] (by kernel_rfl) ?_
                    refine WL.storeW rfl rfl rfl rfl many_28 rfl rfl (.none rfl) rfl ?_
                    refine WL.nilR ?_
                    refine WR.done (by kernel_rfl) ?_
                    refine WE.then_n ?_
                    refine WC.ret ?_
                    refine WE.then_ret ?_
                    refine WE.block_ret ?_
                    refine WE.then_ret ?_
                    refine WE.block_ret ?_
                    refine WE.then_ret ?_
                    refine WE.ret2 (P := Tryd.prog) (.inl rfl) Tryd.results44 (resRow rfl many_51 rfl) (resRow rfl many_28 rfl) ?_
                    have e0 : decD AtL.zero.d [] xs = .inr (9, strOf al) := (by rw [hdec]; exact decD_fail (by omega) hnsx (by rw [← hal, ← hvl]; rw [stepD_k hk18]; exact takeD_9 hnf hnz ⟨by omega, by omega⟩))
                    exact fun w' h => RDecP.no e0 h
                  ·
                   refine WL.nil ?_
                   refine WE.then_n ?_
                   refine WC.cond_f rfl ?_
                   refine WC.skip ?_
                   refine WE.then_n ?_
                   refine WC.seq ?_
                   refine WC.region ?_
                   obtain ⟨e81, e82⟩ := hcom (by rw [← show fOf al 1 = 8 by omega]; exact hns6)
                   have e83 : a.comms = [] := (by
                     have h1 := hseen.com (by rw [← show fOf al 1 = 8 by omega]; exact hns6)
                     have h2 := congrArg AtD.comms hsame
                     exact h2.trans h1)
                   have hl8 := hz8 (by omega)
                   have ea8 : ({ a with has := a.has + 2 ^ t } : AtL) = { a with has := a.has + 2 ^ t, cad := none, cc := 0, comms := [] } := (by rw [← e81, ← e82, ← e83])
                   rw [ea8]
                   refine WL.val (v_assign rfl rfl) (.none rfl) rfl rfl ?_
                   refine WL.nil ?_
                   refine WE.then_n ?_
                   refine WC.block ?_
                   refine WC.loop (fun y : Nat × List Int × Option Addr × Nat × List Ent => [(20, .int .i64 y.1), (13, .slice (some ⟨b, vo, none⟩) vl.length vc), (12, .int .i64 t), (8, .int .i64 ((k + toN (xs.drop k) : Nat) : Int)), (7, .map (some g24)), (6, .slice (some ⟨g23, 0, none⟩) 9 9), (5, .slice (some ⟨g22, 0, none⟩) 9 9), (4, .pointer (some ⟨g4, 0, none⟩)), (3, .pointer (some ⟨g3, 0, none⟩)), (2, .pointer (some ⟨g2, 0, none⟩)), (0, .slice (some ⟨b, o, none⟩) xs.length cv)]) (fun y => y.2.2.2.2 ++ (E ++ (K ++ (.obj g24 (.map esU cU) :: .row g23 sizeL :: .row g22 wantL :: .row g4 (AtL.rcells { a with has := a.has + 2 ^ t, cad := y.2.2.1, cc := y.2.2.2.1, comms := y.2.1 }) :: .row g3 (fltL 0 0 ⟨#[]⟩) :: [.row g2 AtL.zero.rcells])))) (fun y => y.1 ≤ vl.length ∧ y.1 % 4 = 0 ∧ y.2.1 ++ fours (vl.drop y.1) = fours vl ∧ Vec 1 y.2.2.1 y.2.1.length y.2.2.2.1 (i64s y.2.1) y.2.2.2.2 ∧ y.2.1.length ≤ y.1) (fun y => vl.length - y.1) (0, [], none, 0, []) ⟨Nat.zero_le _, rfl, by dsimp only; rw [List.drop_zero]; rfl, Vec.nil 1, Nat.zero_le _⟩ (.cons rfl (.cons rfl (.cons rfl (.cons rfl (.cons rfl (.cons rfl (.cons rfl (.cons rfl (.cons rfl (.cons rfl (.cons rfl .nil))))))))))) (.refl _) ?_
                   rintro ⟨i, cs, ad, cc, E8⟩ ⟨hi, hi4, hy, hV8, hcl⟩
                   dsimp only at hi hi4 hy hV8 hcl
                   dsimp only
                   refine WC.seq ?_
                   refine WC.seq ?_
                   refine WC.region ?_
                   refine WL.val (v_move rfl rfl) (.none rfl) rfl rfl ?_
                   refine WL.val (v_move rfl rfl) (.none rfl) rfl rfl ?_
                   refine WL.val (v_len_slice rfl rfl Tryd.underlying22) (.none rfl) rfl rfl ?_
                   refine WL.test (v_lss rfl rfl rfl) (.none rfl) rfl rfl (fun h300 => ?_) (fun h300 => ?_)
                   ·
                    refine WL.nil ?_
                    refine WE.then_n ?_
                    refine WC.cond_t rfl ?_
                    refine WC.skip ?_
                    refine WE.then_n ?_
                    refine WC.seq ?_
                    refine WC.block ?_
                    refine WC.orders mixed ?_
                    refine WR.first (g := 6) [0, 2, 3, 4, 5, 6] (by kernel_rfl) (by kernel_rfl) ?_
                    refine WP.val (v_fieldAddr0 rfl rfl fld_51_8) (.none rfl) rfl rfl ?_
                    obtain ⟨x0, x1, x2, x3, zs, hdr⟩ := four_of (xs := vl.drop i) (by rw [List.length_drop]; omega)
                    have hnum : (vl.take (i + 4)).drop i = [x0, x1, x2, x3] := (by rw [List.drop_take, hdr, show i + 4 - i = 4 by omega]; rfl)
                    have hzs : vl.drop (i + 4) = zs := (by rw [← List.drop_drop, hdr]; rfl)
                    rw [hdr, show fours (x0 :: x1 :: x2 :: x3 :: zs) = readI [x0, x1, x2, x3] :: fours zs from rfl] at hy
                    refine WP.val (v_move rfl rfl) (.none rfl) rfl rfl ?_
                    refine WP.val (v_move rfl rfl) (.none rfl) rfl rfl ?_
                    refine WP.val (v_move rfl rfl) (.none rfl) rfl rfl ?_
                    refine WP.val (v_add rfl rfl rfl (show _ = ((i + 4 : Nat) : Int) from (w_i64 (by omega) (by omega)).trans (by omega))) (.none rfl) rfl rfl ?_
                    refine WP.val ((v_slice_lh (lo := i) (hi := i + 4) rfl rfl rfl rfl Tryd.underlying22 sz_5 rfl rfl (by omega) (by omega))) (.none rfl) rfl rfl ?_
                    refine WP.nil ?_
                    refine WR.each (g := 5) [1, 7] (by kernel_rfl) (by decide) ?_
                    refine ⟨?_, ?_⟩
                    ·
                     refine WL.val (v_load1 rfl rfl one_38 (cellAt rfl)) (.none rfl) rfl rfl ?_
                     refine WL.nilR ?_
                     refine WR.read (g := 4) [7] (by kernel_rfl) (by kernel_rfl) (by kernel_rfl) (by kernel_rfl) rfl ?_
                     refine WQ.call _ rfl rfl ck_65 (.none rfl) rfl rfl (fun w hS => Calls.still (by have := (hWv.st hS).numk i (i + 4) (by omega) (by omega) (by omega); rw [hnum] at this; exact this) hS) ?_
                     refine WQ.nilR ?_
                     refine WR.ones (g := 2) [8, 9] (by kernel_rfl) ?_
                     refine WL.buildSlice rfl rfl Tryd.underlying38 sz_3 zero_3 rfl (by decide) rfl (.none rfl) rfl rfl ?_
                     intro g311 hg311
                     refine WL.as (L' := .row g311 (i64s [readI [x0, x1, x2, x3]]) :: (E8 ++ (E ++ (K ++ (.obj g24 (.map esU cU) :: .row g23 sizeL :: .row g22 wantL :: .row g4 (AtL.rcells { a with has := a.has + 2 ^ t, cad := ad, cc := cc, comms := cs }) :: .row g3 (fltL 0 0 ⟨#[]⟩) :: [.row g2 AtL.zero.rcells]))))) rfl ?_
                     refine WL.to (L' := E8 ++ (.row g311 (i64s [readI [x0, x1, x2, x3]]) :: (E ++ (K ++ (.obj g24 (.map esU cU) :: .row g23 sizeL :: .row g22 wantL :: .row g4 (AtL.rcells { a with has := a.has + 2 ^ t, cad := ad, cc := cc, comms := cs }) :: .row g3 (fltL 0 0 ⟨#[]⟩) :: [.row g2 AtL.zero.rcells]))))) (fun w hS => hS.front [_]) ?_
                     refine WL.appendL rfl rfl rfl Tryd.underlying38 Tryd.underlying38 sz_3 by_3 zero_3 rfl rfl hV8 (new := i64s [readI [x0, x1, x2, x3]]) (fun _ => ⟨g311, 0, rfl, fun w hS => allAt (g := g311) w hS⟩) rfl (i64s_one _) (by dsimp only; omega) (.none rfl) rfl rfl ?_
                     intro ad312 c312 E312 hV312 hr312
                     rw [← i64s_app] at hV312
                     rw [show cs.length + 1 = (cs ++ [readI [x0, x1, x2, x3]]).length by rw [List.length_append]; rfl] at hV312 ⊢
                     refine WL.nilR ?_
                     refine WR.first (g := 1) [10] (by kernel_rfl) (by kernel_rfl) ?_
                     refine WP.val (v_fieldAddr0 rfl rfl fld_51_8) (.none rfl) rfl rfl ?_
                     refine WP.nil ?_
                     refine WR.ones (g := 0) [11] (by kernel_rfl) ?_
                     refine WL.store1 rfl rfl rfl rfl one_38 (Nat.le_of_ble_eq_true rfl) (.none rfl) rfl ?_
                     refine WL.as (L' := E312 ++ (.row g311 (i64s [readI [x0, x1, x2, x3]]) :: (E ++ (K ++ (.obj g24 (.map esU cU) :: .row g23 sizeL :: .row g22 wantL :: .row g4 (AtL.rcells { a with has := a.has + 2 ^ t, cad := ad312, cc := c312, comms := (cs ++ [readI [x0, x1, x2, x3]]) }) :: .row g3 (fltL 0 0 ⟨#[]⟩) :: [.row g2 AtL.zero.rcells]))))) rfl ?_
                     refine WL.nilR ?_
                     refine WR.done (by kernel_rfl) ?_
                     refine WE.block_n ?_
                     refine WE.then_n ?_
                     refine WC.region ?_
                     refine WL.val (v_move rfl rfl) (.none rfl) rfl rfl ?_
                     refine WL.val (v_add rfl rfl rfl (show _ = ((i + 4 : Nat) : Int) from (w_i64 (by omega) (by omega)).trans (by omega))) (.none rfl) rfl rfl ?_
                     skip
                     refine WL.val (v_assign rfl rfl) (.none rfl) rfl rfl ?_
                     refine WL.nil ?_
                     exact WE.next (i + 4, cs ++ [readI [x0, x1, x2, x3]], ad312, c312, E312) (by dsimp only; omega) ⟨by dsimp only; omega, by dsimp only; omega, by dsimp only; rw [List.append_assoc, hzs]; exact hy, hV312, by dsimp only; rw [List.length_append]; show _ + 1 ≤ _; omega⟩ (.cons rfl (.cons rfl (.cons rfl (.cons rfl (.cons rfl (.cons rfl (.cons rfl (.cons rfl (.cons rfl (.cons rfl (.cons rfl .nil))))))))))) (List.Sublist.append_left (.cons _ (.refl _)) _)
                    ·
                     refine WL.call rfl rfl ck_65 (.none rfl) rfl rfl ?_
                     intro w hS
                     refine Calls.then (by have := (hWv.st hS).numk i (i + 4) (by omega) (by omega) (by omega); rw [hnum] at this; exact this) hS ?_
                     refine WL.nilR ?_
                     refine WR.each (g := 4) [1, 8] (by kernel_rfl) (by decide) ?_
                     refine ⟨?_, ?_⟩
                     ·
                      refine WL.val (v_load1 rfl rfl one_38 (cellAt rfl)) (.none rfl) rfl rfl ?_
                      refine WL.nilR ?_
                      refine WR.ones (g := 2) [8, 9] (by kernel_rfl) ?_
                      refine WL.buildSlice rfl rfl Tryd.underlying38 sz_3 zero_3 rfl (by decide) rfl (.none rfl) rfl rfl ?_
                      intro g311 hg311
                      refine WL.as (L' := .row g311 (i64s [readI [x0, x1, x2, x3]]) :: (E8 ++ (E ++ (K ++ (.obj g24 (.map esU cU) :: .row g23 sizeL :: .row g22 wantL :: .row g4 (AtL.rcells { a with has := a.has + 2 ^ t, cad := ad, cc := cc, comms := cs }) :: .row g3 (fltL 0 0 ⟨#[]⟩) :: [.row g2 AtL.zero.rcells]))))) rfl ?_
                      refine WL.to (L' := E8 ++ (.row g311 (i64s [readI [x0, x1, x2, x3]]) :: (E ++ (K ++ (.obj g24 (.map esU cU) :: .row g23 sizeL :: .row g22 wantL :: .row g4 (AtL.rcells { a with has := a.has + 2 ^ t, cad := ad, cc := cc, comms := cs }) :: .row g3 (fltL 0 0 ⟨#[]⟩) :: [.row g2 AtL.zero.rcells]))))) (fun w hS => hS.front [_]) ?_
                      refine WL.appendL rfl rfl rfl Tryd.underlying38 Tryd.underlying38 sz_3 by_3 zero_3 rfl rfl hV8 (new := i64s [readI [x0, x1, x2, x3]]) (fun _ => ⟨g311, 0, rfl, fun w hS => allAt (g := g311) w hS⟩) rfl (i64s_one _) (by dsimp only; omega) (.none rfl) rfl rfl ?_
                      intro ad312 c312 E312 hV312 hr312
                      rw [← i64s_app] at hV312
                      rw [show cs.length + 1 = (cs ++ [readI [x0, x1, x2, x3]]).length by rw [List.length_append]; rfl] at hV312 ⊢
                      refine WL.nilR ?_
                      refine WR.first (g := 1) [10] (by kernel_rfl) (by kernel_rfl) ?_
                      refine WP.val (v_fieldAddr0 rfl rfl fld_51_8) (.none rfl) rfl rfl ?_
                      refine WP.nil ?_
                      refine WR.ones (g := 0) [11] (by kernel_rfl) ?_
                      refine WL.store1 rfl rfl rfl rfl one_38 (Nat.le_of_ble_eq_true rfl) (.none rfl) rfl ?_
                      refine WL.as (L' := E312 ++ (.row g311 (i64s [readI [x0, x1, x2, x3]]) :: (E ++ (K ++ (.obj g24 (.map esU cU) :: .row g23 sizeL :: .row g22 wantL :: .row g4 (AtL.rcells { a with has := a.has + 2 ^ t, cad := ad312, cc := c312, comms := (cs ++ [readI [x0, x1, x2, x3]]) }) :: .row g3 (fltL 0 0 ⟨#[]⟩) :: [.row g2 AtL.zero.rcells]))))) rfl ?_
                      refine WL.nilR ?_
                      refine WR.done (by kernel_rfl) ?_
                      refine WE.block_n ?_
                      refine WE.then_n ?_
                      refine WC.region ?_
                      refine WL.val (v_move rfl rfl) (.none rfl) rfl rfl ?_
                      refine WL.val (v_add rfl rfl rfl (show _ = ((i + 4 : Nat) : Int) from (w_i64 (by omega) (by omega)).trans (by omega))) (.none rfl) rfl rfl ?_
                      skip
                      refine WL.val (v_assign rfl rfl) (.none rfl) rfl rfl ?_
                      refine WL.nil ?_
                      exact WE.next (i + 4, cs ++ [readI [x0, x1, x2, x3]], ad312, c312, E312) (by dsimp only; omega) ⟨by dsimp only; omega, by dsimp only; omega, by dsimp only; rw [List.append_assoc, hzs]; exact hy, hV312, by dsimp only; rw [List.length_append]; show _ + 1 ≤ _; omega⟩ (.cons rfl (.cons rfl (.cons rfl (.cons rfl (.cons rfl (.cons rfl (.cons rfl (.cons rfl (.cons rfl (.cons rfl (.cons rfl .nil))))))))))) (List.Sublist.append_left (.cons _ (.refl _)) _)
                     ·
                      refine WL.buildSlice rfl rfl Tryd.underlying38 sz_3 zero_3 rfl (by decide) rfl (.none rfl) rfl rfl ?_
                      intro g311 hg311
                      refine WL.as (L' := .row g311 (i64s [readI [x0, x1, x2, x3]]) :: (E8 ++ (E ++ (K ++ (.obj g24 (.map esU cU) :: .row g23 sizeL :: .row g22 wantL :: .row g4 (AtL.rcells { a with has := a.has + 2 ^ t, cad := ad, cc := cc, comms := cs }) :: .row g3 (fltL 0 0 ⟨#[]⟩) :: [.row g2 AtL.zero.rcells]))))) rfl ?_
                      refine WL.to (L' := E8 ++ (.row g311 (i64s [readI [x0, x1, x2, x3]]) :: (E ++ (K ++ (.obj g24 (.map esU cU) :: .row g23 sizeL :: .row g22 wantL :: .row g4 (AtL.rcells { a with has := a.has + 2 ^ t, cad := ad, cc := cc, comms := cs }) :: .row g3 (fltL 0 0 ⟨#[]⟩) :: [.row g2 AtL.zero.rcells]))))) (fun w hS => hS.front [_]) ?_
                      refine WL.nilR ?_
                      refine WR.read (g := 3) [1] (by kernel_rfl) (by kernel_rfl) (by kernel_rfl) (by kernel_rfl) rfl ?_
                      refine WQ.val (v_load1 rfl rfl one_38 (cellAt rfl)) (.none rfl) rfl rfl ?_
                      refine WQ.nilR ?_
                      refine WR.ones (g := 2) [9] (by kernel_rfl) ?_
                      refine WL.appendL rfl rfl rfl Tryd.underlying38 Tryd.underlying38 sz_3 by_3 zero_3 rfl rfl hV8 (new := i64s [readI [x0, x1, x2, x3]]) (fun _ => ⟨g311, 0, rfl, fun w hS => allAt (g := g311) w hS⟩) rfl (i64s_one _) (by dsimp only; omega) (.none rfl) rfl rfl ?_
                      intro ad312 c312 E312 hV312 hr312
                      rw [← i64s_app] at hV312
                      rw [show cs.length + 1 = (cs ++ [readI [x0, x1, x2, x3]]).length by rw [List.length_append]; rfl] at hV312 ⊢
                      refine WL.nilR ?_
                      refine WR.first (g := 1) [10] (by kernel_rfl) (by kernel_rfl) ?_
                      refine WP.val (v_fieldAddr0 rfl rfl fld_51_8) (.none rfl) rfl rfl ?_
                      refine WP.nil ?_
                      refine WR.ones (g := 0) [11] (by kernel_rfl) ?_
                      refine WL.store1 rfl rfl rfl rfl one_38 (Nat.le_of_ble_eq_true rfl) (.none rfl) rfl ?_
                      refine WL.as (L' := E312 ++ (.row g311 (i64s [readI [x0, x1, x2, x3]]) :: (E ++ (K ++ (.obj g24 (.map esU cU) :: .row g23 sizeL :: .row g22 wantL :: .row g4 (AtL.rcells { a with has := a.has + 2 ^ t, cad := ad312, cc := c312, comms := (cs ++ [readI [x0, x1, x2, x3]]) }) :: .row g3 (fltL 0 0 ⟨#[]⟩) :: [.row g2 AtL.zero.rcells]))))) rfl ?_
                      refine WL.nilR ?_
                      refine WR.done (by kernel_rfl) ?_
                      refine WE.block_n ?_
                      refine WE.then_n ?_
                      refine WC.region ?_
                      refine WL.val (v_move rfl rfl) (.none rfl) rfl rfl ?_
                      refine WL.val (v_add rfl rfl rfl (show _ = ((i + 4 : Nat) : Int) from (w_i64 (by omega) (by omega)).trans (by omega))) (.none rfl) rfl rfl ?_
                      skip
                      refine WL.val (v_assign rfl rfl) (.none rfl) rfl rfl ?_
                      refine WL.nil ?_
                      exact WE.next (i + 4, cs ++ [readI [x0, x1, x2, x3]], ad312, c312, E312) (by dsimp only; omega) ⟨by dsimp only; omega, by dsimp only; omega, by dsimp only; rw [List.append_assoc, hzs]; exact hy, hV312, by dsimp only; rw [List.length_append]; show _ + 1 ≤ _; omega⟩ (.cons rfl (.cons rfl (.cons rfl (.cons rfl (.cons rfl (.cons rfl (.cons rfl (.cons rfl (.cons rfl (.cons rfl (.cons rfl .nil))))))))))) (List.Sublist.append_left (.cons _ (.refl _)) _)
                   ·
                    refine WL.nil ?_
                    refine WE.then_n ?_
                    refine WC.cond_f rfl ?_
                    refine WC.exit ?_
                    refine WE.then_exit ?_
                    refine WE.then_exit ?_
                    refine WE.block_hit ?_
                    refine WE.block_n ?_
                    have hcs : cs = fours vl := (by rw [← hy, List.drop_eq_nil_of_le (by omega)]; exact (List.append_nil _).symm)
                    have hdc : d.comms = [] := hseen.com (by rw [← show fOf al 1 = 8 by omega]; exact hns6)
                    have htk : takeD d al vl = .inl { d with has := d.has + 2 ^ t, comms := cs } := (by
                      have := takeD_ok (d := d) (d' := { d with comms := cs }) hnf hnz (by omega) (by rw [htn, show t = 8 by omega]; show some { d with comms := d.comms ++ fours vl } = _; rw [hdc, hcs]; rfl) (by intro h; omega) (by intro h; omega) (by intro h; omega)
                      rw [this, htn])
                    have hdd : AtL.d { a with has := a.has + 2 ^ t, cad := ad, cc := cc, comms := cs } = { ({ d with has := d.has + 2 ^ t, comms := cs } : AtD) with others := sortO d.others } := (by
                      rw [show AtL.d { a with has := a.has + 2 ^ t, cad := ad, cc := cc, comms := cs } = { a.d with has := a.has + 2 ^ t, comms := cs } from rfl, hsame, hah])
                    have hA8 : AtOwn (E8 ++ K) { a with has := a.has + 2 ^ t, cad := ad, cc := cc, comms := cs } := ⟨(by
                      obtain ⟨E', r1, r2⟩ := hown.path
                      exact ⟨E', r1, fun e he => List.mem_append_right _ (r2 e he)⟩), fun s hs => (by
                      obtain ⟨E', r1, r2⟩ := hown.segs s hs
                      exact ⟨E', r1, fun e he => List.mem_append_right _ (r2 e he)⟩), ⟨E8, hV8, fun e he => List.mem_append_left _ he⟩⟩
                    exact WE.to (L' := E ++ ((E8 ++ K) ++ (.obj g24 (.map esU cU) :: .row g23 sizeL :: .row g22 wantL :: .row g4 (AtL.rcells { a with has := a.has + 2 ^ t, cad := ad, cc := cc, comms := cs }) :: .row g3 (fltL 0 0 ⟨#[]⟩) :: [.row g2 AtL.zero.rcells]))) (fun w hS => hS.permC (by intro c h1 h2 h3 e; simp only [h1, h3]; omega)) (WE.next ⟨k + toN (xs.drop k), { d with has := d.has + 2 ^ t, comms := cs }, fOf al 1 :: seen, { a with has := a.has + 2 ^ t, cad := ad, cc := cc, comms := cs }, esU, cU, _, E, E8 ++ K⟩ (by dsimp only; omega) (hfin _ _ _ (fun e he => List.mem_append_right _ he) hA8 rfl rfl rfl (.inl (by omega)) htk hdd) (.cons rfl (.cons rfl (.cons rfl (.cons rfl (.cons rfl (.cons rfl (.cons rfl (.cons rfl .nil)))))))) (.refl _))
                 ·
                  refine WL.nil ?_
                  refine WE.then_n ?_
                  refine WC.cond_f rfl ?_
                  refine WC.skip ?_
                  refine WE.block_n ?_
                  have htk : takeD d al vl = .inl ({ d with has := d.has + 2 ^ t }) := (by
                    have := takeD_ok (d := d) (d' := d) hnf hnz (by omega) (by rw [htn, show t = 6 by omega]; rfl) (by intro h; omega) (by intro h; omega) (by intro h; omega)
                    rw [this, htn])
                  have hdd : AtL.d { a with has := a.has + 2 ^ t } = { ({ d with has := d.has + 2 ^ t } : AtD) with others := sortO d.others } := (by
                    rw [show AtL.d { a with has := a.has + 2 ^ t } = { a.d with has := a.has + 2 ^ t } from rfl, hsame, hah])
                  exact WE.next ⟨k + toN (xs.drop k), { d with has := d.has + 2 ^ t }, fOf al 1 :: seen, { a with has := a.has + 2 ^ t }, esU, cU, _, E, K⟩ (by dsimp only; omega) (hfin _ _ _ (fun _ h => h) ⟨hown.path, hown.segs, hown.comms⟩ rfl rfl rfl (.inr ⟨rfl, rfl⟩) htk hdd) (.cons rfl (.cons rfl (.cons rfl (.cons rfl (.cons rfl (.cons rfl (.cons rfl (.cons rfl .nil)))))))) (.refl _)
  ·
   refine WL.nil ?_
   refine WE.then_n ?_
   refine WC.cond_f rfl ?_
   refine WC.exit ?_
   refine WE.then_exit ?_
   refine WE.then_exit ?_
   refine WE.block_hit ?_
   refine WE.then_n ?_
   refine WC.seq ?_
   refine WC.region ?_
   refine WL.val (v_loadN rfl rfl many_51 rfl allAt) (.none rfl) rfl rfl ?_
   refine WL.val (v_build rfl rfl zero_28 plc_28 rfl) (.none rfl) rfl rfl ?_
   refine WL.storeW rfl rfl rfl rfl many_51 rfl rfl (.none rfl) rfl ?_
   refine WL.storeW rfl rfl rfl rfl many_28 rfl rfl (.none rfl) rfl ?_
   refine WL.nil ?_
   refine WE.then_n ?_
   refine WC.ret ?_
   refine WE.ret2 (P := Tryd.prog) (.inl rfl) Tryd.results44 (resRow rfl many_51 rfl) (resRow rfl many_28 rfl) ?_
   have e0 : decD AtL.zero.d [] xs = .inl d := (by rw [hdec, List.drop_eq_nil_of_le (by omega), decD_nil])
   exact fun w' h => by
     unfold RDecP
     rw [e0]
     exact ⟨a, E ++ K, rfl, hsame, ⟨hown.mono fun e he => List.mem_append_right _ he, ⟨E, hoths, fun e he => List.mem_append_left _ he⟩, fun o' ho' => by
       obtain ⟨E', r1, r2⟩ := hvals o' ho'
       exact ⟨E', r1, fun e he => List.mem_append_right _ (r2 e he)⟩⟩, h.sub (List.Sublist.append (.refl _) (List.sublist_append_left _ _))⟩
end Go.Proofs.YtpjbofodllhjbaaDoor
